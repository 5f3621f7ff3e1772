/- Rules of the machine of abstract values, part 2. No condition. -/
import Derived.Test.YthcjhnmnhfgdiaaGreatDoorW16
import Derived.Test.YthcjhnmnhfgdiaaGreatDoorW18
import Derived.Test.YthcjhnmnhfgdiaaGreatDoorW05
import Derived.Sort.Row
set_option linter.all false
set_option maxHeartbeats 8000000
namespace Go.V
def gJ {α:Type _} (a b:α):(some a).getD b=a:=rfl
section
variable {P:Program} {g:Cfg} {n:Nat} {mu:Tmp->Bool} {h0:Heap} {bk:Nat->Bool} {ops:Array Oper}
theorem fE:∀ (l:List Oper) {K c:Frm->Heap->Prop} (_:∀fr h,K fr h->c fr h) (fr:Frm) (h:Heap),dY P mu ops l K fr h->dY P mu ops l c fr h
 | [],_,_,b,fr,h,a=>b fr h a
 |o::rest,K,c,b,fr,h,a=>by
  simp only[dY] at a⊢;cases e:qA ops fr o.guard with
  |true=>
   rw[e] at a;exact sM (λd h' f=>fE rest b _ _ f) a
  |false=>
   rw[e] at a;exact fE rest b _ _ a
theorem lz:∀ (l:List (Nat×Fl)) {K b:Frm->Heap->Prop} (_:∀fr h,K fr h->b fr h) (fl:Bool) (fr:Frm) (h:Heap),tH P mu h0 bk ops fl l K fr h->tH P mu h0 bk ops fl l b fr h
 | [],_,_,c,_,fr,h,a=>c fr h a
 |(i,st)::rest,K,b,c,fl,fr,h,a=>by
  simp only[tH] at a⊢;cases e:ops[i]? with
  |none=>rw[e] at a;exact a
  |some o=>
   rw[e] at a;exact nN (λd h' f=>⟨f.1,lz rest c _ _ _ f.2⟩) a
variable {fr:Frm}{h:Heap}
def Wn {l:List (Nat×Fl)} {K b:Frm->Heap->Prop} (c:∀fr h,K fr h->b fr h) {fl:Bool} (a:o8 P mu h0 bk ops fl l K fr h):o8 P mu h0 bk ops fl l b fr h:=by
 unfold o8 at a⊢;split at a
 ·exact lz _ c _ _ _ a
 ·exact⟨a.1,lz _ c _ _ _ a.2⟩
theorem wP:∀ (c:Code) {ro:Option Nat} {Q p:Exit->Frm->Heap->Prop} (_:∀e fr h,Q e fr h->p e fr h) (fr:Frm) (h:Heap),vwp P g n ro c Q fr h->vwp P g n ro c p fr h
 | .skip,_,_,_,m,fr,h,j=>m _ _ _ j
 | .exit _,_,_,_,m,fr,h,j=>m _ _ _ j
 | .ret,_,_,_,m,fr,h,j=>m _ _ _ j
 | .region id ops s,_,_,_,m,fr,h,j=>by
  simp only[vwp] at j⊢;cases s with
  |false=>exact fE _ (λfr h=>m _ fr h) _ _ j
  |true=>
   obtain⟨h0,h1,q⟩:=j;exact⟨h0,h1,Wn (λfr h=>m _ fr h) q⟩
 | .seq a b,ro,Q,p,m,fr,h,j=>by
  simp only[vwp] at j⊢;refine wP a (λe fr h o=> ?_) fr h j;cases e with
  |normal=>exact wP b m fr h o
  |_=>exact m _ _ _ o
 | .cond c a b,ro,Q,p,m,fr,h,j=>by
  simp only[vwp] at j⊢;split at j
  ·split at j
   ·exact wP a m fr h j
   ·exact wP b m fr h j
  ·exact j
 | .block id c,ro,Q,p,m,fr,h,j=>by
  simp only[vwp] at j⊢;refine wP c (λe fr h o=> ?_) fr h j;cases e with
  |exit i=>
   simp only[mD] at o⊢;split at o
   ·rename_i t;rw[ip t];exact m _ _ _ o
   ·rename_i t;rw[iq t];exact m _ _ _ o
  |_=>exact m _ _ _ o
 | .loop c,ro,Q,p,m,fr,h,j=>by
  simp only[vwp] at j⊢;obtain⟨I,h1,q⟩:=j;refine⟨I,h1,λk fr h w=>wP c (λe fr h o=> ?_) fr h (q k fr h w)⟩;cases e with
  |normal=>exact o
  |_=>exact m _ _ _ o
 | .rangeFunc f x u body,ro,Q,p,m,fr,h,j=>by
  simp only[vwp] at j⊢;refine⟨j.1,?_⟩;have q:=j.2;cases hf:yC fr f<;>rw[hf] at q<;>simp only[VFn] at q⊢;rename_i v first cap
  cases v<;>simp only at q⊢;refine zA.mono q λd h' o=> ?_;obtain⟨r,r1,r2,r3⟩:=o;refine⟨r,r1,r2,?_⟩;unfold dp at r3⊢;split at r3
  ·exact m _ _ _ r3
  ·split at r3
   ·exact m _ _ _ r3
   ·exact m _ _ _ r3
   ·exact r3
 | .label _,_,_,_,m,fr,h,j=>m _ _ _ j
 | .goto _,_,_,_,_,_,_,j=>j
 | .scope c,ro,Q,p,m,fr,h,j=>by
  simp only[vwp] at j⊢;refine wP c (λe fr h o=> ?_) fr h j;cases e with
  |goto l=>exact o
  |_=>exact m _ _ _ o
 | .refuse ..,_,_,_,_,_,_,j=>j
end
section
variable {P:Program} {g:Cfg} {n:Nat} {ro:Option Nat} {c:Code} {Q:Exit->Frm->Heap->Prop} {fr:Frm} {h:Heap}
variable {f:FuncId}{args:List D}
def xO (b:P.follows .mixedOrders=true) {fn:Func} {co:Code} {R:D->Heap->Prop} (hf:P.funcs[f]? =some fn) (a:zY P g fn=true) (c:fn.body=some co) (d:Nat.ble args.length fn.ntmps=true)
  (e:vwp P g fn.ntmps none co (Ii P fn.results.toList R) (V.aQ args) h):zA P f args h R:=by
 unfold zY at a;rw[c] at a;simp only[Bool.and_eq_true,Bool.not_eq_true'] at a;exact zA.of_body b hf c a.2 a.1 (Nat.le_of_ble_eq_true d) e
def yF (J:Nat->Frm->Heap->Prop) (len:Nat) (b:J 0 fr h) (step:∀i fr h,i<=len->J i fr h->vwp P g n ro c (nO (λfr h=>i<len/\J (i+1) fr h) Q) fr h):vwp P g n ro (.loop c) Q fr h:=by
 refine V1 (λk fr h=>∃i,k=len-i/\i<=len/\J i fr h) len ⟨0,by simp,Nat.zero_le _,b⟩ ?_;rintro k fr h ⟨i,rfl,j,f⟩;refine wP c ?_ fr h (step i fr h j f);intro e d h' a;cases e with
 |normal=>exact⟨len- (i+1),by have:=a.1;omega,i+1,rfl,a.1,a.2⟩
 |_=>exact a
end
def zd {x:Int} (h1: -9223372036854775808<=x) (a:x<9223372036854775808):IntKind.i64.wrap x=x:=by
 unfold IntKind.wrap;simp[IntKind.signed,IntKind.bits];split<;>omega
variable {i id n nid sz k:Nat}{fr:Frm}{h h' h0:Heap}{f:FuncId}{args cs:List D}{P:Program}{t:TypeId}{z x d:D}{xs ys X:List (List D)}{S S':Nat->Prop}{K Q:D->Heap->Prop}{tk:Tk}{α:Type}{l:Loc}{ev:Operand->D}{o:Oper}{bk:Nat->Bool}{b:Bool}
def zw (h:i<=lim):IntKind.i64.wrap ((i:Int)+1)=((i+1:Nat):Int):=by
 rw[zd ow (by unfold lim at h;omega)];norm_cast
@[go_sem] theorem zAM (mu:Tmp->Bool) (t:Tmp):lR mu (some t)=mu t:=(rfl)
attribute [go_sem] List.contains_nil List.map_cons List.map_nil List.nil_append List.append_nil List.cons_append Bool.false_eq_true Bool.or_false Bool.or_true Bool.true_or Bool.false_or Bool.not_true Bool.not_false List.getElem?_cons_zero List.getElem?_cons_succ
@[go_sem] theorem zFC (t:Tmp):isC (.tmp t)=false:=(rfl)
@[go_sem] theorem zAN (v:Value):isC (.const v)=true:=(rfl)
@[go_sem] theorem Fv (h:Heap) (i:Nat) (o:Obj):(h.new i o).at' i=some o:=zK h i o
@[go_sem] theorem zC (h:Heap) (i:Nat) (o:Obj):(h.set i o).at' i=some o:=by simp[Heap.set]
@[go_sem] theorem Fw (P:Program) (nid:Nat) (t:TypeId) (x:Operand) (fr:Frm) (h:Heap):vop P false nid (.box t x) (yC fr) h=if(yC fr x).notTuple then some (.iptr (yC fr x).cells 0,h) else none:=by
 simp[vop]
@[go_sem] theorem Fx (P:Program) (nid:Nat) (t:TypeId) (x:Operand) (fr:Frm) (h:Heap):vop P true nid (.box t x) (yC fr) h=if(yC fr x).notTuple then some (.ptr nid 0,h.new nid (.row (yC fr x).cells)) else none:=by
 simp[vop]
def kn (t:TypeId) (nid:Nat) (h:Heap):Option D->VR
 |some z=>if z.notTuple then some (.ptr nid 0,h.new nid (lO t z.cells)) else none
 |none=>none
@[go_sem] theorem zAO (P:Program) (m:Bool) (nid:Nat) (t:TypeId) (fr:Frm) (h:Heap):vop P m nid (.alloc t) (yC fr) h=kn t nid h (qK P t):=by
 simp only[vop,kn];cases qK P t<;>rfl
@[go_sem] theorem CA (t:TypeId) (nid:Nat) (h:Heap) (cs:List D):kn t nid h (some (.agg cs))=some (.ptr nid 0,h.new nid (lO t cs)):=(rfl)
@[go_sem] theorem CB (t:TypeId) (nid:Nat) (h:Heap) (k:IntKind) (n:Int):kn t nid h (some (.int k n))=some (.ptr nid 0,h.new nid (.row [.int k n])):=(rfl)
@[go_sem] theorem CC (t:TypeId) (nid:Nat) (h:Heap) (s:List UInt8):kn t nid h (some (.str s))=some (.ptr nid 0,h.new nid (.row [.str s])):=(rfl)
@[go_sem] theorem H0 (t:TypeId) (nid:Nat) (h:Heap):kn t nid h (some .nilsl)=some (.ptr nid 0,h.new nid (.row [.nilsl])):=(rfl)
@[go_sem] theorem zAP (t:TypeId) (k:IntKind) (n:Int) (cs:List D):lO t (.int k n::cs)= .row (.int k n::cs):=(rfl)
@[go_sem] theorem zAQ (t:TypeId) (s:List UInt8) (cs:List D):lO t (.str s::cs)= .row (.str s::cs):=(rfl)
@[go_sem] theorem CD (t:TypeId) (b:Bool) (cs:List D):lO t (.bool b::cs)= .row (.bool b::cs):=(rfl)
@[go_sem] theorem Fy (t:TypeId) (cs:List D):lO t (.nilsl::cs)= .row (.nilsl::cs):=(rfl)
@[go_sem] theorem kp (cs:List D):(D.agg cs).notTuple=true:=(rfl)
@[go_sem] theorem Yo (s:List UInt8):(D.str s).notTuple=true:=(rfl)
@[go_sem] theorem Yp (cs:List D):(D.agg cs).cells=cs:=(rfl)
@[go_sem] theorem Nx (s:List UInt8):(D.str s).cells= [.str s]:=(rfl)
def fF (b:h.at' id=some (.row cs)) (a:agT P t=some true) (c:szT P t=cs.length) (h0:0<cs.length):sH P t (.ptr id 0) h=some (.agg cs):=by
 simp only[sH,a,b,zM,c];rw[ip trivial,iq ow,ip ow];simp
def yM {cs cs':List D} (b:h.at' id=some (.row cs)) (d:szT P t=cs'.length) (a:cs.length=cs'.length) (h0:0<cs'.length) (hf:cs'.all D.flat=true):zP P t (.ptr id 0) (.agg cs') h=some (h.set id (.row cs')):=by
 have c:yU cs cs' 0=cs':=by simp[yU,a]
 simp only[zP,b,D.cells,d,c];rw[ip];simp only[Bool.and_eq_true,decide_eq_true_eq,ne_eq,Nat.zero_add];exact⟨⟨⟨λe=>by omega,trivial⟩,Nat.le_of_eq a.symm⟩,hf⟩
def zB (a:cs.length=n) (h0:0<n):zM true n cs 0=some (.agg cs):=by
 subst a;simp only[zM];rw[ip trivial,iq ow,ip ow];simp
def Ny (ag:Bool) (n off:Nat):Option Obj->Option D
 |some (.row cs)=>zM ag n cs off
 |some (.trow _ _ cs)=>zM ag n cs off
 |_=>none
@[go_sem ↓] theorem zAR (P:Program) (t:TypeId) (id off:Nat) (h:Heap):sH P t (.ptr id off) h=(match agT P t with
 |none=>none
 |some ag=>Ny ag (szT P t) off (h.at' id)):=by
 unfold sH;cases agT P t with
 |none=>rfl
 |some ag=>
  simp only;cases h.at' id with
  |none=>rfl
  |some o=>cases o<;>rfl
@[go_sem] theorem Fz (ag:Bool) (n off:Nat) (cs:List D):Ny ag n off (some (.row cs))=zM ag n cs off:=(rfl)
def zz {t e:TypeId} (j:qO P t=some e) (l:qK P e=some z) (k:szT P e=sz) (g:z.notTuple=true) (b:z.cells.length=sz) (h0:0<sz) (i:sz<=16777216)
  (f:x.notTuple=true) (a:x.cells.length=sz):zI P false nid t 1 [(0,x)] h=some (.sl sz [x.cells] .full,h):=by
 simp only[zI,j,l,k];have d:si 1 z.cells=z.cells:=by simp[si]
 have c:yU z.cells x.cells 0=x.cells:=by simp[yU,b,a]
 rw[ip (by simp[g,b,h0];omega)];simp only[qB,d];rw[ip (by simp[f,a,b])];simp only[Nat.zero_mul,c];simp[yH,<-a]
def wW (h:Heap) (sz:Nat) (xs:List (List D)) (d:D):Prop:=(d= .nilsl/\xs= [])\/∃t,d= .sl sz xs (.own t)/\h.at' t=some .tok/\t<h.next
def wW.isSl (a:wW h sz xs d):zZ sz xs d:=by
 rcases a with⟨rfl,rfl⟩ | ⟨t,rfl,_⟩
 ·exact zZ.nil
 ·exact zZ.mk _
def wW.keep (c:wW h sz xs d) (b:∀i,i<h.next->h'.at' i=h.at' i) (e:h.next<=h'.next):wW h' sz xs d:=by
 rcases c with h1| ⟨t,h1,a,h3⟩
 ·exact .inl h1
 ·exact .inr ⟨t,h1,by rw[b t h3];exact a,by omega⟩
open List hiding max min map and or get le lt range extract
open Nat(zero_le le_refl le_trans lt_irrefl le_of_lt lt_of_lt_of_le lt_of_le_of_lt lt_succ_iff_lt_or_eq le_of_lt_succ)
section
variable {P:Program}
theorem fG:∀ {xs:List (List D)},(∀x∈xs,zf k x)->tY k xs
 | [],_=>by simp only[tY]
 |x::xs,h=>by
  simp only[tY];exact⟨h x (by simp),fG λy a=>h y (by simp[a])⟩
theorem mZ:∀ {d vs:List D},zf k d->zf k vs->zf k (d++vs)
 | [],_,_,c=>c
 |a::d,vs,b,c=>by
  simp only[zf,cons_append] at b⊢;exact⟨b.1,mZ b.2 c⟩
theorem ma:∀b vs:List D,zq (b++vs)=zq b++zq vs
 | [],_=>by simp[zq]
 |a::b,vs=>by simp[zq,ma b vs]
theorem fH:∀ {xs:List (List D)},(∀x∈xs,zq x=x)->uM xs=xs
 | [],_=>by simp only[uM]
 |x::xs,h=>by
  simp only[uM];rw[h x (by simp),fH λy a=>h y (by simp[a])]
def yf (cs:List D):Prop:=cs.all D.flat=true/\zf 0 cs/\zq cs=cs
def yf.append {c vs:List D} (a:yf c) (b:yf vs):yf (c++vs):=
 ⟨by rw[all_append,a.1,b.1];rfl,mZ a.2.1 b.2.1,by rw[ma,a.2.2,b.2.2]⟩
def yf.nil:yf []:=⟨rfl,by simp only[zf],by simp only[zq]⟩
theorem bG {r:TypeId->List D->Prop} (hr:∀t cs,r t cs->yf cs):∀ (fs:List Field) (cs:List D),KT P r fs cs->yf cs
 | [],cs,h=>by
  simp only[KT] at h;subst h;exact yf.nil
 |f::fs,cs,h=>by
  obtain⟨c,cs',rfl,h1,a⟩:=h;exact yf.append (hr _ _ h1) (bG hr fs cs' a)
theorem mb:∀ (k:Nat) (t:TypeId) (cs:List D),Shp P k t cs->yf cs
 |0,_,_,h=>by simp only[Shp] at h
 |k+1,t,cs,h=>by
  simp only[Shp] at h;split at h
  ·obtain⟨b,rfl⟩:=h;exact⟨rfl,by simp[zf,below],by simp[zq,zi]⟩
  ·obtain⟨n,rfl,_⟩:=h;exact⟨rfl,by simp[zf,below],by simp[zq,zi]⟩
  ·obtain⟨s,rfl,_⟩:=h;exact⟨rfl,by simp[zf,below],by simp[zq,zi]⟩
  ·rcases h with rfl| ⟨xs,rfl,_,a⟩
   ·exact⟨rfl,by simp[zf,below],by simp[zq,zi]⟩
   ·refine⟨rfl,?_,?_⟩
    ·simp only[zf,below,and_true];exact fG λx h=>(mb k _ x (a x h)).2.1
    ·simp only[zq,zi];rw[fH λx h=>(mb k _ x (a x h)).2.2]
  ·exact bG (λt cs=>mb k t cs) _ _ h
  ·exact h.elim
end
def Ext (h h':Heap):Prop:=h.next<=h'.next/\∀i,i<h.next->h'.at' i=h.at' i
def But (S:Nat->Prop) (h h':Heap):Prop:=h.next<=h'.next/\∀i,i<h.next->¬S i->h'.at' i=h.at' i
def Ext.refl (h:Heap):Ext h h:=⟨le_refl _,λ_ _=>rfl⟩
def Ext.trans {h1 c h3:Heap} (a:Ext h1 c) (b:Ext c h3):Ext h1 h3:=⟨le_trans a.1 b.1,λi d=>by rw[b.2 i (by have:=a.1;omega),a.2 i d]⟩
def Ext.new {h h1:Heap} (a:Ext h h1) (hid:h.next<=id) (o:Obj):Ext h (h1.new id o):=⟨le_trans a.1 (qp _ _ _),λi b=>by rw[zG ow,a.2 i b]⟩
def Ext.set {h h1:Heap} (a:Ext h h1) (hid:h.next<=id) (o:Obj):Ext h (h1.set id o):=⟨a.1,λi b=>by rw[zE ow,a.2 i b]⟩
def Ext.del {h h1:Heap} (a:Ext h h1) (hid:h.next<=id):Ext h (h1.del id):=⟨a.1,λi b=>by rw[yI ow,a.2 i b]⟩
def Ext.but {h h1:Heap} (a:Ext h h1) (S:Nat->Prop):But S h h1:=⟨a.1,λi b _=>a.2 i b⟩
def But.refl (S:Nat->Prop) (h:Heap):But S h h:=⟨le_refl _,λ_ _ _=>rfl⟩
def But.trans {h1 c h3:Heap} (a:But S h1 c) (b:But S' c h3) (f:∀i,S' i->S i\/h1.next<=i):But S h1 h3:=
 ⟨le_trans a.1 b.1,λi e d=>by rw[b.2 i (by have:=a.1;omega) (λh=>(f i h).elim d ow),a.2 i e d]⟩
def But.set {h h1:Heap} (a:But S h h1) (hid:S id\/h.next<=id) (o:Obj):But S h (h1.set id o):=⟨a.1,λi c b=>by rw[zE (λe=>by subst e;exact hid.elim b ow),a.2 i c b]⟩
@[go_sem] theorem zT (h:Heap) (i:Nat) (o:Obj):(h.set i o).next=h.next:=(rfl)
@[go_sem] theorem U5 (h:Heap) (i:Nat):(h.del i).next=h.next:=(rfl)
def zF (h:Heap) (o:Obj):(h.new h.next o).next=h.next+1:=by simp[Heap.new]
def zo (h:Heap) (a:h.next<=i) (o:Obj):(h.new i o).next=i+1:=by simp[Heap.new];omega
section
variable {P:Program} {g:Cfg} {n:Nat} {ro:Option Nat} {Q:Exit->Frm->Heap->Prop} {fr:Frm} {h:Heap}
def Wo (ro:Option Nat) (h:Heap):Prop:=
 match ro with
 |none=>True
 |some id=>∃r,h.at' id=some (.loop r)
@[go_sem ↓] theorem H6:Wo none h=True:=(rfl)
@[go_sem ↓] theorem zGu (f:FuncId) (a c args:List D) (K:D->Heap->Prop):VFn P (.fn (.func f) a c) args h K=zA P f (a++args++c) h K:=(rfl)
@[go_sem ↓] theorem JL (f:Operand) (ps:Array Tmp) (asg body:Code):vwp P g n ro (.rangeFunc f ps asg body) Q fr h =
  (Wo ro h/\VFn P (yC fr f) [.yld h.next] (h.new h.next (.loop ⟨.ready,none,fr,ps,asg,body,n⟩)) λ_ h'=>∃r,h'.at' h.next=some (.loop r)/\r.st≠ .busy/\dp r.pending Q fr (h'.del h.next)):=by
 cases ro<;>simp only[vwp,Wo]
def ur:dp none Q fr h=Q .normal fr h:=(rfl)
def mc:dp (some .ret) Q fr h=Q .ret fr h:=(rfl)
@[go_sem ↓] theorem CE (t:Tmp) (ts:List Tmp) (d:D) (ds:List D):lU fr (t::ts) (d::ds)=lU (tP fr (some t) d) ts ds:=(rfl)
@[go_sem ↓] theorem zAS:lU fr [] []=fr:=(rfl)
def wh (K:D->Heap->Prop) (id:Nat) (e:Exit) (_:Frm) (h2:Heap):Prop:=∃L2,h2.at' id=some (.loop L2)/\aP K id L2 e h2
def qy {L:LRec} (a:h.at' id=some (.loop L)) (b:K (.bool true) (h.set id (.loop { L with st:= .ready,pending:=none }))):wh K id .normal fr h:=⟨L,a,b⟩
def l7 {L:LRec} (a:h.at' id=some (.loop L)) (b:K (.bool false) (h.set id (.loop { L with st:= .done,pending:=some .ret }))):wh K id .ret fr h:=⟨L,a,b⟩
def yo.round (f:P.follows .mixedOrders=true) {b:Array Tmp} {a body:Code} (m:h.at' id=some (.loop ⟨.ready,none,fr,b,a,body,n⟩)) (d:args.length=b.size)
  (i:b.toList.all (λt=>decide (t<n))=true) (k:qw P g n a=true) (l:qw P g n body=true)
  (o:vwp P g n (some id) a (nO (λc h1=>h1.at' id=some (.loop ⟨.ready,none,fr,b,a,body,n⟩)/\vwp P g n (some id) body (wh K id) c (h1.set id (.loop ⟨.busy,none,fr,b,a,body,n⟩))) (λ_ _ _=>False)) (lU fr b.toList args) h):yo P id args h K:=by
 refine yo.of_round (g:=g) f m d i k l (wP a (λe c h1 j=> ?_) _ _ o);cases e with
 |normal=>exact⟨_,j.1,rfl,j.2⟩
 |_=>exact j.elim
structure Yld (P:Program) (id:Nat) (len:Nat) (el:Nat->List D) (Y:Nat->(Nat->Prop)->Heap->Prop) (Z:(Nat->Prop)->Heap->Prop):Prop where
 here:∀k S h,Y k S h->∀i,S i->i<h.next
 loc:∀k S h h',Y k S h->h.next<=h'.next->(∀i,S i->h'.at' i=h.at' i)->Y k S h'
 hereZ:∀S h,Z S h->∀i,S i->i<h.next
 locZ:∀S h h',Z S h->h.next<=h'.next->(∀i,S i->h'.at' i=h.at' i)->Z S h'
 go:∀k S h,k<len->Y k S h->yo P id (el k) h λr h'=>∃S',(∀i,S' i->S i\/h.next<=i)/\But S h h'/\((r= .bool true/\Y (k+1) S' h')\/(r= .bool false/\Z S' h'))
variable {h:Heap}
def Yld.ext {id len:Nat} {el:Nat->List D} {Y:Nat->(Nat->Prop)->Heap->Prop} {Z:(Nat->Prop)->Heap->Prop} (y:Yld P id len el Y Z) (b:Y k S h) (a:Ext h h'):Y k S h':=
 y.loc k S h h' b a.1 λi c=>a.2 i (y.here k S h b i c)
end
section
variable {P:Program} {sz:Nat}
def qD (a:∀x∈xs,x.length=sz):xs.flatten.length=xs.length*sz:=by
 induction xs with
 |nil=>simp
 |cons x xs c=>rw[flatten_cons,length_append,a x (by simp),c (λy b=>a y (by simp[b])),length_cons,Nat.succ_mul];omega
theorem fI:∀ {xs:List (List D)} (_:∀x∈xs,x.length=sz) {i:Nat} {x:List D} (_:xs[i]? =some x),(xs.flatten.drop (i*sz)).take sz=x
 | [],_,i,x,h=>by simp at h
 |y::xs,a,0,x,h=>by
  simp only[getElem?_cons_zero,Option.some.injEq] at h;subst h;rw[Nat.zero_mul,drop_zero,flatten_cons,take_append_of_le_length (by rw[a y (by simp)];exact le_refl _),take_of_length_le (by rw[a y (by simp)];exact le_refl _)]
 |y::xs,a,i+1,x,h=>by
  simp only[getElem?_cons_succ] at h;have c:=a y (by simp);rw[flatten_cons,Nat.succ_mul,Nat.add_comm,drop_append,drop_of_length_le ow,nil_append,show sz+i*sz-y.length=i*sz by omega];exact fI (λz b=>a z (by simp[b])) h
theorem U6:∀ {xs:List (List D)} (_:∀x∈xs,x.length=sz) {i:Nat} (_:i<xs.length) {x:List D} (_:x.length=sz),yU xs.flatten x (i*sz)=(xs.set i x).flatten
 | [],_,i,h,x,_=>by simp at h
 |y::xs,a,0,h,x,b=>by
  have d:=a y (by simp);simp only[yU,Nat.zero_mul,take_zero,nil_append,Nat.zero_add,flatten_cons,set_cons_zero];rw[drop_append,drop_of_length_le ow,nil_append,show x.length-y.length=0 by omega,drop_zero]
 |y::xs,a,i+1,h,x,b=>by
  have d:=a y (by simp);have c:=U6 (xs:=xs) (λz e=>a z (mem_cons_of_mem _ e)) (i:=i) (by simpa using h) b;simp only[yU] at c⊢;rw[flatten_cons,set_cons_succ,flatten_cons,<-c,Nat.succ_mul,Nat.add_comm (i*sz) sz,take_append,take_of_length_le ow,show sz+i*sz-y.length=i*sz by omega,drop_append,drop_of_length_le ow,nil_append,show sz+i*sz+x.length-y.length=i*sz+x.length by omega];simp
def z8 {t e:TypeId} {id len:Nat} (a:qO P t=some e) (c:szT P e=sz) {k:IntKind} (b:i<len):zQ P t (.rs id sz 0 len) (.int k (i:Int))=some (.ptr id (i*sz)):=by
 simp[zQ,a,c,b]
variable {h:Heap}
def tQ {t e:TypeId} {id off len:Nat} (a:P.underlying t=some (.slice e)):tU P t (.rs id sz off len) h=some (.int .i64 len):=by simp[tU,a]
def sD (c:∀x∈xs,x.length=sz) (h0:0<sz) {x:List D} (b:xs[i]? =some x):zM true sz xs.flatten (i*sz)=some (.agg x):=by
 have a:i<xs.length:=(List.getElem?_eq_some_iff.1 b).1;have h1:i*sz+sz<=xs.length*sz:=by rw[<-Nat.succ_mul];exact Nat.mul_le_mul_right _ a
 simp only[zM,if_true];rw[iq ow,ip (by rw[qD c];exact h1),fI c b]
def fJ (hr:h.at' id=some (.row xs.flatten)) (c:∀x∈xs,x.length=sz) (h0:0<sz) (d:szT P t=sz) (a:i<xs.length) {x:List D} (b:x.length=sz) (hf:x.all D.flat=true):
  zP P t (.ptr id (i*sz)) (.agg x) h=some (h.set id (.row (xs.set i x).flatten)):=by
 have h1:i*sz+sz<=xs.length*sz:=by rw[<-Nat.succ_mul];exact Nat.mul_le_mul_right _ a
 simp only[zP,hr,D.cells,d,b];rw[ip,U6 c a b];simp only[Bool.and_eq_true,decide_eq_true_eq,ne_eq];refine⟨⟨⟨by omega,trivial⟩,by rw[qD c];exact h1⟩,hf⟩
def sW (a:∀x∈xs,x.length=sz):yH sz xs.length xs.flatten=xs:=by
 have:=tp sz xs [] 0 a;simpa [yH] using this
def kq {t e:TypeId} (c:qO P t=some e) (g:gB P e=true) (f:szT P e=sz) (h0:0<sz) (a:∀x∈xs,x.length=sz) (b:xs.length*ye P e<=lim) (d:xs.length<=lim):
  zu P false nid t (.sl sz [] .full) (.sl sz xs tk) h=if xs.length=0 then some (.sl sz [] .full,h) else some (.sl sz xs (.own nid),h.new nid .tok):=by
 simp only[zu,c,g,f,R7,if_true,qD a,Nat.mul_div_cancel _ h0,qf];rw[ip (by simp only[length_nil,Nat.zero_add,Bool.and_eq_true,decide_eq_true_eq];exact⟨⟨trivial,b⟩,d⟩)];simp only[Bool.false_eq_true,if_false,sW a,nil_append]
def tr {t e:TypeId} (b:qO P t=some e) (g:gB P e=true) (d:szT P e=sz) (h0:0<sz) (f:∀x∈xs,x.length=sz) (a:xs.length*ye P e<=lim) (c:xs.length<=lim):
  zu P true nid t (.sl sz [] .full) (.sl sz xs tk) h=if xs.length=0 then some (.sl sz [] .full,h) else some (.rs nid sz 0 xs.length,h.new nid (uZ P e xs.flatten)):=by
 simp only[zu,b,g,d,R7,if_true,qD f,Nat.mul_div_cancel _ h0,qf];rw[ip (by simp only[length_nil,Nat.zero_add,Bool.and_eq_true,decide_eq_true_eq];exact⟨⟨trivial,a⟩,c⟩)];simp only[length_nil,Nat.zero_add,flatten_nil,nil_append]
def RR {e:TypeId} (a:P.underlying e=some (.int .i64)):uZ P e cs= .row cs:=by simp[uZ,a]
def uP {e:TypeId} {fs:Array Field} (a:P.underlying e=some (.struct fs)):uZ P e cs= .row cs:=by simp[uZ,a]
end
open Go.RowKit (Below)
def fK (W:World) (b:Nat) (c':Array Value):Go.Sort.mapBlock W b (λ_=>c')=W.setRow b c':=by
 unfold Go.Sort.mapBlock World.setRow;congr 1
section
variable {w0:Base} {G:List Nat} {M:Imm} {ρ:Ren} {h:Heap} {w:World}
theorem Sim.ahead (a:Sim w0 G M ρ h w):∀q:Nat,Sim w0 G M ρ h (Go.Sort.ahead w q)
 |0=>a
 |q+1=>by
  have:=(Sim.ahead a q).drew
  rwa [Go.Sort.ahead_drew] at this
def Sim.putRow [Inhabited α] {enc:α->Value} {dd:α->D} (r:∀x,(dd x).flat=true) (B:Sim w0 G M ρ h w) {pre post:List D} {xs ys:List α} (z:h.at' id=some (.row (pre++xs.map dd++post))) (A:ρ id=some l)
  (j:ys.length=xs.length) (J:∀y∈ys,rel M ρ (dd y) (enc y)):Sim w0 G M ρ (h.set id (.row (pre++ys.map dd++post))) (Go.Sort.putRow enc w l.blk pre.length ys.toArray):=by
 obtain⟨N,h1,_,hM,c,e,C,H,p,a⟩:=B.live id _ z;rw[A] at h1;cases h1;have F:(pre++xs.map dd++post).length=pre.length+xs.length+post.length:=by simp;omega
 have o:(pre++ys.map dd++post).length=pre.length+xs.length+post.length:=by simp[j];omega
 unfold Go.Sort.putRow;rw[Go.Sort.mapBlock_congr w l.blk (Go.Sort.putCells enc pre.length ys.toArray) (λ_=>Go.Sort.putCells enc pre.length ys.toArray c) (λK e1 E h1=>by rw[C] at h1;cases h1;rfl),fK];have m:(Go.Sort.putCells enc pre.length ys.toArray c).size=c.size:=by simp[Go.Sort.putCells]
 refine B.setRow z A C m (by rw[m,o,<-F];exact p) (yG (by
  have e:(Go.Sort.putCells enc pre.length ys.toArray c).toList.length=c.size:=by rw[Array.length_toList];exact m
  rw[length_take,e];omega) λi d v b s=> ?_) ?_
 ·have k:i<(pre++ys.map dd++post).length:=(List.getElem?_eq_some_iff.1 b).1;rw[getElem?_take,ip k,Array.getElem?_toList] at s;simp only[Go.Sort.putCells,Array.getElem?_mapIdx] at s;obtain⟨v0,t,rfl⟩:=Option.map_eq_some_iff.1 s;by_cases f:pre.length<=i/\i<pre.length+ys.toArray.size
  ·rw[ip f];have n:i-pre.length<ys.length:=by have:=f.2;simp only[size_toArray] at this;omega
   rw[append_assoc,getElem?_append_right f.1,getElem?_append_left (by simpa using n),getElem?_map,getElem?_eq_getElem n] at b;cases b;rw[getElem!_pos ys.toArray (i-pre.length) (by simpa using n)];exact J _ (by simp)
  ·rw[iq f];have q:(pre++xs.map dd++post)[i]? =some d:=by
    simp only[size_toArray,not_and,Nat.not_lt] at f;by_cases I:i<pre.length
    ·rw[append_assoc,getElem?_append_left I] at b⊢;exact b
    ·have L:=f ow;rw[getElem?_append_right (by simp;omega)] at b⊢;simpa [j] using b
   obtain⟨_,u,e1,e2⟩:=a i d q;rw[t] at e1;cases e1;exact e2
 ·rw[all_append,all_append];have h1:pre.all D.flat=true:=all_eq_true.2 λd b=>by
   obtain⟨i,g⟩:=mem_iff_getElem?.1 b;have k:=(List.getElem?_eq_some_iff.1 g).1;exact(a i d (by rw[append_assoc,getElem?_append_left k];exact g)).1
  have h3:post.all D.flat=true:=all_eq_true.2 λd b=>by
   obtain⟨i,g⟩:=mem_iff_getElem?.1 b;exact(a (pre.length+xs.length+i) d (by rw[getElem?_append_right (by simp)];simpa using g)).1
  rw[h1,h3,all_eq_true.2 λd b=>by obtain⟨y,_,rfl⟩:=mem_map.1 b;exact r y];rfl
end
abbrev Way:=Nat×Fl×Bool
def onO (o:Option Oper) (k:Oper->Prop):Prop:=
 match o with
 |some o=>k o
 |none=>False
def fL (P:Program) (h0:Heap) (o:Op) (ev:Operand->D) (k:D->Prop):Prop:=
 match o with
 | .load t a=>onS (sH P t (ev a) h0) k
 |o=>∃d,KJ P h0 o ev d/\k d
def Nz (P:Program) (h0:Heap) (o:Op) (ev:Operand->D) (k:D->Prop):Prop:=(yz o).isSome=true/\∃S:D->Prop,(∃e,S e)/\Ty P h0 o ev S/\∀d,S d->k d
def Lz (P:Program) (mu:Tmp->Bool) (h0:Heap) (st:Fl) (ops:Array Oper) (o:Oper) (fr:Frm) (h:Heap) (k:D->Heap->Prop):Prop:=
 match qA ops fr o.guard with
 |false=>k wO h
 |true=>match st with
  | .st=>fL P h0 o.op (yC fr) λd=>k d h
  | .sq=>Nz P h0 o.op (yC fr) λd=>k d h
  | .no=>wE P (lR mu o.dst) h.next o.op (yC fr) h k
  | .qu=>wE P (lR mu o.dst) h.next o.op (yC fr) h λd h'=>h'=h/\k d h
  | .al i=>wE P (lR mu o.dst) (h0.next+i) o.op (yC fr) h k
def Yq (P:Program) (mu:Tmp->Bool) (h0:Heap) (ops:Array Oper):List Way->(Frm->Heap->Prop)->Frm->Heap->Prop
 | [],K,fr,h=>K fr h
 |w::rest,K,fr,h=>onO ops[w.1]? λo=>Lz P mu h0 w.2.1 ops o fr h λd h'=>(w.2.2=true->HLe h0 h')/\Yq P mu h0 ops rest K (tP fr o.dst d) h'
def bH (bk:Nat->Bool):Bool->List (Nat×Fl)->List Way->Bool
 |_,[],[]=>true
 |fl,x::xs,w::ws=>Nat.beq x.1 w.1&&(match x.2 with
  | .no=>match w.2.1 with
   | .no=>true
   |_=>false
  | .st=>match w.2.1 with
   | .st=>true
   |_=>false
  | .sq=>match w.2.1 with
   | .sq=>true
   |_=>false
  | .qu=>match w.2.1 with
   | .qu=>true
   |_=>false
  | .al i=>match w.2.1 with
   | .al j=>Nat.beq i j
   |_=>false)&&(w.2.2|| !(fl&& !bk x.1))&&bH bk (fl&& !bk x.1) xs ws
 |_,_,_=>false
section
variable {P:Program} {g:Cfg} {n:Nat} {ro:Option Nat} {Q:Exit->Frm->Heap->Prop} {fr:Frm} {h:Heap} {mu:Tmp->Bool} {h0:Heap}
def N2 {a:Operand} (c:sH P t (ev a) h0=some d):KJ P h0 (.load t a) ev d:=by
 intro h' b;simp only[wE,yz,vop,Vt b c,Option.map_some];exact⟨trivial,trivial⟩
def F0 {st:Fl} {ops:Array Oper} {k:D->Heap->Prop} (b:Lz P mu h0 st ops o fr h k):ux P mu h0 st ops o fr h k:=by
 unfold Lz at b;unfold ux;split at b
 ·rename_i c;rw[c];exact b
 ·rename_i c;rw[c];cases st with
  |st=>
   simp only at b⊢;unfold fL at b;split at b
   ·rename_i t a f;rw[f];unfold onS at b;split at b
    ·rename_i d e;exact⟨d,N2 e,b⟩
    ·exact b.elim
   ·exact b
  |_=>exact b
theorem bI {ops:Array Oper} {K:Frm->Heap->Prop} :∀ {l:List (Nat×Fl)} {g:List Way} {fl:Bool} {fr:Frm} {h:Heap},bH bk fl l g=true->Yq P mu h0 ops g K fr h->tH P mu h0 bk ops fl l K fr h
 | [],[],_,fr,h,_,a=>a
 | [],_::_,_,_,_,c,_=>by simp[bH] at c
 |_::_,[],_,_,_,c,_=>by simp[bH] at c
 |(i,st)::l,(j,e,b)::g,fl,fr,h,c,a=>by
  simp only[bH,Bool.and_eq_true] at c;obtain⟨⟨⟨q,f⟩,m⟩,r⟩:=c;have e1:i=j:=Nat.eq_of_beq_eq_true q;have e2:st=e:=by
   cases st<;>cases e<;>simp only at f<;>(first|rfl|(cases f;done)|skip)
   rw[Nat.eq_of_beq_eq_true f]
  subst e1;subst e2;simp only[Yq] at a;simp only[tH];unfold onO at a;split at a
  ·rename_i o p;rw[p];refine nN (λd h' k=>⟨λn=>k.1 ?_,bI r k.2⟩) (F0 a);cases b with
   |true=>rfl
   |false=>rw[n] at m;simp at m
  ·exact a.elim
def zO (h0:Heap) (c:List Way) {l:List Oper} (e:bH (Lq P g.mu l.toArray (g.dr id) (jK l 0 [])) ((g.dr id).any (·.2.isSt)) (g.dr id) c=true) (a:Nat.beq (alN (g.dr id)) 0=true) (b:HLe h0 h)
  (d:Yq P g.mu h0 l.toArray c (Q .normal) fr h):vwp P g n ro (.region id l.toArray true) Q fr h:=by
 rw[Vz];refine⟨h0,b,?_⟩;rw[n9 (Nat.eq_of_beq_eq_true a)];exact bI e d
def wl:Nat->List (Nat×Fl)->List Oper->Bool
 |_,[],[]=>true
 |k,x::xs,_::os=>Nat.beq x.1 k&&x.2.isNo&&wl (k+1) xs os
 |_,_,_=>false
variable {h0:Heap}
theorem bJ {ops:Array Oper} {K:Frm->Heap->Prop} :∀ {l:List (Nat×Fl)} {c pre:List Oper} {fr:Frm} {h:Heap},ops.toList=pre++c->wl pre.length l c=true->dY P mu ops c K fr h->tH P mu h0 bk ops false l K fr h
 | [],[],_,fr,h,_,_,a=>a
 | [],_::_,_,_,_,_,b,_=>by simp[wl] at b
 |_::_,[],_,_,_,_,b,_=>by simp[wl] at b
 |(i,st)::l,o::c,pre,fr,h,j,b,a=>by
  simp only[wl,Bool.and_eq_true] at b;obtain⟨⟨p,q⟩,r⟩:=b;have e1:i=pre.length:=Nat.eq_of_beq_eq_true p;subst e1;have m:ops[pre.length]? =some o:=by rw[<-Array.getElem?_toList,j];simp
  have g:st= .no:=by cases st<;>simp[Fl.isNo] at q<;>rfl
  subst g;simp only[tH,m,Bool.false_and];simp only[dY] at a;have k:∀fr h,dY P mu ops c K fr h->tH P mu h0 bk ops false l K fr h:=λfr h a=>bJ (pre:=pre++ [o]) (by simp[j]) (by simpa using r) a;unfold ux;split at a
  ·rename_i f;rw[f];exact sM (λd h' n=>⟨λe=>(by cases e),k _ _ n⟩) a
  ·rename_i f;rw[f];exact⟨λe=>(by cases e),k _ _ a⟩
theorem kw:∀ {l:List (Nat×Fl)} {c:List Oper} {k:Nat},wl k l c=true->l.any (·.2.isSt)=false/\alN l=0
 | [],[],_,_=>⟨rfl,rfl⟩
 | [],_::_,_,a=>by simp[wl] at a
 |_::_,[],_,a=>by simp[wl] at a
 |(i,st)::l,o::c,k,a=>by
  simp only[wl,Bool.and_eq_true] at a;obtain⟨h1,d⟩:=kw a.2;have b:st= .no:=by have:=a.1.2;cases st<;>simp[Fl.isNo] at this<;>rfl
  subst b;exact⟨by rw[List.any_cons,h1];rfl,by simp only[alN,d]⟩
def zU {l:List Oper} (a:wl 0 (g.dr id) l=true) (c:dY P g.mu l.toArray l (Q .normal) fr h):vwp P g n ro (.region id l.toArray true) Q fr h:=by
 obtain⟨h1,b⟩:=kw a;rw[Vz];refine⟨⟨0,λ_=>none⟩,λi d e=>(by cases e),?_⟩;rw[n9 b,h1];exact bJ (pre:=[]) rfl a c
end
section
variable {P:Program} {mu:Tmp->Bool} {h0:Heap} {ops:Array Oper} {l:List Oper} {K:Frm->Heap->Prop} {k:D->Heap->Prop} {fr:Frm} {h:Heap} {dst:Option Tmp} {ty:TypeId} {pos:String} {after:Array Edge} {rest:List Way}
@[congr] theorem zAT {o o':Option Oper} {k:Oper->Prop} (h:o=o'):onO o k=onO o' k:=by rw[h]
@[go_sem ↓] theorem zAU:Yq P mu h0 ops [] K fr h=K fr h:=(rfl)
@[go_sem ↓] theorem CF (w:Way):Yq P mu h0 l.toArray (w::rest) K fr h=onO l[w.1]? λo=>Lz P mu h0 w.2.1 l.toArray o fr h λd h'=>(w.2.2=true->HLe h0 h')/\Yq P mu h0 l.toArray rest K (tP fr o.dst d) h':=by
 simp only[Yq,List.getElem?_toArray]
@[go_sem ↓] theorem zBz (o:Oper) (k:Oper->Prop):onO (some o) k=k o:=(rfl)
@[go_sem ↓] theorem zFD (op:Op):Lz P mu h0 .no ops ⟨dst,op,ty,pos,after,none⟩ fr h k=wE P (lR mu dst) h.next op (yC fr) h k:=(rfl)
@[go_sem ↓] theorem zFE (op:Op):Lz P mu h0 .st ops ⟨dst,op,ty,pos,after,none⟩ fr h k=fL P h0 op (yC fr) λd=>k d h:=(rfl)
@[go_sem ↓] theorem zFF (op:Op):Lz P mu h0 .sq ops ⟨dst,op,ty,pos,after,none⟩ fr h k=Nz P h0 op (yC fr) λd=>k d h:=(rfl)
@[go_sem ↓] theorem F5 (t:TypeId) (a:Operand) (k:D->Prop):fL P h0 (.load t a) (yC fr) k=onS (sH P t (yC fr a) h0) k:=(rfl)
@[go_sem ↓] theorem CG (st:Fl) (op:Op) (j:Nat) (b:Bool):Lz P mu h0 st ops ⟨dst,op,ty,pos,after,some (j,b)⟩ fr h k =
  gif (qA ops fr (some (j,b))) (Lz P mu h0 st ops ⟨dst,op,ty,pos,after,none⟩ fr h k) (k wO h):=by
 unfold Lz gif;cases qA ops fr (some (j,b))<;>rfl
end
def zAV:D->Bool
 | .nilsl=>true
 |_=>false
section
variable {P:Program} {t e:TypeId} {c:Bool} {sz:Nat} {xs:List (List D)} {d:D}
def wv (a:zZ sz xs d) (b:P.underlying t=some (.slice e)):pb P .eql t c d .nilsl=some (.bool (zAV d)):=by
 rcases a with⟨rfl,rfl⟩ | ⟨tk,rfl⟩ <;>simp[pb,IZ,tE,veq,b,zAV]
variable {h:Heap}
def qe (c:qO P t=some e) (f:qK P e=some z) (d:szT P e=sz) (b:z.notTuple=true) (a:z.cells.length=sz) (h0:0<sz):zI P false nid t 0 [] h=some (.sl sz [] .full,h):=by
 simp only[zI,c,f,d];rw[ip (by simp[b,a,h0])];simp[qB,yH]
end
mutual
theorem l8 (id:Nat) (cs:List D):∀d:D,below 0 d->frz id cs d=d
 | .bool _,_=>rfl
 | .int _ _,_=>rfl
 | .str _,_=>rfl
 | .nilptr,_=>rfl
 | .ptr _ _,h=>absurd h (Nat.not_lt_zero _)
 | .iptr b off,h=>by simp only[frz,ww id cs b h]
 | .nilsl,_=>rfl
 | .sl sz xs tk,h=>by
  simp only[below] at h;cases tk with
  |own t=>exact absurd h.2 (Nat.not_lt_zero _)
  |_=>simp only[frz,fM id cs xs h.1]
 | .rs _ _ _ _,h=>absurd h (Nat.not_lt_zero _)
 | .nilmap,_=>rfl
 | .map _,h=>absurd h (Nat.not_lt_zero _)
 | .fn f a c,h=>by simp only[frz,ww id cs a h.1,ww id cs c h.2]
 | .yld _,h=>absurd h (Nat.not_lt_zero _)
 | .nilfn,_=>rfl
 | .agg b,h=>by simp only[frz,ww id cs b h]
 | .tuple b,h=>by simp only[frz,ww id cs b h]
 | .iface t d,h=>by simp only[frz,l8 id cs d h]
 | .niliface,_=>rfl
theorem ww (id:Nat) (cs:List D):∀ds:List D,zf 0 ds->jL id cs ds=ds
 | [],_=>rfl
 |d::ds,h=>by simp only[jL,l8 id cs d h.1,ww id cs ds h.2]
theorem fM (id:Nat) (cs:List D):∀xs:List (List D),tY 0 xs->KP id cs xs=xs
 | [],_=>rfl
 |x::xs,h=>by simp only[KP,ww id cs x h.1,fM id cs xs h.2]
end
variable {xs:List (List D)}{fr:Frm}{h h0:Heap}{P:Program}{t:TypeId}{n sz k:Nat}{d:D}{K Q:D->Heap->Prop}{l:Loc}
def bK {id sz len:Nat} (a:∀x∈xs,x.length=sz) (c:xs.length=len) (b:cs=xs.flatten):frz id cs (.rs id sz 0 len)= .sl sz xs .no:=by
 subst b c;simp only[frz];rw[ip ⟨trivial,by rw[qD a];omega⟩,List.drop_zero,List.take_of_length_le (by rw[qD a];omega),sW a]
def Heap.Ok (h:Heap):Prop:=∀i,h.next<=i->h.at' i=none
def zA.known (e:wu P f=true) (j:zf h.next args->h.Ok->zA P f args h Q):zA P f args h Q:=by
 refine⟨e,λw0 G M ρ w n b d a hr=>(j (uj a _ _ hr) λi g=> ?_).2 w0 G M ρ w n b d a hr⟩;cases k:h.at' i with
 |none=>rfl
 |some m=>
  obtain⟨l,c,_⟩:=d.live i m k;rw[a i g] at c;cases c
def Ext.hle (a:h.Ok) (b:Ext h h'):HLe h h':=λi d e=>by
 by_cases c:i<h.next
 ·rw[b.2 i c];exact e
 ·rw[a i ow] at e;cases e
def xU {Q:D->Prop} (c:wu P f=true) (e:h.Ok->zA P f args h λd h'=>Ext h h'/\below h.next d/\Q d):zA P f args h λd h'=>h'=h/\Q d:=
 zA.known c λ_ a=>zA.gc (λ_=>(e a).mono λ_ _ b=>⟨b.1.hle a,b.2.1,b.2.2⟩) c
def yB (a:∀x∈xs,yf x) (tk:Tk):zi (.sl sz xs tk)= .sl sz xs .no/\below 0 (.sl sz xs .no):=by
 have b:uM xs=xs:=fH λx h=>(a x h).2.2;simp only[zi,b,below,and_true,true_and];exact fG λx h=>(a x h).2.1
section
variable {P:Program} {k:Nat} {t e:TypeId} {c:List D}
def rF {q:IntKind} (a:P.underlying t=some (.int q)) (h:Shp P k t c):∃n,c= [.int q n]/\fits q n:=by
 cases k with
 |zero=>simp only[Shp] at h
 |succ k=>simpa only[Shp,a] using h
def JM (a:P.underlying t=some .bool) (h:Shp P k t c):∃b,c= [.bool b]:=by
 cases k with
 |zero=>simp only[Shp] at h
 |succ k=>simpa only[Shp,a] using h
def uu (a:P.underlying t=some .string) (h:Shp P k t c):∃s,c= [.str s]/\s.length<=1048576:=by
 cases k with
 |zero=>simp only[Shp] at h
 |succ k=>simpa only[Shp,a] using h
def kx (f:P.underlying t=some (.slice e)) (b:szT P e=sz) (h:Shp P k t c):∃d xs j,c= [d]/\j<k/\zZ sz xs d/\(d= .nilsl\/d= .sl sz xs .no)/\xs.length<=1048576/\∀x∈xs,Shp P j e x:=by
 cases k with
 |zero=>simp only[Shp] at h
 |succ k=>
  simp only[Shp,f] at h;rcases h with rfl| ⟨xs,rfl,h1,a⟩
  ·exact⟨_,[],k,rfl,Nat.lt_succ_self _,zZ.nil, .inl rfl,by simp,by simp⟩
  ·have:P.cellsOf e=sz:=b;rw[this];exact⟨_,xs,k,rfl,Nat.lt_succ_self _,zZ.mk _, .inr rfl,h1,a⟩
def uv {fs:Array Field} (a:P.underlying t=some (.struct fs)) (h:Shp P k t c):∃j,j<k/\KT P (Shp P j) fs.toList c:=by
 cases k with
 |zero=>simp only[Shp] at h
 |succ k=>exact⟨k,Nat.lt_succ_self _,by simpa only[Shp,a] using h⟩
def z6 {r:TypeId->List D->Prop} {f:Field} {fs:List Field} (h:KT P r (f::fs) cs):∃c cs',cs=c++cs'/\r f.type c/\KT P r fs cs':=h
def pD {r:TypeId->List D->Prop} (h:KT P r [] cs):cs= []:=h
end
section
variable {P:Program}
variable {t:TypeId}
def zS {id off:Nat} (b:h.at' id=some (.row cs)) (e:szT P t=1) (c:off<cs.length) (a:x.cells= [x]) (hf:x.flat=true):zP P t (.ptr id off) x h=some (h.set id (.row (cs.set off x))):=by
 have d:yU cs [x] off=cs.set off x:=by
  simp only[yU,List.length_singleton];rw[List.set_eq_take_append_cons_drop,ip c];simp
 simp only[zP,b,e,a,d];rw[ip];simp[hf];omega
end
attribute [go_sem] true_and and_true true_implies implies_true false_implies
def wr {o:Obj} (c:h.at' i=some o):h.set i o=h:=by
 cases h with
 |mk n a=>
  simp only[Heap.set,Heap.mk.injEq,true_and]
  funext j
  by_cases b:j=i
  ·subst b;rw[ip rfl];exact c.symm
  ·rw[iq b]
def nU (h:Heap) (i:Nat) (o a:Obj):(h.new i o).set i a=h.new i a:=by
 simp only[Heap.set,Heap.new,Heap.mk.injEq,true_and]
 funext j
 by_cases b:j=i<;>simp[b]
variable {P:Program}{t:TypeId}{k:Nat}
def zg {cs cs':List D} (d:szT P t=n) (c:0<n) (b:cs.length=n) (a:cs'.length=n) (hf:cs'.all D.flat=true):zP P t (.ptr id 0) (.agg cs') (h.new id (.row cs))=some (h.new id (.row cs')):=by
 subst a;rw[yM (zK _ _ _) d b c hf,nU]
def wX:D->Nat->Prop
 | .sl _ _ (.own t),i=>i=t
 |_,_=>False
def wW.app2 {t e:TypeId} (o:wW h sz xs d) (n:qO P t=some e) (r:gB P e=true) (p:szT P e=sz) (h0:0<sz) (a:∀y∈ys,y.length=sz) (k:ys≠[])
  (g:(xs.length+ys.length)*ye P e<=lim) (j:xs.length+ys.length<=lim) (l:∀b h',wW h' sz (xs++ys) b->h.next<=h'.next->(∀i,i<h.next->¬wX d i->h'.at' i=h.at' i)->(∀i,wX b i->h.next<=i)->b.cells= [b]->b.flat=true->K b h'):onR (zu P false h.next t d (.sl sz ys tk) h) K:=by
 have m:0<ys.length:=List.length_pos_iff.2 k;simp only[zu,n,r,p,R7,if_true,qD a,Nat.mul_div_cancel _ h0];rcases o with⟨rfl,rfl⟩ | ⟨q,rfl,h1,s⟩
 ·simp only[qf];rw[iq ow,ip (by simp only[Bool.and_eq_true,decide_eq_true_eq];simp only[List.length_nil,Nat.zero_add] at g j;exact⟨g,j⟩)];simp only[Bool.false_eq_true,if_false,sW a,jk];refine l _ _ (.inr ⟨h.next,by simp,zK _ _ _,Nat.lt_of_lt_of_le (Nat.lt_succ_self _) (Nat.le_max_right _ _)⟩) (qp _ _ _) (λi c _=>zG ow) (λi c=> ?_) rfl rfl;simp only[wX] at c;omega
 ·simp only[qf];rw[ip (by simp only[Bool.and_eq_true,decide_eq_true_eq];exact⟨⟨trivial,g⟩,j⟩)];simp only[h1,Bool.false_eq_true,if_false,sW a,jk];refine l _ _ (.inr ⟨h.next,rfl,zK _ _ _,Nat.lt_of_lt_of_le (Nat.lt_succ_self _) (Nat.le_max_right _ _)⟩) (qp (h.del q) _ _) (λi c f=> ?_) (λi c=> ?_) rfl rfl
  ·simp only[wX] at f;rw[zG ow,yI f]
  ·simp only[wX] at c;omega
def CH (n0 sz:Nat) (L:LRec) (ps:List (List D)) (k:Nat) (S:Nat->Prop) (h:Heap):Prop:=
 n0+1<h.next/\h.at' (n0+1)=some (.loop L)/\∃d,h.at' n0=some (.row [d])/\wW h sz (ps.take k) d/\∀i,S i↔(i=n0\/i=n0+1\/wX d i)
def wW.tok (c:wW h sz xs d) (a:wX d i):i<h.next/\h.at' i=some .tok:=by
 rcases c with⟨rfl,_⟩ | ⟨t,rfl,h1,b⟩
 ·exact a.elim
 ·simp only[wX] at a;subst a;exact⟨b,h1⟩
def wW.loc (b:wW h sz xs d) (e:h.next<=h'.next) (a:∀i,wX d i->h'.at' i=h.at' i):wW h' sz xs d:=by
 rcases b with h1| ⟨t,rfl,h1,c⟩
 ·exact .inl h1
 ·exact .inr ⟨t,rfl,by rw[a t rfl];exact h1,by omega⟩
def CH.here {e sz:Nat} {L:LRec} (y:CH e sz L X k S h) (i:Nat) (b:S i):i<h.next:=by
 obtain⟨h1,_,d,_,h3,a⟩:=y;rcases(a i).1 b with rfl|rfl|c
 ·omega
 ·omega
 ·exact(h3.tok c).1
def CH.loc {b sz:Nat} {L:LRec} (y:CH b sz L X k S h) (g:h.next<=h'.next) (a:∀i,S i->h'.at' i=h.at' i):CH b sz L X k S h':=by
 obtain⟨h1,c,d,h3,e,h5⟩:=y;exact⟨by omega,by rw[a _ ((h5 _).2 (.inr (.inl rfl)))];exact c,d,by rw[a _ ((h5 _).2 (.inl rfl))];exact h3,e.loc g λi f=>a i ((h5 i).2 (.inr (.inr f))),h5⟩
def Ext.of_but {h h1 c:Heap} (a:Ext h h1) (b:But S h1 c) (f:∀i,S i->h.next<=i):Ext h c:=
 ⟨Nat.le_trans a.1 b.1,λi d=>by rw[b.2 i (by have:=a.1;omega) λe=>by have:=f i e;omega,a.2 i d]⟩
def Fin (sz:Nat) (xs:List (List D)) (d:D):Prop:=(d= .nilsl/\xs= [])\/d= .sl sz xs .no
def Fin.isSl (hf:Fin sz xs d):zZ sz xs d:=by
 rcases hf with⟨rfl,rfl⟩ |rfl
 ·exact zZ.nil
 ·exact zZ.mk _
def wW.fin (b:wW h sz xs d) (a:∀x∈xs,yf x):below 0 (zi d)/\Fin sz xs (zi d):=by
 rcases b with⟨rfl,rfl⟩ | ⟨t,rfl,_⟩
 ·exact⟨trivial, .inl ⟨rfl,rfl⟩⟩
 ·rw[(yB a _).1];exact⟨(yB a .no).2, .inr rfl⟩
@[go_sem ↓] theorem zAW (a:Oper) (l m:List Oper):List.append (a::l) m=a::List.append l m:=(rfl)
@[go_sem ↓] theorem zB0 (m:List Oper):List.append [] m=m:=(rfl)
@[go_sem ↓] theorem zB1 (a:Oper) (l:List Oper):(a::l)[0]? =some a:=(rfl)
@[go_sem ↓] theorem zB2 (a:Oper) (l:List Oper) (n:Nat):(a::l)[n+1]? =l[n]? :=(rfl)
def gdB:D->Bool->Bool
 | .bool x,b=>x==b
 |_,_=>false
def zAX:Option Oper->Frm->Bool->Bool
 |some o,fr,b=>match o.dst with
  |some t=>gdB (fr t) b
  |none=>false
 |none,_,_=>false
@[go_sem ↓] theorem F6 (l:List Oper) (fr:Frm) (j:Nat) (b:Bool):qA l.toArray fr (some (j,b))=zAX l[j]? fr b:=by
 unfold qA zAX;simp only[List.getElem?_toArray];cases l[j]? with
 |none=>rfl
 |some o=>
  simp only[Option.bind_some];cases o.dst with
  |none=>rfl
  |some t=>
   simp only;cases fr t<;>rfl
@[congr] theorem CI {o o':Option Oper} (h:o=o'):zAX o fr b=zAX o' fr b:=by rw[h]
@[go_sem ↓] theorem zAY (t:Tmp) (op:Op) (ty:TypeId) (pos:String) (after:Array Edge) (gd:Option (Nat×Bool)) (fr:Frm) (b:Bool):zAX (some ⟨some t,op,ty,pos,after,gd⟩) fr b=gdB (fr t) b:=(rfl)
@[go_sem ↓] theorem zB3 (x b:Bool):gdB (.bool x) b=(x==b):=(rfl)
@[go_sem ↓] theorem zAZ (b:Bool):gdB wO b=false:=(rfl)
@[go_sem] theorem zGv:(true==true)=true:=(rfl)
@[go_sem] theorem zGw:(true==false)=false:=(rfl)
@[go_sem] theorem zGx:(false==true)=false:=(rfl)
@[go_sem] theorem zGy:(false==false)=true:=(rfl)
def pw {g:Cfg} {ro:Option Nat} {c:Code} {K:Frm->Heap->Prop} {Q:Exit->Frm->Heap->Prop} (R:Frm->Heap->Prop) (h1:vwp P g n ro c (nO R λ_ _ _=>False) fr h) (b:∀fr h,R fr h->K fr h):vwp P g n ro c (nO K Q) fr h:=
 wP c (λe fr h a=>by
  cases e with
  |normal=>exact b fr h a
  |_=>exact a.elim) fr h h1
end Go.V
