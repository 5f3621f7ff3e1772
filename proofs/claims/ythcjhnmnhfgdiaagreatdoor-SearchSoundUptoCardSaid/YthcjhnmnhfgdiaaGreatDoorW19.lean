/- Rules of the machine of abstract values, part 2. No condition. -/
import Derived.Test.YthcjhnmnhfgdiaaGreatDoorW16
import Derived.Test.YthcjhnmnhfgdiaaGreatDoorW18
import Derived.Test.YthcjhnmnhfgdiaaGreatDoorW05
import Derived.Sort.Row
set_option linter.all false
set_option maxHeartbeats 8000000
namespace Go.V
def gJ {α:Type _} (a b:α):(some a).getD b=a:=rfl
section
variable {P:Program} {g:Cfg} {n:Nat} {mu:Tmp->Bool} {h0:Heap} {bk:Nat->Bool} {ops:Array Oper}
theorem fT:∀ (l:List Oper) {K c:Frm->Heap->Prop} (_:∀fr h,K fr h->c fr h) (fr:Frm) (h:Heap),cD P mu ops l K fr h->cD P mu ops l c fr h
 | [],_,_,b,fr,h,a=>b fr h a
 |o::rest,K,c,b,fr,h,a=>by
  simp only[cD] at a⊢;cases e:qC ops fr o.guard with
  |true=>
   rw[e] at a;exact sO (λd h' f=>fT rest b _ _ f) a
  |false=>
   rw[e] at a;exact fT rest b _ _ a
theorem kO:∀ (l:List (Nat×Fl)) {K b:Frm->Heap->Prop} (_:∀fr h,K fr h->b fr h) (fl:Bool) (fr:Frm) (h:Heap),tL P mu h0 bk ops fl l K fr h->tL P mu h0 bk ops fl l b fr h
 | [],_,_,c,_,fr,h,a=>c fr h a
 |(i,st)::rest,K,b,c,fl,fr,h,a=>by
  simp only[tL] at a⊢;cases e:ops[i]? with
  |none=>rw[e] at a;exact a
  |some o=>
   rw[e] at a;exact nf (λd h' f=>⟨f.1,kO rest c _ _ _ f.2⟩) a
variable {fr:Frm}{h:Heap}
def VM {l:List (Nat×Fl)} {K b:Frm->Heap->Prop} (c:∀fr h,K fr h->b fr h) {fl:Bool} (a:nL P mu h0 bk ops fl l K fr h):nL P mu h0 bk ops fl l b fr h:=by
 unfold nL at a⊢;split at a
 ·exact kO _ c _ _ _ a
 ·exact⟨a.1,kO _ c _ _ _ a.2⟩
theorem wT:∀ (c:Code) {ro:Option Nat} {Q p:Exit->Frm->Heap->Prop} (_:∀e fr h,Q e fr h->p e fr h) (fr:Frm) (h:Heap),vwp P g n ro c Q fr h->vwp P g n ro c p fr h
 | .skip,_,_,_,m,fr,h,j=>m _ _ _ j
 | .exit _,_,_,_,m,fr,h,j=>m _ _ _ j
 | .ret,_,_,_,m,fr,h,j=>m _ _ _ j
 | .region id ops s,_,_,_,m,fr,h,j=>by
  simp only[vwp] at j⊢;cases s with
  |false=>exact fT _ (λfr h=>m _ fr h) _ _ j
  |true=>
   obtain⟨h0,h1,q⟩:=j;exact⟨h0,h1,VM (λfr h=>m _ fr h) q⟩
 | .seq a b,ro,Q,p,m,fr,h,j=>by
  simp only[vwp] at j⊢;refine wT a (λe fr h o=> ?_) fr h j;cases e with
  |normal=>exact wT b m fr h o
  |_=>exact m _ _ _ o
 | .cond c a b,ro,Q,p,m,fr,h,j=>by
  simp only[vwp] at j⊢;split at j
  ·split at j
   ·exact wT a m fr h j
   ·exact wT b m fr h j
  ·exact j
 | .block id c,ro,Q,p,m,fr,h,j=>by
  simp only[vwp] at j⊢;refine wT c (λe fr h o=> ?_) fr h j;cases e with
  |exit i=>
   simp only[mV] at o⊢;split at o
   ·rename_i t;rw[ip t];exact m _ _ _ o
   ·rename_i t;rw[iq t];exact m _ _ _ o
  |_=>exact m _ _ _ o
 | .loop c,ro,Q,p,m,fr,h,j=>by
  simp only[vwp] at j⊢;obtain⟨I,h1,q⟩:=j;refine⟨I,h1,λk fr h w=>wT c (λe fr h o=> ?_) fr h (q k fr h w)⟩;cases e with
  |normal=>exact o
  |_=>exact m _ _ _ o
 | .rangeFunc f x u body,ro,Q,p,m,fr,h,j=>by
  simp only[vwp] at j⊢;refine⟨j.1,?_⟩;have q:=j.2;cases hf:yC fr f<;>rw[hf] at q<;>simp only[VFn] at q⊢;rename_i v first cap
  cases v<;>simp only at q⊢;refine zA.mono q λd h' o=> ?_;obtain⟨r,r1,r2,r3⟩:=o;refine⟨r,r1,r2,?_⟩;unfold cM at r3⊢;split at r3
  ·exact m _ _ _ r3
  ·split at r3
   ·exact m _ _ _ r3
   ·exact m _ _ _ r3
   ·exact r3
 | .label _,_,_,_,m,fr,h,j=>m _ _ _ j
 | .goto _,_,_,_,_,_,_,j=>j
 | .scope c,ro,Q,p,m,fr,h,j=>by
  simp only[vwp] at j⊢;refine wT c (λe fr h o=> ?_) fr h j;cases e with
  |goto l=>exact o
  |_=>exact m _ _ _ o
 | .refuse ..,_,_,_,_,_,_,j=>j
end
section
variable {P:Program} {g:Cfg} {n:Nat} {ro:Option Nat} {c:Code} {Q:Exit->Frm->Heap->Prop} {fr:Frm} {h:Heap}
variable {f:FuncId}{args:List D}
def xO (b:P.follows .mixedOrders=true) {fn:Func} {co:Code} {R:D->Heap->Prop} (hf:P.funcs[f]? =some fn) (a:zb P g fn=true) (c:fn.body=some co) (d:Nat.ble args.length fn.ntmps=true)
  (e:vwp P g fn.ntmps none co (Hi P fn.results.toList R) (V.av args) h):zA P f args h R:=by
 unfold zb at a;rw[c] at a;simp only[Bool.and_eq_true,Bool.not_eq_true'] at a;exact zA.of_body b hf c a.2 a.1 (Nat.le_of_ble_eq_true d) e
def yF (J:Nat->Frm->Heap->Prop) (len:Nat) (b:J 0 fr h) (step:∀i fr h,i<=len->J i fr h->vwp P g n ro c (ng (λfr h=>i<len/\J (i+1) fr h) Q) fr h):vwp P g n ro (.loop c) Q fr h:=by
 refine Ue (λk fr h=>∃i,k=len-i/\i<=len/\J i fr h) len ⟨0,by simp,Nat.zero_le _,b⟩ ?_;rintro k fr h ⟨i,rfl,j,f⟩;refine wT c ?_ fr h (step i fr h j f);intro e d h' a;cases e with
 |normal=>exact⟨len- (i+1),by have:=a.1;omega,i+1,rfl,a.1,a.2⟩
 |_=>exact a
end
def zj {x:Int} (h1: -9223372036854775808<=x) (a:x<9223372036854775808):IntKind.i64.wrap x=x:=by
 unfold IntKind.wrap;simp[IntKind.signed,IntKind.bits];split<;>omega
variable {i id n nid sz k:Nat}{fr:Frm}{h h' h0:Heap}{f:FuncId}{args cs:List D}{P:Program}{t:TypeId}{z x d:D}{xs ys X:List (List D)}{S S':Nat->Prop}{K Q:D->Heap->Prop}{tk:Tk}{α:Type}{l:Loc}{ev:Operand->D}{o:Oper}{bk:Nat->Bool}{b:Bool}
def zq (h:i<=lim):IntKind.i64.wrap ((i:Int)+1)=((i+1:Nat):Int):=by
 rw[zj ow (by unfold lim at h;omega)];norm_cast
@[go_sem] theorem zBO (mu:Tmp->Bool) (t:Tmp):lx mu (some t)=mu t:=(rfl)
attribute [go_sem] List.contains_nil List.map_cons List.map_nil List.nil_append List.append_nil List.cons_append Bool.false_eq_true Bool.or_false Bool.or_true Bool.true_or Bool.false_or Bool.not_true Bool.not_false List.getElem?_cons_zero List.getElem?_cons_succ
@[go_sem] theorem zGL (t:Tmp):isC (.tmp t)=false:=(rfl)
@[go_sem] theorem zBP (v:Value):isC (.const v)=true:=(rfl)
@[go_sem] theorem Ev (h:Heap) (i:Nat) (o:Obj):(h.new i o).at' i=some o:=zK h i o
@[go_sem] theorem zD (h:Heap) (i:Nat) (o:Obj):(h.set i o).at' i=some o:=by simp[Heap.set]
@[go_sem] theorem Ew (P:Program) (nid:Nat) (t:TypeId) (x:Operand) (fr:Frm) (h:Heap):vop P false nid (.box t x) (yC fr) h=if(yC fr x).notTuple then some (.iptr (yC fr x).cells 0,h) else none:=by
 simp[vop]
@[go_sem] theorem Ey (P:Program) (nid:Nat) (t:TypeId) (x:Operand) (fr:Frm) (h:Heap):vop P true nid (.box t x) (yC fr) h=if(yC fr x).notTuple then some (.ptr nid 0,h.new nid (.row (yC fr x).cells)) else none:=by
 simp[vop]
def nQ (t:TypeId) (nid:Nat) (h:Heap):Option D->VR
 |some z=>if z.notTuple then some (.ptr nid 0,h.new nid (lu t z.cells)) else none
 |none=>none
@[go_sem] theorem zBQ (P:Program) (m:Bool) (nid:Nat) (t:TypeId) (fr:Frm) (h:Heap):vop P m nid (.alloc t) (yC fr) h=nQ t nid h (qK P t):=by
 simp only[vop,nQ];cases qK P t<;>rfl
@[go_sem] theorem C9 (t:TypeId) (nid:Nat) (h:Heap) (cs:List D):nQ t nid h (some (.agg cs))=some (.ptr nid 0,h.new nid (lu t cs)):=(rfl)
@[go_sem] theorem BA (t:TypeId) (nid:Nat) (h:Heap) (k:IntKind) (n:Int):nQ t nid h (some (.int k n))=some (.ptr nid 0,h.new nid (.row [.int k n])):=(rfl)
@[go_sem] theorem BB (t:TypeId) (nid:Nat) (h:Heap) (s:List UInt8):nQ t nid h (some (.str s))=some (.ptr nid 0,h.new nid (.row [.str s])):=(rfl)
@[go_sem] theorem Gy (t:TypeId) (nid:Nat) (h:Heap):nQ t nid h (some .nilsl)=some (.ptr nid 0,h.new nid (.row [.nilsl])):=(rfl)
@[go_sem] theorem zBR (t:TypeId) (k:IntKind) (n:Int) (cs:List D):lu t (.int k n::cs)= .row (.int k n::cs):=(rfl)
@[go_sem] theorem zBS (t:TypeId) (s:List UInt8) (cs:List D):lu t (.str s::cs)= .row (.str s::cs):=(rfl)
@[go_sem] theorem BC (t:TypeId) (b:Bool) (cs:List D):lu t (.bool b::cs)= .row (.bool b::cs):=(rfl)
@[go_sem] theorem Ez (t:TypeId) (cs:List D):lu t (.nilsl::cs)= .row (.nilsl::cs):=(rfl)
@[go_sem] theorem XG (cs:List D):(D.agg cs).notTuple=true:=(rfl)
@[go_sem] theorem XH (s:List UInt8):(D.str s).notTuple=true:=(rfl)
@[go_sem] theorem Mq (cs:List D):(D.agg cs).cells=cs:=(rfl)
@[go_sem] theorem Mr (s:List UInt8):(D.str s).cells= [.str s]:=(rfl)
def fU (b:h.at' id=some (.row cs)) (a:agT P t=some true) (c:szT P t=cs.length) (h0:0<cs.length):sJ P t (.ptr id 0) h=some (.agg cs):=by
 simp only[sJ,a,b,zN,c];rw[ip trivial,iq ow,ip ow];simp
def yq {cs cs':List D} (b:h.at' id=some (.row cs)) (d:szT P t=cs'.length) (a:cs.length=cs'.length) (h0:0<cs'.length) (hf:cs'.all D.flat=true):zQ P t (.ptr id 0) (.agg cs') h=some (h.set id (.row cs')):=by
 have c:yV cs cs' 0=cs':=by simp[yV,a]
 simp only[zQ,b,D.cells,d,c];rw[ip];simp only[Bool.and_eq_true,decide_eq_true_eq,ne_eq,Nat.zero_add];exact⟨⟨⟨λe=>by omega,trivial⟩,Nat.le_of_eq a.symm⟩,hf⟩
def zB (a:cs.length=n) (h0:0<n):zN true n cs 0=some (.agg cs):=by
 subst a;simp only[zN];rw[ip trivial,iq ow,ip ow];simp
def Ms (ag:Bool) (n off:Nat):Option Obj->Option D
 |some (.row cs)=>zN ag n cs off
 |some (.trow _ _ cs)=>zN ag n cs off
 |_=>none
@[go_sem ↓] theorem zBT (P:Program) (t:TypeId) (id off:Nat) (h:Heap):sJ P t (.ptr id off) h=(match agT P t with
 |none=>none
 |some ag=>Ms ag (szT P t) off (h.at' id)):=by
 unfold sJ;cases agT P t with
 |none=>rfl
 |some ag=>
  simp only;cases h.at' id with
  |none=>rfl
  |some o=>cases o<;>rfl
@[go_sem] theorem E4 (ag:Bool) (n off:Nat) (cs:List D):Ms ag n off (some (.row cs))=zN ag n cs off:=(rfl)
def zy {t e:TypeId} (j:qQ P t=some e) (l:qK P e=some z) (k:szT P e=sz) (g:z.notTuple=true) (b:z.cells.length=sz) (h0:0<sz) (i:sz<=16777216)
  (f:x.notTuple=true) (a:x.cells.length=sz):zJ P false nid t 1 [(0,x)] h=some (.sl sz [x.cells] .full,h):=by
 simp only[zJ,j,l,k];have d:so 1 z.cells=z.cells:=by simp[so]
 have c:yV z.cells x.cells 0=x.cells:=by simp[yV,b,a]
 rw[ip (by simp[g,b,h0];omega)];simp only[qL,d];rw[ip (by simp[f,a,b])];simp only[Nat.zero_mul,c];simp[yI,<-a]
def wd (h:Heap) (sz:Nat) (xs:List (List D)) (d:D):Prop:=(d= .nilsl/\xs= [])\/∃t,d= .sl sz xs (.own t)/\h.at' t=some .tok/\t<h.next
def wd.isSl (a:wd h sz xs d):zd sz xs d:=by
 rcases a with⟨rfl,rfl⟩ | ⟨t,rfl,_⟩
 ·exact zd.nil
 ·exact zd.mk _
def wd.keep (c:wd h sz xs d) (b:∀i,i<h.next->h'.at' i=h.at' i) (e:h.next<=h'.next):wd h' sz xs d:=by
 rcases c with h1| ⟨t,h1,a,h3⟩
 ·exact .inl h1
 ·exact .inr ⟨t,h1,by rw[b t h3];exact a,by omega⟩
open List hiding max min map and or get le lt range extract
open Nat(zero_le le_refl le_trans lt_irrefl le_of_lt lt_of_lt_of_le lt_of_le_of_lt lt_succ_iff_lt_or_eq le_of_lt_succ)
section
variable {P:Program}
theorem fV:∀ {xs:List (List D)},(∀x∈xs,zh k x)->sR k xs
 | [],_=>by simp only[sR]
 |x::xs,h=>by
  simp only[sR];exact⟨h x (by simp),fV λy a=>h y (by simp[a])⟩
theorem mv:∀ {d vs:List D},zh k d->zh k vs->zh k (d++vs)
 | [],_,_,c=>c
 |a::d,vs,b,c=>by
  simp only[zh,cons_append] at b⊢;exact⟨b.1,mv b.2 c⟩
theorem mw:∀b vs:List D,zx (b++vs)=zx b++zx vs
 | [],_=>by simp[zx]
 |a::b,vs=>by simp[zx,mw b vs]
theorem fW:∀ {xs:List (List D)},(∀x∈xs,zx x=x)->sx xs=xs
 | [],_=>by simp only[sx]
 |x::xs,h=>by
  simp only[sx];rw[h x (by simp),fW λy a=>h y (by simp[a])]
def yh (cs:List D):Prop:=cs.all D.flat=true/\zh 0 cs/\zx cs=cs
def yh.append {c vs:List D} (a:yh c) (b:yh vs):yh (c++vs):=
 ⟨by rw[all_append,a.1,b.1];rfl,mv a.2.1 b.2.1,by rw[mw,a.2.2,b.2.2]⟩
def yh.nil:yh []:=⟨rfl,by simp only[zh],by simp only[zx]⟩
theorem bd {r:TypeId->List D->Prop} (hr:∀t cs,r t cs->yh cs):∀ (fs:List Field) (cs:List D),JR P r fs cs->yh cs
 | [],cs,h=>by
  simp only[JR] at h;subst h;exact yh.nil
 |f::fs,cs,h=>by
  obtain⟨c,cs',rfl,h1,a⟩:=h;exact yh.append (hr _ _ h1) (bd hr fs cs' a)
theorem my:∀ (k:Nat) (t:TypeId) (cs:List D),Shp P k t cs->yh cs
 |0,_,_,h=>by simp only[Shp] at h
 |k+1,t,cs,h=>by
  simp only[Shp] at h;split at h
  ·obtain⟨b,rfl⟩:=h;exact⟨rfl,by simp[zh,below],by simp[zx,z8]⟩
  ·obtain⟨n,rfl,_⟩:=h;exact⟨rfl,by simp[zh,below],by simp[zx,z8]⟩
  ·obtain⟨s,rfl,_⟩:=h;exact⟨rfl,by simp[zh,below],by simp[zx,z8]⟩
  ·rcases h with rfl| ⟨xs,rfl,_,a⟩
   ·exact⟨rfl,by simp[zh,below],by simp[zx,z8]⟩
   ·refine⟨rfl,?_,?_⟩
    ·simp only[zh,below,and_true];exact fV λx h=>(my k _ x (a x h)).2.1
    ·simp only[zx,z8];rw[fW λx h=>(my k _ x (a x h)).2.2]
  ·exact bd (λt cs=>my k t cs) _ _ h
  ·exact h.elim
end
def Ext (h h':Heap):Prop:=h.next<=h'.next/\∀i,i<h.next->h'.at' i=h.at' i
def But (S:Nat->Prop) (h h':Heap):Prop:=h.next<=h'.next/\∀i,i<h.next->¬S i->h'.at' i=h.at' i
def Ext.refl (h:Heap):Ext h h:=⟨le_refl _,λ_ _=>rfl⟩
def Ext.trans {h1 c h3:Heap} (a:Ext h1 c) (b:Ext c h3):Ext h1 h3:=⟨le_trans a.1 b.1,λi d=>by rw[b.2 i (by have:=a.1;omega),a.2 i d]⟩
def Ext.new {h h1:Heap} (a:Ext h h1) (hid:h.next<=id) (o:Obj):Ext h (h1.new id o):=⟨le_trans a.1 (qt _ _ _),λi b=>by rw[zH ow,a.2 i b]⟩
def Ext.set {h h1:Heap} (a:Ext h h1) (hid:h.next<=id) (o:Obj):Ext h (h1.set id o):=⟨a.1,λi b=>by rw[zE ow,a.2 i b]⟩
def Ext.del {h h1:Heap} (a:Ext h h1) (hid:h.next<=id):Ext h (h1.del id):=⟨a.1,λi b=>by rw[yJ ow,a.2 i b]⟩
def Ext.but {h h1:Heap} (a:Ext h h1) (S:Nat->Prop):But S h h1:=⟨a.1,λi b _=>a.2 i b⟩
def But.refl (S:Nat->Prop) (h:Heap):But S h h:=⟨le_refl _,λ_ _ _=>rfl⟩
def But.trans {h1 c h3:Heap} (a:But S h1 c) (b:But S' c h3) (f:∀i,S' i->S i\/h1.next<=i):But S h1 h3:=
 ⟨le_trans a.1 b.1,λi e d=>by rw[b.2 i (by have:=a.1;omega) (λh=>(f i h).elim d ow),a.2 i e d]⟩
def But.set {h h1:Heap} (a:But S h h1) (hid:S id\/h.next<=id) (o:Obj):But S h (h1.set id o):=⟨a.1,λi c b=>by rw[zE (λe=>by subst e;exact hid.elim b ow),a.2 i c b]⟩
@[go_sem] theorem zT (h:Heap) (i:Nat) (o:Obj):(h.set i o).next=h.next:=(rfl)
@[go_sem] theorem Tn (h:Heap) (i:Nat):(h.del i).next=h.next:=(rfl)
def zF (h:Heap) (o:Obj):(h.new h.next o).next=h.next+1:=by simp[Heap.new]
def zp (h:Heap) (a:h.next<=i) (o:Obj):(h.new i o).next=i+1:=by simp[Heap.new];omega
section
variable {P:Program} {g:Cfg} {n:Nat} {ro:Option Nat} {Q:Exit->Frm->Heap->Prop} {fr:Frm} {h:Heap}
def VN (ro:Option Nat) (h:Heap):Prop:=
 match ro with
 |none=>True
 |some id=>∃r,h.at' id=some (.loop r)
@[go_sem ↓] theorem Gz:VN none h=True:=(rfl)
@[go_sem ↓] theorem zH2 (f:FuncId) (a c args:List D) (K:D->Heap->Prop):VFn P (.fn (.func f) a c) args h K=zA P f (a++args++c) h K:=(rfl)
@[go_sem ↓] theorem IK (f:Operand) (ps:Array Tmp) (asg body:Code):vwp P g n ro (.rangeFunc f ps asg body) Q fr h =
  (VN ro h/\VFn P (yC fr f) [.yld h.next] (h.new h.next (.loop ⟨.ready,none,fr,ps,asg,body,n⟩)) λ_ h'=>∃r,h'.at' h.next=some (.loop r)/\r.st≠ .busy/\cM r.pending Q fr (h'.del h.next)):=by
 cases ro<;>simp only[vwp,VN]
def uz:cM none Q fr h=Q .normal fr h:=(rfl)
def mz:cM (some .ret) Q fr h=Q .ret fr h:=(rfl)
@[go_sem ↓] theorem BD (t:Tmp) (ts:List Tmp) (d:D) (ds:List D):l7 fr (t::ts) (d::ds)=l7 (tT fr (some t) d) ts ds:=(rfl)
@[go_sem ↓] theorem zBU:l7 fr [] []=fr:=(rfl)
def wK (K:D->Heap->Prop) (id:Nat) (e:Exit) (_:Frm) (h2:Heap):Prop:=∃L2,h2.at' id=some (.loop L2)/\ar K id L2 e h2
def wA {L:LRec} (a:h.at' id=some (.loop L)) (b:K (.bool true) (h.set id (.loop { L with st:= .ready,pending:=none }))):wK K id .normal fr h:=⟨L,a,b⟩
def kP {L:LRec} (a:h.at' id=some (.loop L)) (b:K (.bool false) (h.set id (.loop { L with st:= .done,pending:=some .ret }))):wK K id .ret fr h:=⟨L,a,b⟩
def yg.round (f:P.follows .mixedOrders=true) {b:Array Tmp} {a body:Code} (m:h.at' id=some (.loop ⟨.ready,none,fr,b,a,body,n⟩)) (d:args.length=b.size)
  (i:b.toList.all (λt=>decide (t<n))=true) (k:qy P g n a=true) (l:qy P g n body=true)
  (o:vwp P g n (some id) a (ng (λc h1=>h1.at' id=some (.loop ⟨.ready,none,fr,b,a,body,n⟩)/\vwp P g n (some id) body (wK K id) c (h1.set id (.loop ⟨.busy,none,fr,b,a,body,n⟩))) (λ_ _ _=>False)) (l7 fr b.toList args) h):yg P id args h K:=by
 refine yg.of_round (g:=g) f m d i k l (wT a (λe c h1 j=> ?_) _ _ o);cases e with
 |normal=>exact⟨_,j.1,rfl,j.2⟩
 |_=>exact j.elim
structure Yld (P:Program) (id:Nat) (len:Nat) (el:Nat->List D) (Y:Nat->(Nat->Prop)->Heap->Prop) (Z:(Nat->Prop)->Heap->Prop):Prop where
 here:∀k S h,Y k S h->∀i,S i->i<h.next
 loc:∀k S h h',Y k S h->h.next<=h'.next->(∀i,S i->h'.at' i=h.at' i)->Y k S h'
 hereZ:∀S h,Z S h->∀i,S i->i<h.next
 locZ:∀S h h',Z S h->h.next<=h'.next->(∀i,S i->h'.at' i=h.at' i)->Z S h'
 go:∀k S h,k<len->Y k S h->yg P id (el k) h λr h'=>∃S',(∀i,S' i->S i\/h.next<=i)/\But S h h'/\((r= .bool true/\Y (k+1) S' h')\/(r= .bool false/\Z S' h'))
variable {h:Heap}
def Yld.ext {id len:Nat} {el:Nat->List D} {Y:Nat->(Nat->Prop)->Heap->Prop} {Z:(Nat->Prop)->Heap->Prop} (y:Yld P id len el Y Z) (b:Y k S h) (a:Ext h h'):Y k S h':=
 y.loc k S h h' b a.1 λi c=>a.2 i (y.here k S h b i c)
end
section
variable {P:Program} {sz:Nat}
def qF (a:∀x∈xs,x.length=sz):xs.flatten.length=xs.length*sz:=by
 induction xs with
 |nil=>simp
 |cons x xs c=>rw[flatten_cons,length_append,a x (by simp),c (λy b=>a y (by simp[b])),length_cons,Nat.succ_mul];omega
theorem fX:∀ {xs:List (List D)} (_:∀x∈xs,x.length=sz) {i:Nat} {x:List D} (_:xs[i]? =some x),(xs.flatten.drop (i*sz)).take sz=x
 | [],_,i,x,h=>by simp at h
 |y::xs,a,0,x,h=>by
  simp only[getElem?_cons_zero,Option.some.injEq] at h;subst h;rw[Nat.zero_mul,drop_zero,flatten_cons,take_append_of_le_length (by rw[a y (by simp)];exact le_refl _),take_of_length_le (by rw[a y (by simp)];exact le_refl _)]
 |y::xs,a,i+1,x,h=>by
  simp only[getElem?_cons_succ] at h;have c:=a y (by simp);rw[flatten_cons,Nat.succ_mul,Nat.add_comm,drop_append,drop_of_length_le ow,nil_append,show sz+i*sz-y.length=i*sz by omega];exact fX (λz b=>a z (by simp[b])) h
theorem To:∀ {xs:List (List D)} (_:∀x∈xs,x.length=sz) {i:Nat} (_:i<xs.length) {x:List D} (_:x.length=sz),yV xs.flatten x (i*sz)=(xs.set i x).flatten
 | [],_,i,h,x,_=>by simp at h
 |y::xs,a,0,h,x,b=>by
  have d:=a y (by simp);simp only[yV,Nat.zero_mul,take_zero,nil_append,Nat.zero_add,flatten_cons,set_cons_zero];rw[drop_append,drop_of_length_le ow,nil_append,show x.length-y.length=0 by omega,drop_zero]
 |y::xs,a,i+1,h,x,b=>by
  have d:=a y (by simp);have c:=To (xs:=xs) (λz e=>a z (mem_cons_of_mem _ e)) (i:=i) (by simpa using h) b;simp only[yV] at c⊢;rw[flatten_cons,set_cons_succ,flatten_cons,<-c,Nat.succ_mul,Nat.add_comm (i*sz) sz,take_append,take_of_length_le ow,show sz+i*sz-y.length=i*sz by omega,drop_append,drop_of_length_le ow,nil_append,show sz+i*sz+x.length-y.length=i*sz+x.length by omega];simp
def z6 {t e:TypeId} {id len:Nat} (a:qQ P t=some e) (c:szT P e=sz) {k:IntKind} (b:i<len):zP P t (.rs id sz 0 len) (.int k (i:Int))=some (.ptr id (i*sz)):=by
 simp[zP,a,c,b]
variable {h:Heap}
def tU {t e:TypeId} {id off len:Nat} (a:P.underlying t=some (.slice e)):sD P t (.rs id sz off len) h=some (.int .i64 len):=by simp[sD,a]
def sG (c:∀x∈xs,x.length=sz) (h0:0<sz) {x:List D} (b:xs[i]? =some x):zN true sz xs.flatten (i*sz)=some (.agg x):=by
 have a:i<xs.length:=(List.getElem?_eq_some_iff.1 b).1;have h1:i*sz+sz<=xs.length*sz:=by rw[<-Nat.succ_mul];exact Nat.mul_le_mul_right _ a
 simp only[zN,if_true];rw[iq ow,ip (by rw[qF c];exact h1),fX c b]
def fY (hr:h.at' id=some (.row xs.flatten)) (c:∀x∈xs,x.length=sz) (h0:0<sz) (d:szT P t=sz) (a:i<xs.length) {x:List D} (b:x.length=sz) (hf:x.all D.flat=true):
  zQ P t (.ptr id (i*sz)) (.agg x) h=some (h.set id (.row (xs.set i x).flatten)):=by
 have h1:i*sz+sz<=xs.length*sz:=by rw[<-Nat.succ_mul];exact Nat.mul_le_mul_right _ a
 simp only[zQ,hr,D.cells,d,b];rw[ip,To c a b];simp only[Bool.and_eq_true,decide_eq_true_eq,ne_eq];refine⟨⟨⟨by omega,trivial⟩,by rw[qF c];exact h1⟩,hf⟩
def sZ (a:∀x∈xs,x.length=sz):yI sz xs.length xs.flatten=xs:=by
 have:=tt sz xs [] 0 a;simpa [yI] using this
def jP {t e:TypeId} (c:qQ P t=some e) (g:gT P e=true) (f:szT P e=sz) (h0:0<sz) (a:∀x∈xs,x.length=sz) (b:xs.length*yf P e<=lim) (d:xs.length<=lim):
  zt P false nid t (.sl sz [] .full) (.sl sz xs tk) h=if xs.length=0 then some (.sl sz [] .full,h) else some (.sl sz xs (.own nid),h.new nid .tok):=by
 simp only[zt,c,g,f,Qx,if_true,qF a,Nat.mul_div_cancel _ h0,qg];rw[ip (by simp only[length_nil,Nat.zero_add,Bool.and_eq_true,decide_eq_true_eq];exact⟨⟨trivial,b⟩,d⟩)];simp only[Bool.false_eq_true,if_false,sZ a,nil_append]
def tu {t e:TypeId} (b:qQ P t=some e) (g:gT P e=true) (d:szT P e=sz) (h0:0<sz) (f:∀x∈xs,x.length=sz) (a:xs.length*yf P e<=lim) (c:xs.length<=lim):
  zt P true nid t (.sl sz [] .full) (.sl sz xs tk) h=if xs.length=0 then some (.sl sz [] .full,h) else some (.rs nid sz 0 xs.length,h.new nid (uh P e xs.flatten)):=by
 simp only[zt,b,g,d,Qx,if_true,qF f,Nat.mul_div_cancel _ h0,qg];rw[ip (by simp only[length_nil,Nat.zero_add,Bool.and_eq_true,decide_eq_true_eq];exact⟨⟨trivial,a⟩,c⟩)];simp only[length_nil,Nat.zero_add,flatten_nil,nil_append]
def QB {e:TypeId} (a:P.underlying e=some (.int .i64)):uh P e cs= .row cs:=by simp[uh,a]
def uX {e:TypeId} {fs:Array Field} (a:P.underlying e=some (.struct fs)):uh P e cs= .row cs:=by simp[uh,a]
end
open Go.RowKit (Below)
def fZ (W:World) (b:Nat) (c':Array Value):Go.Sort.mapBlock W b (λ_=>c')=W.setRow b c':=by
 unfold Go.Sort.mapBlock World.setRow;congr 1
section
variable {w0:Base} {G:List Nat} {M:Imm} {ρ:Ren} {h:Heap} {w:World}
theorem Sim.ahead (a:Sim w0 G M ρ h w):∀q:Nat,Sim w0 G M ρ h (Go.Sort.ahead w q)
 |0=>a
 |q+1=>by
  have:=(Sim.ahead a q).drew
  rwa [Go.Sort.ahead_drew] at this
def Sim.putRow [Inhabited α] {enc:α->Value} {dd:α->D} (r:∀x,(dd x).flat=true) (B:Sim w0 G M ρ h w) {pre post:List D} {xs ys:List α} (z:h.at' id=some (.row (pre++xs.map dd++post))) (A:ρ id=some l)
  (j:ys.length=xs.length) (J:∀y∈ys,rel M ρ (dd y) (enc y)):Sim w0 G M ρ (h.set id (.row (pre++ys.map dd++post))) (Go.Sort.putRow enc w l.blk pre.length ys.toArray):=by
 obtain⟨N,h1,_,hM,c,e,C,H,p,a⟩:=B.live id _ z;rw[A] at h1;cases h1;have F:(pre++xs.map dd++post).length=pre.length+xs.length+post.length:=by simp;omega
 have o:(pre++ys.map dd++post).length=pre.length+xs.length+post.length:=by simp[j];omega
 unfold Go.Sort.putRow;rw[Go.Sort.mapBlock_congr w l.blk (Go.Sort.putCells enc pre.length ys.toArray) (λ_=>Go.Sort.putCells enc pre.length ys.toArray c) (λK e1 E h1=>by rw[C] at h1;cases h1;rfl),fZ];have m:(Go.Sort.putCells enc pre.length ys.toArray c).size=c.size:=by simp[Go.Sort.putCells]
 refine B.setRow z A C m (by rw[m,o,<-F];exact p) (yH (by
  have e:(Go.Sort.putCells enc pre.length ys.toArray c).toList.length=c.size:=by rw[Array.length_toList];exact m
  rw[length_take,e];omega) λi d v b s=> ?_) ?_
 ·have k:i<(pre++ys.map dd++post).length:=(List.getElem?_eq_some_iff.1 b).1;rw[getElem?_take,ip k,Array.getElem?_toList] at s;simp only[Go.Sort.putCells,Array.getElem?_mapIdx] at s;obtain⟨v0,t,rfl⟩:=Option.map_eq_some_iff.1 s;by_cases f:pre.length<=i/\i<pre.length+ys.toArray.size
  ·rw[ip f];have n:i-pre.length<ys.length:=by have:=f.2;simp only[size_toArray] at this;omega
   rw[append_assoc,getElem?_append_right f.1,getElem?_append_left (by simpa using n),getElem?_map,getElem?_eq_getElem n] at b;cases b;rw[getElem!_pos ys.toArray (i-pre.length) (by simpa using n)];exact J _ (by simp)
  ·rw[iq f];have q:(pre++xs.map dd++post)[i]? =some d:=by
    simp only[size_toArray,not_and,Nat.not_lt] at f;by_cases I:i<pre.length
    ·rw[append_assoc,getElem?_append_left I] at b⊢;exact b
    ·have L:=f ow;rw[getElem?_append_right (by simp;omega)] at b⊢;simpa [j] using b
   obtain⟨_,u,e1,e2⟩:=a i d q;rw[t] at e1;cases e1;exact e2
 ·rw[all_append,all_append];have h1:pre.all D.flat=true:=all_eq_true.2 λd b=>by
   obtain⟨i,g⟩:=mem_iff_getElem?.1 b;have k:=(List.getElem?_eq_some_iff.1 g).1;exact(a i d (by rw[append_assoc,getElem?_append_left k];exact g)).1
  have h3:post.all D.flat=true:=all_eq_true.2 λd b=>by
   obtain⟨i,g⟩:=mem_iff_getElem?.1 b;exact(a (pre.length+xs.length+i) d (by rw[getElem?_append_right (by simp)];simpa using g)).1
  rw[h1,h3,all_eq_true.2 λd b=>by obtain⟨y,_,rfl⟩:=mem_map.1 b;exact r y];rfl
end
abbrev Way:=Nat×Fl×Bool
def onO (o:Option Oper) (k:Oper->Prop):Prop:=
 match o with
 |some o=>k o
 |none=>False
def fe (P:Program) (h0:Heap) (o:Op) (ev:Operand->D) (k:D->Prop):Prop:=
 match o with
 | .load t a=>onS (sJ P t (ev a) h0) k
 |o=>∃d,JJ P h0 o ev d/\k d
def Mt (P:Program) (h0:Heap) (o:Op) (ev:Operand->D) (k:D->Prop):Prop:=(qB o).isSome=true/\∃S:D->Prop,(∃e,S e)/\Ri P h0 o ev S/\∀d,S d->k d
def K4 (P:Program) (mu:Tmp->Bool) (h0:Heap) (st:Fl) (ops:Array Oper) (o:Oper) (fr:Frm) (h:Heap) (k:D->Heap->Prop):Prop:=
 match qC ops fr o.guard with
 |false=>k wS h
 |true=>match st with
  | .st=>fe P h0 o.op (yC fr) λd=>k d h
  | .sq=>Mt P h0 o.op (yC fr) λd=>k d h
  | .no=>wI P (lx mu o.dst) h.next o.op (yC fr) h k
  | .qu=>wI P (lx mu o.dst) h.next o.op (yC fr) h λd h'=>h'=h/\k d h
  | .al i=>wI P (lx mu o.dst) (h0.next+i) o.op (yC fr) h k
def XI (P:Program) (mu:Tmp->Bool) (h0:Heap) (ops:Array Oper):List Way->(Frm->Heap->Prop)->Frm->Heap->Prop
 | [],K,fr,h=>K fr h
 |w::rest,K,fr,h=>onO ops[w.1]? λo=>K4 P mu h0 w.2.1 ops o fr h λd h'=>(w.2.2=true->HLe h0 h')/\XI P mu h0 ops rest K (tT fr o.dst d) h'
def be (bk:Nat->Bool):Bool->List (Nat×Fl)->List Way->Bool
 |_,[],[]=>true
 |fl,x::xs,w::ws=>Nat.beq x.1 w.1&&(match x.2 with
  | .no=>match w.2.1 with
   | .no=>true
   |_=>false
  | .st=>match w.2.1 with
   | .st=>true
   |_=>false
  | .sq=>match w.2.1 with
   | .sq=>true
   |_=>false
  | .qu=>match w.2.1 with
   | .qu=>true
   |_=>false
  | .al i=>match w.2.1 with
   | .al j=>Nat.beq i j
   |_=>false)&&(w.2.2|| !(fl&& !bk x.1))&&be bk (fl&& !bk x.1) xs ws
 |_,_,_=>false
section
variable {P:Program} {g:Cfg} {n:Nat} {ro:Option Nat} {Q:Exit->Frm->Heap->Prop} {fr:Frm} {h:Heap} {mu:Tmp->Bool} {h0:Heap}
def Mu {a:Operand} (c:sJ P t (ev a) h0=some d):JJ P h0 (.load t a) ev d:=by
 intro h' b;simp only[wI,qB,vop,UX b c,Option.map_some];exact⟨trivial,trivial⟩
def E5 {st:Fl} {ops:Array Oper} {k:D->Heap->Prop} (b:K4 P mu h0 st ops o fr h k):ux P mu h0 st ops o fr h k:=by
 unfold K4 at b;unfold ux;split at b
 ·rename_i c;rw[c];exact b
 ·rename_i c;rw[c];cases st with
  |st=>
   simp only at b⊢;unfold fe at b;split at b
   ·rename_i t a f;rw[f];unfold onS at b;split at b
    ·rename_i d e;exact⟨d,Mu e,b⟩
    ·exact b.elim
   ·exact b
  |_=>exact b
theorem bf {ops:Array Oper} {K:Frm->Heap->Prop} :∀ {l:List (Nat×Fl)} {g:List Way} {fl:Bool} {fr:Frm} {h:Heap},be bk fl l g=true->XI P mu h0 ops g K fr h->tL P mu h0 bk ops fl l K fr h
 | [],[],_,fr,h,_,a=>a
 | [],_::_,_,_,_,c,_=>by simp[be] at c
 |_::_,[],_,_,_,c,_=>by simp[be] at c
 |(i,st)::l,(j,e,b)::g,fl,fr,h,c,a=>by
  simp only[be,Bool.and_eq_true] at c;obtain⟨⟨⟨q,f⟩,m⟩,r⟩:=c;have e1:i=j:=Nat.eq_of_beq_eq_true q;have e2:st=e:=by
   cases st<;>cases e<;>simp only at f<;>(first|rfl|(cases f;done)|skip)
   rw[Nat.eq_of_beq_eq_true f]
  subst e1;subst e2;simp only[XI] at a;simp only[tL];unfold onO at a;split at a
  ·rename_i o p;rw[p];refine nf (λd h' k=>⟨λn=>k.1 ?_,bf r k.2⟩) (E5 a);cases b with
   |true=>rfl
   |false=>rw[n] at m;simp at m
  ·exact a.elim
def zM (h0:Heap) (c:List Way) {l:List Oper} (e:be (Kx P g.mu l.toArray (g.dr id) (jc l 0 [])) ((g.dr id).any (·.2.isSt)) (g.dr id) c=true) (a:Nat.beq (alN (g.dr id)) 0=true) (b:HLe h0 h)
  (d:XI P g.mu h0 l.toArray c (Q .normal) fr h):vwp P g n ro (.region id l.toArray true) Q fr h:=by
 rw[Ud];refine⟨h0,b,?_⟩;rw[mT (Nat.eq_of_beq_eq_true a)];exact bf e d
def wp:Nat->List (Nat×Fl)->List Oper->Bool
 |_,[],[]=>true
 |k,x::xs,_::os=>Nat.beq x.1 k&&x.2.isNo&&wp (k+1) xs os
 |_,_,_=>false
variable {h0:Heap}
theorem bg {ops:Array Oper} {K:Frm->Heap->Prop} :∀ {l:List (Nat×Fl)} {c pre:List Oper} {fr:Frm} {h:Heap},ops.toList=pre++c->wp pre.length l c=true->cD P mu ops c K fr h->tL P mu h0 bk ops false l K fr h
 | [],[],_,fr,h,_,_,a=>a
 | [],_::_,_,_,_,_,b,_=>by simp[wp] at b
 |_::_,[],_,_,_,_,b,_=>by simp[wp] at b
 |(i,st)::l,o::c,pre,fr,h,j,b,a=>by
  simp only[wp,Bool.and_eq_true] at b;obtain⟨⟨p,q⟩,r⟩:=b;have e1:i=pre.length:=Nat.eq_of_beq_eq_true p;subst e1;have m:ops[pre.length]? =some o:=by rw[<-Array.getElem?_toList,j];simp
  have g:st= .no:=by cases st<;>simp[Fl.isNo] at q<;>rfl
  subst g;simp only[tL,m,Bool.false_and];simp only[cD] at a;have k:∀fr h,cD P mu ops c K fr h->tL P mu h0 bk ops false l K fr h:=λfr h a=>bg (pre:=pre++ [o]) (by simp[j]) (by simpa using r) a;unfold ux;split at a
  ·rename_i f;rw[f];exact sO (λd h' n=>⟨λe=>(by cases e),k _ _ n⟩) a
  ·rename_i f;rw[f];exact⟨λe=>(by cases e),k _ _ a⟩
theorem jQ:∀ {l:List (Nat×Fl)} {c:List Oper} {k:Nat},wp k l c=true->l.any (·.2.isSt)=false/\alN l=0
 | [],[],_,_=>⟨rfl,rfl⟩
 | [],_::_,_,a=>by simp[wp] at a
 |_::_,[],_,a=>by simp[wp] at a
 |(i,st)::l,o::c,k,a=>by
  simp only[wp,Bool.and_eq_true] at a;obtain⟨h1,d⟩:=jQ a.2;have b:st= .no:=by have:=a.1.2;cases st<;>simp[Fl.isNo] at this<;>rfl
  subst b;exact⟨by rw[List.any_cons,h1];rfl,by simp only[alN,d]⟩
def zU {l:List Oper} (a:wp 0 (g.dr id) l=true) (c:cD P g.mu l.toArray l (Q .normal) fr h):vwp P g n ro (.region id l.toArray true) Q fr h:=by
 obtain⟨h1,b⟩:=jQ a;rw[Ud];refine⟨⟨0,λ_=>none⟩,λi d e=>(by cases e),?_⟩;rw[mT b,h1];exact bg (pre:=[]) rfl a c
end
section
variable {P:Program} {mu:Tmp->Bool} {h0:Heap} {ops:Array Oper} {l:List Oper} {K:Frm->Heap->Prop} {k:D->Heap->Prop} {fr:Frm} {h:Heap} {dst:Option Tmp} {ty:TypeId} {pos:String} {after:Array Edge} {rest:List Way}
@[congr] theorem zBV {o o':Option Oper} {k:Oper->Prop} (h:o=o'):onO o k=onO o' k:=by rw[h]
@[go_sem ↓] theorem zBW:XI P mu h0 ops [] K fr h=K fr h:=(rfl)
@[go_sem ↓] theorem BE (w:Way):XI P mu h0 l.toArray (w::rest) K fr h=onO l[w.1]? λo=>K4 P mu h0 w.2.1 l.toArray o fr h λd h'=>(w.2.2=true->HLe h0 h')/\XI P mu h0 l.toArray rest K (tT fr o.dst d) h':=by
 simp only[XI,List.getElem?_toArray]
@[go_sem ↓] theorem zC8 (o:Oper) (k:Oper->Prop):onO (some o) k=k o:=(rfl)
@[go_sem ↓] theorem zGM (op:Op):K4 P mu h0 .no ops ⟨dst,op,ty,pos,after,none⟩ fr h k=wI P (lx mu dst) h.next op (yC fr) h k:=(rfl)
@[go_sem ↓] theorem zGN (op:Op):K4 P mu h0 .st ops ⟨dst,op,ty,pos,after,none⟩ fr h k=fe P h0 op (yC fr) λd=>k d h:=(rfl)
@[go_sem ↓] theorem zGO (op:Op):K4 P mu h0 .sq ops ⟨dst,op,ty,pos,after,none⟩ fr h k=Mt P h0 op (yC fr) λd=>k d h:=(rfl)
@[go_sem ↓] theorem E6 (t:TypeId) (a:Operand) (k:D->Prop):fe P h0 (.load t a) (yC fr) k=onS (sJ P t (yC fr a) h0) k:=(rfl)
@[go_sem ↓] theorem BF (st:Fl) (op:Op) (j:Nat) (b:Bool):K4 P mu h0 st ops ⟨dst,op,ty,pos,after,some (j,b)⟩ fr h k =
  gif (qC ops fr (some (j,b))) (K4 P mu h0 st ops ⟨dst,op,ty,pos,after,none⟩ fr h k) (k wS h):=by
 unfold K4 gif;cases qC ops fr (some (j,b))<;>rfl
end
def zBX:D->Bool
 | .nilsl=>true
 |_=>false
section
variable {P:Program} {t e:TypeId} {c:Bool} {sz:Nat} {xs:List (List D)} {d:D}
def uC (a:zd sz xs d) (b:P.underlying t=some (.slice e)):pj P .eql t c d .nilsl=some (.bool (zBX d)):=by
 rcases a with⟨rfl,rfl⟩ | ⟨tk,rfl⟩ <;>simp[pj,Ha,tI,veq,b,zBX]
variable {h:Heap}
def qe (c:qQ P t=some e) (f:qK P e=some z) (d:szT P e=sz) (b:z.notTuple=true) (a:z.cells.length=sz) (h0:0<sz):zJ P false nid t 0 [] h=some (.sl sz [] .full,h):=by
 simp only[zJ,c,f,d];rw[ip (by simp[b,a,h0])];simp[qL,yI]
end
mutual
theorem kQ (id:Nat) (cs:List D):∀d:D,below 0 d->frz id cs d=d
 | .bool _,_=>rfl
 | .int _ _,_=>rfl
 | .str _,_=>rfl
 | .nilptr,_=>rfl
 | .ptr _ _,h=>absurd h (Nat.not_lt_zero _)
 | .iptr b off,h=>by simp only[frz,uD id cs b h]
 | .nilsl,_=>rfl
 | .sl sz xs tk,h=>by
  simp only[below] at h;cases tk with
  |own t=>exact absurd h.2 (Nat.not_lt_zero _)
  |_=>simp only[frz,fg id cs xs h.1]
 | .rs _ _ _ _,h=>absurd h (Nat.not_lt_zero _)
 | .nilmap,_=>rfl
 | .map _,h=>absurd h (Nat.not_lt_zero _)
 | .fn f a c,h=>by simp only[frz,uD id cs a h.1,uD id cs c h.2]
 | .yld _,h=>absurd h (Nat.not_lt_zero _)
 | .nilfn,_=>rfl
 | .agg b,h=>by simp only[frz,uD id cs b h]
 | .tuple b,h=>by simp only[frz,uD id cs b h]
 | .iface t d,h=>by simp only[frz,kQ id cs d h]
 | .niliface,_=>rfl
theorem uD (id:Nat) (cs:List D):∀ds:List D,zh 0 ds->jd id cs ds=ds
 | [],_=>rfl
 |d::ds,h=>by simp only[jd,kQ id cs d h.1,uD id cs ds h.2]
theorem fg (id:Nat) (cs:List D):∀xs:List (List D),sR 0 xs->JN id cs xs=xs
 | [],_=>rfl
 |x::xs,h=>by simp only[JN,uD id cs x h.1,fg id cs xs h.2]
end
variable {xs:List (List D)}{fr:Frm}{h h0:Heap}{P:Program}{t:TypeId}{n sz k:Nat}{d:D}{K Q:D->Heap->Prop}{l:Loc}
def XJ {id sz len:Nat} (a:∀x∈xs,x.length=sz) (c:xs.length=len) (b:cs=xs.flatten):frz id cs (.rs id sz 0 len)= .sl sz xs .no:=by
 subst b c;simp only[frz];rw[ip ⟨trivial,by rw[qF a];omega⟩,List.drop_zero,List.take_of_length_le (by rw[qF a];omega),sZ a]
def Heap.Ok (h:Heap):Prop:=∀i,h.next<=i->h.at' i=none
def zA.known (e:uB P f=true) (j:zh h.next args->h.Ok->zA P f args h Q):zA P f args h Q:=by
 refine⟨e,λw0 G M ρ w n b d a hr=>(j (ur a _ _ hr) λi g=> ?_).2 w0 G M ρ w n b d a hr⟩;cases k:h.at' i with
 |none=>rfl
 |some m=>
  obtain⟨l,c,_⟩:=d.live i m k;rw[a i g] at c;cases c
def Ext.hle (a:h.Ok) (b:Ext h h'):HLe h h':=λi d e=>by
 by_cases c:i<h.next
 ·rw[b.2 i c];exact e
 ·rw[a i ow] at e;cases e
def xU {Q:D->Prop} (c:uB P f=true) (e:h.Ok->zA P f args h λd h'=>Ext h h'/\below h.next d/\Q d):zA P f args h λd h'=>h'=h/\Q d:=
 zA.known c λ_ a=>zA.gc (λ_=>(e a).mono λ_ _ b=>⟨b.1.hle a,b.2.1,b.2.2⟩) c
def yG (a:∀x∈xs,yh x) (tk:Tk):z8 (.sl sz xs tk)= .sl sz xs .no/\below 0 (.sl sz xs .no):=by
 have b:sx xs=xs:=fW λx h=>(a x h).2.2;simp only[z8,b,below,and_true,true_and];exact fV λx h=>(a x h).2.1
section
variable {P:Program} {k:Nat} {t e:TypeId} {c:List D}
def tW {q:IntKind} (a:P.underlying t=some (.int q)) (h:Shp P k t c):∃n,c= [.int q n]/\fits q n:=by
 cases k with
 |zero=>simp only[Shp] at h
 |succ k=>simpa only[Shp,a] using h
def Tp (a:P.underlying t=some .bool) (h:Shp P k t c):∃b,c= [.bool b]:=by
 cases k with
 |zero=>simp only[Shp] at h
 |succ k=>simpa only[Shp,a] using h
def wm (a:P.underlying t=some .string) (h:Shp P k t c):∃s,c= [.str s]/\s.length<=1048576:=by
 cases k with
 |zero=>simp only[Shp] at h
 |succ k=>simpa only[Shp,a] using h
def pc (f:P.underlying t=some (.slice e)) (b:szT P e=sz) (h:Shp P k t c):∃d xs j,c= [d]/\j<k/\zd sz xs d/\(d= .nilsl\/d= .sl sz xs .no)/\xs.length<=1048576/\∀x∈xs,Shp P j e x:=by
 cases k with
 |zero=>simp only[Shp] at h
 |succ k=>
  simp only[Shp,f] at h;rcases h with rfl| ⟨xs,rfl,h1,a⟩
  ·exact⟨_,[],k,rfl,Nat.lt_succ_self _,zd.nil, .inl rfl,by simp,by simp⟩
  ·have:P.cellsOf e=sz:=b;rw[this];exact⟨_,xs,k,rfl,Nat.lt_succ_self _,zd.mk _, .inr rfl,h1,a⟩
def qf {fs:Array Field} (a:P.underlying t=some (.struct fs)) (h:Shp P k t c):∃j,j<k/\JR P (Shp P j) fs.toList c:=by
 cases k with
 |zero=>simp only[Shp] at h
 |succ k=>exact⟨k,Nat.lt_succ_self _,by simpa only[Shp,a] using h⟩
def zY {r:TypeId->List D->Prop} {f:Field} {fs:List Field} (h:JR P r (f::fs) cs):∃c cs',cs=c++cs'/\r f.type c/\JR P r fs cs':=h
def wv {r:TypeId->List D->Prop} (h:JR P r [] cs):cs= []:=h
end
section
variable {P:Program}
variable {t:TypeId}
def zR {id off:Nat} (b:h.at' id=some (.row cs)) (e:szT P t=1) (c:off<cs.length) (a:x.cells= [x]) (hf:x.flat=true):zQ P t (.ptr id off) x h=some (h.set id (.row (cs.set off x))):=by
 have d:yV cs [x] off=cs.set off x:=by
  simp only[yV,List.length_singleton];rw[List.set_eq_take_append_cons_drop,ip c];simp
 simp only[zQ,b,e,a,d];rw[ip];simp[hf];omega
end
attribute [go_sem] true_and and_true true_implies implies_true false_implies
def uY {o:Obj} (c:h.at' i=some o):h.set i o=h:=by
 cases h with
 |mk n a=>
  simp only[Heap.set,Heap.mk.injEq,true_and]
  funext j
  by_cases b:j=i
  ·subst b;rw[ip rfl];exact c.symm
  ·rw[iq b]
def p5 (h:Heap) (i:Nat) (o a:Obj):(h.new i o).set i a=h.new i a:=by
 simp only[Heap.set,Heap.new,Heap.mk.injEq,true_and]
 funext j
 by_cases b:j=i<;>simp[b]
variable {P:Program}{t:TypeId}{k:Nat}
def zf {cs cs':List D} (d:szT P t=n) (c:0<n) (b:cs.length=n) (a:cs'.length=n) (hf:cs'.all D.flat=true):zQ P t (.ptr id 0) (.agg cs') (h.new id (.row cs))=some (h.new id (.row cs')):=by
 subst a;rw[yq (zK _ _ _) d b c hf,p5]
def wB:D->Nat->Prop
 | .sl _ _ (.own t),i=>i=t
 |_,_=>False
def wd.app2 {t e:TypeId} (o:wd h sz xs d) (n:qQ P t=some e) (r:gT P e=true) (p:szT P e=sz) (h0:0<sz) (a:∀y∈ys,y.length=sz) (k:ys≠[])
  (g:(xs.length+ys.length)*yf P e<=lim) (j:xs.length+ys.length<=lim) (l:∀b h',wd h' sz (xs++ys) b->h.next<=h'.next->(∀i,i<h.next->¬wB d i->h'.at' i=h.at' i)->(∀i,wB b i->h.next<=i)->b.cells= [b]->b.flat=true->K b h'):onR (zt P false h.next t d (.sl sz ys tk) h) K:=by
 have m:0<ys.length:=List.length_pos_iff.2 k;simp only[zt,n,r,p,Qx,if_true,qF a,Nat.mul_div_cancel _ h0];rcases o with⟨rfl,rfl⟩ | ⟨q,rfl,h1,s⟩
 ·simp only[qg];rw[iq ow,ip (by simp only[Bool.and_eq_true,decide_eq_true_eq];simp only[List.length_nil,Nat.zero_add] at g j;exact⟨g,j⟩)];simp only[Bool.false_eq_true,if_false,sZ a,j8];refine l _ _ (.inr ⟨h.next,by simp,zK _ _ _,Nat.lt_of_lt_of_le (Nat.lt_succ_self _) (Nat.le_max_right _ _)⟩) (qt _ _ _) (λi c _=>zH ow) (λi c=> ?_) rfl rfl;simp only[wB] at c;omega
 ·simp only[qg];rw[ip (by simp only[Bool.and_eq_true,decide_eq_true_eq];exact⟨⟨trivial,g⟩,j⟩)];simp only[h1,Bool.false_eq_true,if_false,sZ a,j8];refine l _ _ (.inr ⟨h.next,rfl,zK _ _ _,Nat.lt_of_lt_of_le (Nat.lt_succ_self _) (Nat.le_max_right _ _)⟩) (qt (h.del q) _ _) (λi c f=> ?_) (λi c=> ?_) rfl rfl
  ·simp only[wB] at f;rw[zH ow,yJ f]
  ·simp only[wB] at c;omega
def BG (n0 sz:Nat) (L:LRec) (ps:List (List D)) (k:Nat) (S:Nat->Prop) (h:Heap):Prop:=
 n0+1<h.next/\h.at' (n0+1)=some (.loop L)/\∃d,h.at' n0=some (.row [d])/\wd h sz (ps.take k) d/\∀i,S i↔(i=n0\/i=n0+1\/wB d i)
def wd.tok (c:wd h sz xs d) (a:wB d i):i<h.next/\h.at' i=some .tok:=by
 rcases c with⟨rfl,_⟩ | ⟨t,rfl,h1,b⟩
 ·exact a.elim
 ·simp only[wB] at a;subst a;exact⟨b,h1⟩
def wd.loc (b:wd h sz xs d) (e:h.next<=h'.next) (a:∀i,wB d i->h'.at' i=h.at' i):wd h' sz xs d:=by
 rcases b with h1| ⟨t,rfl,h1,c⟩
 ·exact .inl h1
 ·exact .inr ⟨t,rfl,by rw[a t rfl];exact h1,by omega⟩
def BG.here {e sz:Nat} {L:LRec} (y:BG e sz L X k S h) (i:Nat) (b:S i):i<h.next:=by
 obtain⟨h1,_,d,_,h3,a⟩:=y;rcases(a i).1 b with rfl|rfl|c
 ·omega
 ·omega
 ·exact(h3.tok c).1
def BG.loc {b sz:Nat} {L:LRec} (y:BG b sz L X k S h) (g:h.next<=h'.next) (a:∀i,S i->h'.at' i=h.at' i):BG b sz L X k S h':=by
 obtain⟨h1,c,d,h3,e,h5⟩:=y;exact⟨by omega,by rw[a _ ((h5 _).2 (.inr (.inl rfl)))];exact c,d,by rw[a _ ((h5 _).2 (.inl rfl))];exact h3,e.loc g λi f=>a i ((h5 i).2 (.inr (.inr f))),h5⟩
def Ext.of_but {h h1 c:Heap} (a:Ext h h1) (b:But S h1 c) (f:∀i,S i->h.next<=i):Ext h c:=
 ⟨Nat.le_trans a.1 b.1,λi d=>by rw[b.2 i (by have:=a.1;omega) λe=>by have:=f i e;omega,a.2 i d]⟩
def Fin (sz:Nat) (xs:List (List D)) (d:D):Prop:=(d= .nilsl/\xs= [])\/d= .sl sz xs .no
def Fin.isSl (hf:Fin sz xs d):zd sz xs d:=by
 rcases hf with⟨rfl,rfl⟩ |rfl
 ·exact zd.nil
 ·exact zd.mk _
def wd.fin (b:wd h sz xs d) (a:∀x∈xs,yh x):below 0 (z8 d)/\Fin sz xs (z8 d):=by
 rcases b with⟨rfl,rfl⟩ | ⟨t,rfl,_⟩
 ·exact⟨trivial, .inl ⟨rfl,rfl⟩⟩
 ·rw[(yG a _).1];exact⟨(yG a .no).2, .inr rfl⟩
@[go_sem ↓] theorem zBY (a:Oper) (l m:List Oper):List.append (a::l) m=a::List.append l m:=(rfl)
@[go_sem ↓] theorem zC9 (m:List Oper):List.append [] m=m:=(rfl)
@[go_sem ↓] theorem zDA (a:Oper) (l:List Oper):(a::l)[0]? =some a:=(rfl)
@[go_sem ↓] theorem zDB (a:Oper) (l:List Oper) (n:Nat):(a::l)[n+1]? =l[n]? :=(rfl)
def gdB:D->Bool->Bool
 | .bool x,b=>x==b
 |_,_=>false
def zBZ:Option Oper->Frm->Bool->Bool
 |some o,fr,b=>match o.dst with
  |some t=>gdB (fr t) b
  |none=>false
 |none,_,_=>false
@[go_sem ↓] theorem E7 (l:List Oper) (fr:Frm) (j:Nat) (b:Bool):qC l.toArray fr (some (j,b))=zBZ l[j]? fr b:=by
 unfold qC zBZ;simp only[List.getElem?_toArray];cases l[j]? with
 |none=>rfl
 |some o=>
  simp only[Option.bind_some];cases o.dst with
  |none=>rfl
  |some t=>
   simp only;cases fr t<;>rfl
@[congr] theorem BH {o o':Option Oper} (h:o=o'):zBZ o fr b=zBZ o' fr b:=by rw[h]
@[go_sem ↓] theorem zBa (t:Tmp) (op:Op) (ty:TypeId) (pos:String) (after:Array Edge) (gd:Option (Nat×Bool)) (fr:Frm) (b:Bool):zBZ (some ⟨some t,op,ty,pos,after,gd⟩) fr b=gdB (fr t) b:=(rfl)
@[go_sem ↓] theorem zDC (x b:Bool):gdB (.bool x) b=(x==b):=(rfl)
@[go_sem ↓] theorem zBb (b:Bool):gdB wS b=false:=(rfl)
@[go_sem] theorem zH3:(true==true)=true:=(rfl)
@[go_sem] theorem zH4:(true==false)=false:=(rfl)
@[go_sem] theorem zH5:(false==true)=false:=(rfl)
@[go_sem] theorem zH6:(false==false)=true:=(rfl)
def p6 {g:Cfg} {ro:Option Nat} {c:Code} {K:Frm->Heap->Prop} {Q:Exit->Frm->Heap->Prop} (R:Frm->Heap->Prop) (h1:vwp P g n ro c (ng R λ_ _ _=>False) fr h) (b:∀fr h,R fr h->K fr h):vwp P g n ro c (ng K Q) fr h:=
 wT c (λe fr h a=>by
  cases e with
  |normal=>exact b fr h a
  |_=>exact a.elim) fr h h1
end Go.V
