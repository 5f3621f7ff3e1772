/- Rules of the machine of abstract values, part 2. No condition. -/
import Derived.Test.YtmhkjfajejaniaaGreatDoorW17
import Derived.Test.YtmhkjfajejaniaaGreatDoorW19
import Derived.Test.YtmhkjfajejaniaaGreatDoorW06
import Derived.Sort.Row
set_option linter.all false
namespace Go.V
theorem gJ {α:Type _} (a b:α):(some a).getD b=a:=rfl
section
variable {P:Program} {g:Cfg} {n:Nat} {mu:Tmp→Bool} {h0:Heap} {bk:Nat→Bool} {ops:Array Oper}
theorem zHs:∀ (l:List Oper) {K K':Frm→Heap→Prop} (_:∀fr h,K fr h→K' fr h) (fr:Frm) (h:Heap),zIj P mu ops l K fr h→zIj P mu ops l K' fr h
 | [],_,_,hk,fr,h,hv=>hk fr h hv
 |o::rest,K,K',hk,fr,h,hv=>by
  simp only[zIj] at hv⊢;cases hg:qE ops fr o.guard with
  |true=>
   rw[hg] at hv;exact zBN (fun d h' hx=>zHs rest hk _ _ hx) hv
  |false=>
   rw[hg] at hv;exact zHs rest hk _ _ hv
theorem zFn:∀ (l:List (Nat×Fl)) {K K':Frm→Heap→Prop} (_:∀fr h,K fr h→K' fr h) (fl:Bool) (fr:Frm) (h:Heap),zAl P mu h0 bk ops fl l K fr h→zAl P mu h0 bk ops fl l K' fr h
 | [],_,_,hk,_,fr,h,hv=>hk fr h hv
 |(i,st)::rest,K,K',hk,fl,fr,h,hv=>by
  simp only[zAl] at hv⊢;cases ho:ops[i]? with
  |none=>rw[ho] at hv;exact hv
  |some o=>
   rw[ho] at hv;exact zFV (fun d h' hx=>⟨hx.1,zFn rest hk _ _ _ hx.2⟩) hv
theorem zOM {l:List (Nat×Fl)} {K K':Frm→Heap→Prop} (hk:∀fr h,K fr h→K' fr h) {fl:Bool} {fr:Frm} {h:Heap} (hv:zD0 P mu h0 bk ops fl l K fr h):zD0 P mu h0 bk ops fl l K' fr h:=by
 unfold zD0 at hv⊢;split at hv
 ·exact zFn _ hk _ _ _ hv
 ·exact⟨hv.1,zFn _ hk _ _ _ hv.2⟩
theorem wA:∀ (c:Code) {ro:Option Nat} {Q Q':Exit→Frm→Heap→Prop} (_:∀e fr h,Q e fr h→Q' e fr h) (fr:Frm) (h:Heap),vwp P g n ro c Q fr h→vwp P g n ro c Q' fr h
 | .skip,_,_,_,hq,fr,h,hv=>hq _ _ _ hv
 | .exit _,_,_,_,hq,fr,h,hv=>hq _ _ _ hv
 | .ret,_,_,_,hq,fr,h,hv=>hq _ _ _ hv
 | .region id ops draw,_,_,_,hq,fr,h,hv=>by
  simp only[vwp] at hv⊢;cases draw with
  |false=>exact zHs _ (fun fr h=>hq _ fr h) _ _ hv
  |true=>
   obtain⟨h0,h1,h2⟩:=hv;exact⟨h0,h1,zOM (fun fr h=>hq _ fr h) h2⟩
 | .seq a b,ro,Q,Q',hq,fr,h,hv=>by
  simp only[vwp] at hv⊢;refine wA a (fun e fr h hx=> ?_) fr h hv;cases e with
  |normal=>exact wA b hq fr h hx
  |_=>exact hq _ _ _ hx
 | .cond c a b,ro,Q,Q',hq,fr,h,hv=>by
  simp only[vwp] at hv⊢;split at hv
  ·split at hv
   ·exact wA a hq fr h hv
   ·exact wA b hq fr h hv
  ·exact hv
 | .block id c,ro,Q,Q',hq,fr,h,hv=>by
  simp only[vwp] at hv⊢;refine wA c (fun e fr h hx=> ?_) fr h hv;cases e with
  |exit i=>
   simp only[zEh] at hx⊢;split at hx
   ·rename_i hi;rw[if_pos hi];exact hq _ _ _ hx
   ·rename_i hi;rw[if_neg hi];exact hq _ _ _ hx
  |_=>exact hq _ _ _ hx
 | .loop c,ro,Q,Q',hq,fr,h,hv=>by
  simp only[vwp] at hv⊢;obtain⟨I,h1,h2⟩:=hv;refine⟨I,h1,fun k fr h hI=>wA c (fun e fr h hx=> ?_) fr h (h2 k fr h hI)⟩;cases e with
  |normal=>exact hx
  |_=>exact hq _ _ _ hx
 | .rangeFunc f ps asg body,ro,Q,Q',hq,fr,h,hv=>by
  simp only[vwp] at hv⊢;refine⟨hv.1,?_⟩;have h2:=hv.2;cases hf:zw fr f<;>rw[hf] at h2<;>simp only[VFn] at h2⊢;rename_i g' first cap
  cases g'<;>simp only at h2⊢;refine zA.mono h2 fun d h' hx=> ?_;obtain⟨r,r1,r2,r3⟩:=hx;refine⟨r,r1,r2,?_⟩;unfold zKM at r3⊢;split at r3
  ·exact hq _ _ _ r3
  ·split at r3
   ·exact hq _ _ _ r3
   ·exact hq _ _ _ r3
   ·exact r3
 | .label _,_,_,_,hq,fr,h,hv=>hq _ _ _ hv
 | .goto _,_,_,_,_,_,_,hv=>hv
 | .scope c,ro,Q,Q',hq,fr,h,hv=>by
  simp only[vwp] at hv⊢;refine wA c (fun e fr h hx=> ?_) fr h hv;cases e with
  |goto l=>exact hx
  |_=>exact hq _ _ _ hx
 | .refuse ..,_,_,_,_,_,_,hv=>hv
end
section
variable {P:Program} {g:Cfg} {n:Nat} {ro:Option Nat} {c:Code} {Q:Exit→Frm→Heap→Prop} {fr:Frm} {h:Heap}
theorem zA.of_fn (hmix:P.follows .mixedOrders=true) {f:FuncId} {fn:Func} {co:Code} {args:List D} {R:D→Heap→Prop} (hf:P.funcs[f]? =some fn) (hok:zd P g fn=true) (hb:fn.body=some co) (hl:Nat.ble args.length fn.ntmps=true)
  (hv:vwp P g fn.ntmps none co (zXr P fn.results.toList R) (V.zKP args) h):zA P f args h R:=by
 unfold zd at hok;rw[hb] at hok;simp only[Bool.and_eq_true,Bool.not_eq_true'] at hok;exact zA.of_body hmix hf hb hok.2 hok.1 (Nat.le_of_ble_eq_true hl) hv
theorem zy (J:Nat→Frm→Heap→Prop) (len:Nat) (hJ0:J 0 fr h) (step:∀i fr h,i≤len→J i fr h→vwp P g n ro c (zEF (fun fr h=>i<len∧J (i+1) fr h) Q) fr h):vwp P g n ro (.loop c) Q fr h:=by
 refine zPT (fun k fr h=>∃i,k=len-i∧i≤len∧J i fr h) len ⟨0,by simp,Nat.zero_le _,hJ0⟩ ?_;rintro k fr h ⟨i,rfl,hi,hJ⟩;refine wA c ?_ fr h (step i fr h hi hJ);intro e fr' h' hq;cases e with
 |normal=>exact⟨len- (i+1),by have:=hq.1;omega,i+1,rfl,hq.1,hq.2⟩
 |_=>exact hq
end
theorem zZ {x:Int} (h1: -9223372036854775808≤x) (h2:x<9223372036854775808):IntKind.i64.wrap x=x:=by
 unfold IntKind.wrap;simp[IntKind.signed,IntKind.bits];split<;>omega
theorem zh {i:Nat} (h:i≤lim):IntKind.i64.wrap ((i:Int)+1)=((i+1:Nat):Int):=by
 rw[zZ (by omega) (by unfold lim at h;omega)];norm_cast
@[go_sem] theorem zfA (mu:Tmp→Bool) (t:Tmp):zF8 mu (some t)=mu t:=(rfl)
attribute [go_sem] List.contains_nil List.map_cons List.map_nil List.nil_append List.append_nil List.cons_append Bool.false_eq_true Bool.or_false Bool.or_true Bool.true_or Bool.false_or Bool.not_true Bool.not_false List.getElem?_cons_zero List.getElem?_cons_succ
@[go_sem] theorem zi8 (t:Tmp):isC (.tmp t)=false:=(rfl)
@[go_sem] theorem zfB (v:Value):isC (.const v)=true:=(rfl)
@[go_sem] theorem zaR (h:Heap) (i:Nat) (o:Obj):(h.new i o).at' i=some o:=zJ h i o
@[go_sem] theorem zC (h:Heap) (i:Nat) (o:Obj):(h.set i o).at' i=some o:=by simp[Heap.set]
@[go_sem] theorem zaS (P:Program) (nid:Nat) (t:TypeId) (x:Operand) (fr:Frm) (h:Heap):vop P false nid (.box t x) (zw fr) h=if(zw fr x).notTuple then some (.iptr (zw fr x).cells 0,h) else none:=by
 simp[vop]
@[go_sem] theorem zaT (P:Program) (nid:Nat) (t:TypeId) (x:Operand) (fr:Frm) (h:Heap):vop P true nid (.box t x) (zw fr) h=if(zw fr x).notTuple then some (.ptr nid 0,h.new nid (.row (zw fr x).cells)) else none:=by
 simp[vop]
def zGG (t:TypeId) (nid:Nat) (h:Heap):Option D→VR
 |some z=>if z.notTuple then some (.ptr nid 0,h.new nid (zFS t z.cells)) else none
 |none=>none
@[go_sem] theorem zfC (P:Program) (m:Bool) (nid:Nat) (t:TypeId) (fr:Frm) (h:Heap):vop P m nid (.alloc t) (zw fr) h=zGG t nid h (qD P t):=by
 simp only[vop,zGG];cases qD P t<;>rfl
@[go_sem] theorem zcL (t:TypeId) (nid:Nat) (h:Heap) (cs:List D):zGG t nid h (some (.agg cs))=some (.ptr nid 0,h.new nid (zFS t cs)):=(rfl)
@[go_sem] theorem zcM (t:TypeId) (nid:Nat) (h:Heap) (k:IntKind) (n:Int):zGG t nid h (some (.int k n))=some (.ptr nid 0,h.new nid (.row [.int k n])):=(rfl)
@[go_sem] theorem zcN (t:TypeId) (nid:Nat) (h:Heap) (s:List UInt8):zGG t nid h (some (.str s))=some (.ptr nid 0,h.new nid (.row [.str s])):=(rfl)
@[go_sem] theorem zYk (t:TypeId) (nid:Nat) (h:Heap):zGG t nid h (some .nilsl)=some (.ptr nid 0,h.new nid (.row [.nilsl])):=(rfl)
@[go_sem] theorem zfD (t:TypeId) (k:IntKind) (n:Int) (cs:List D):zFS t (.int k n::cs)= .row (.int k n::cs):=(rfl)
@[go_sem] theorem zfE (t:TypeId) (s:List UInt8) (cs:List D):zFS t (.str s::cs)= .row (.str s::cs):=(rfl)
@[go_sem] theorem zcO (t:TypeId) (b:Bool) (cs:List D):zFS t (.bool b::cs)= .row (.bool b::cs):=(rfl)
@[go_sem] theorem zaU (t:TypeId) (cs:List D):zFS t (.nilsl::cs)= .row (.nilsl::cs):=(rfl)
@[go_sem] theorem zMZ (s:List UInt8):(D.str s).notTuple=true:=(rfl)
@[go_sem] theorem zUI (s:List UInt8):(D.str s).cells= [.str s]:=(rfl)
theorem zDD {P:Program} {t:TypeId} {cs:List D} {h:Heap} {id:Nat} (hi:h.at' id=some (.row cs)) (ha:agT P t=some true) (hs:szT P t=cs.length) (h0:0<cs.length):zA0 P t (.ptr id 0) h=some (.agg cs):=by
 simp only[zA0,ha,hi,zO,hs];rw[if_pos trivial,if_neg (by omega),if_pos (by omega)];simp
theorem yN {P:Program} {t:TypeId} {cs cs':List D} {h:Heap} {id:Nat} (hi:h.at' id=some (.row cs)) (hs:szT P t=cs'.length) (hl:cs.length=cs'.length) (h0:0<cs'.length) (hf:cs'.all D.flat=true):zQ P t (.ptr id 0) (.agg cs') h=some (h.set id (.row cs')):=by
 have hp:yX cs cs' 0=cs':=by simp[yX,hl]
 simp only[zQ,hi,D.cells,hs,hp];rw[if_pos];simp only[Bool.and_eq_true,decide_eq_true_eq,ne_eq,Nat.zero_add];exact⟨⟨⟨fun e=>by omega,trivial⟩,Nat.le_of_eq hl.symm⟩,hf⟩
theorem zB {n:Nat} {cs:List D} (hn:cs.length=n) (h0:0<n):zO true n cs 0=some (.agg cs):=by
 subst hn;simp only[zO];rw[if_pos trivial,if_neg (by omega),if_pos (by omega)];simp
def zUJ (ag:Bool) (n off:Nat):Option Obj→Option D
 |some (.row cs)=>zO ag n cs off
 |some (.trow _ _ cs)=>zO ag n cs off
 |_=>none
@[go_sem ↓] theorem zfF (P:Program) (t:TypeId) (id off:Nat) (h:Heap):zA0 P t (.ptr id off) h=(match agT P t with
 |none=>none
 |some ag=>zUJ ag (szT P t) off (h.at' id)):=by
 unfold zA0;cases agT P t with
 |none=>rfl
 |some ag=>
  simp only;cases h.at' id with
  |none=>rfl
  |some o=>cases o<;>rfl
@[go_sem] theorem zaV (ag:Bool) (n off:Nat) (cs:List D):zUJ ag n off (some (.row cs))=zO ag n cs off:=(rfl)
theorem yU {P:Program} {nid:Nat} {t e:TypeId} {z x:D} {sz:Nat} {h:Heap} (he:qC P t=some e) (hz:qD P e=some z) (hs:szT P e=sz) (hzt:z.notTuple=true) (hzl:z.cells.length=sz) (h0:0<sz) (hlim:sz≤16777216)
  (hxt:x.notTuple=true) (hxl:x.cells.length=sz):zK P false nid t 1 [(0,x)] h=some (.sl sz [x.cells] .full,h):=by
 simp only[zK,he,hz,hs];have hrep:zBC 1 z.cells=z.cells:=by simp[zBC]
 have hput:yX z.cells x.cells 0=x.cells:=by simp[yX,hzl,hxl]
 rw[if_pos (by simp[hzt,hzl,h0];omega)];simp only[qS,hrep];rw[if_pos (by simp[hxt,hxl,hzl])];simp only[Nat.zero_mul,hput];simp[yD,←hxl]
def wD (h:Heap) (sz:Nat) (xs:List (List D)) (d:D):Prop:=(d= .nilsl∧xs= [])∨∃t,d= .sl sz xs (.own t)∧h.at' t=some .tok∧t<h.next
theorem wD.isSl {h:Heap} {sz:Nat} {xs:List (List D)} {d:D} (ho:wD h sz xs d):zf sz xs d:=by
 rcases ho with⟨rfl,rfl⟩ | ⟨t,rfl,_⟩
 ·exact zf.nil
 ·exact zf.mk _
theorem wD.keep {h h':Heap} {sz:Nat} {xs:List (List D)} {d:D} (ho:wD h sz xs d) (hk:∀i,i<h.next→h'.at' i=h.at' i) (hn:h.next≤h'.next):wD h' sz xs d:=by
 rcases ho with h1| ⟨t,h1,h2,h3⟩
 ·exact .inl h1
 ·exact .inr ⟨t,h1,by rw[hk t h3];exact h2,by omega⟩
section
variable {P:Program}
theorem zHt {k:Nat} :∀ {xs:List (List D)},(∀x∈xs,zg k x)→zB6 k xs
 | [],_=>by simp only[zB6]
 |x::xs,h=>by
  simp only[zB6];exact⟨h x (by simp),zHt fun y hy=>h y (by simp[hy])⟩
theorem zE0 {k:Nat} :∀ {us vs:List D},zg k us→zg k vs→zg k (us++vs)
 | [],_,_,hb=>hb
 |a::us,vs,ha,hb=>by
  simp only[zg,List.cons_append] at ha⊢;exact⟨ha.1,zE0 ha.2 hb⟩
theorem zE1:∀us vs:List D,z7 (us++vs)=z7 us++z7 vs
 | [],_=>by simp[z7]
 |a::us,vs=>by simp[z7,zE1 us vs]
theorem zHu:∀ {xs:List (List D)},(∀x∈xs,z7 x=x)→zCs xs=xs
 | [],_=>by simp only[zCs]
 |x::xs,h=>by
  simp only[zCs];rw[h x (by simp),zHu fun y hy=>h y (by simp[hy])]
def yr (cs:List D):Prop:=cs.all D.flat=true∧zg 0 cs∧z7 cs=cs
theorem yr.append {us vs:List D} (ha:yr us) (hb:yr vs):yr (us++vs):=
 ⟨by rw[List.all_append,ha.1,hb.1];rfl,zE0 ha.2.1 hb.2.1,by rw[zE1,ha.2.2,hb.2.2]⟩
theorem yr.nil:yr []:=⟨rfl,by simp only[zg],by simp only[z7]⟩
theorem zJe {r:TypeId→List D→Prop} (hr:∀t cs,r t cs→yr cs):∀ (fs:List Field) (cs:List D),zVz P r fs cs→yr cs
 | [],cs,h=>by
  simp only[zVz] at h;subst h;exact yr.nil
 |f::fs,cs,h=>by
  obtain⟨c,cs',rfl,h1,h2⟩:=h;exact yr.append (hr _ _ h1) (zJe hr fs cs' h2)
theorem zE2:∀ (k:Nat) (t:TypeId) (cs:List D),Shp P k t cs→yr cs
 |0,_,_,h=>by simp only[Shp] at h
 |k+1,t,cs,h=>by
  simp only[Shp] at h;split at h
  ·obtain⟨b,rfl⟩:=h;exact⟨rfl,by simp[zg,below],by simp[z7,yE]⟩
  ·obtain⟨n,rfl,_⟩:=h;exact⟨rfl,by simp[zg,below],by simp[z7,yE]⟩
  ·obtain⟨s,rfl,_⟩:=h;exact⟨rfl,by simp[zg,below],by simp[z7,yE]⟩
  ·rcases h with rfl| ⟨xs,rfl,_,hx⟩
   ·exact⟨rfl,by simp[zg,below],by simp[z7,yE]⟩
   ·refine⟨rfl,?_,?_⟩
    ·simp only[zg,below,and_true];exact zHt fun x h=>(zE2 k _ x (hx x h)).2.1
    ·simp only[z7,yE];rw[zHu fun x h=>(zE2 k _ x (hx x h)).2.2]
  ·exact zJe (fun t cs=>zE2 k t cs) _ _ h
  ·exact h.elim
end
def Ext (h h':Heap):Prop:=h.next≤h'.next∧∀i,i<h.next→h'.at' i=h.at' i
def But (S:Nat→Prop) (h h':Heap):Prop:=h.next≤h'.next∧∀i,i<h.next→¬S i→h'.at' i=h.at' i
theorem Ext.refl (h:Heap):Ext h h:=⟨Nat.le_refl _,fun _ _=>rfl⟩
theorem Ext.trans {h1 h2 h3:Heap} (a:Ext h1 h2) (b:Ext h2 h3):Ext h1 h3:=⟨Nat.le_trans a.1 b.1,fun i hi=>by rw[b.2 i (by have:=a.1;omega),a.2 i hi]⟩
theorem Ext.new {h h1:Heap} (a:Ext h h1) {id:Nat} (hid:h.next≤id) (o:Obj):Ext h (h1.new id o):=⟨Nat.le_trans a.1 (qY _ _ _),fun i hi=>by rw[zF (by omega),a.2 i hi]⟩
theorem Ext.set {h h1:Heap} (a:Ext h h1) {id:Nat} (hid:h.next≤id) (o:Obj):Ext h (h1.set id o):=⟨a.1,fun i hi=>by rw[zE (by omega),a.2 i hi]⟩
theorem Ext.del {h h1:Heap} (a:Ext h h1) {id:Nat} (hid:h.next≤id):Ext h (h1.del id):=⟨a.1,fun i hi=>by rw[yV (by omega),a.2 i hi]⟩
theorem Ext.but {h h1:Heap} (a:Ext h h1) (S:Nat→Prop):But S h h1:=⟨a.1,fun i hi _=>a.2 i hi⟩
theorem But.refl (S:Nat→Prop) (h:Heap):But S h h:=⟨Nat.le_refl _,fun _ _ _=>rfl⟩
theorem But.trans {S S':Nat→Prop} {h1 h2 h3:Heap} (a:But S h1 h2) (b:But S' h2 h3) (hs:∀i,S' i→S i∨h1.next≤i):But S h1 h3:=
 ⟨Nat.le_trans a.1 b.1,fun i hi hn=>by rw[b.2 i (by have:=a.1;omega) (fun h=>(hs i h).elim hn (by omega)),a.2 i hi hn]⟩
theorem But.set {S:Nat→Prop} {h h1:Heap} (a:But S h h1) {id:Nat} (hid:S id∨h.next≤id) (o:Obj):But S h (h1.set id o):=⟨a.1,fun i hi hn=>by rw[zE (fun e=>by subst e;exact hid.elim hn (by omega)),a.2 i hi hn]⟩
@[go_sem] theorem ze (h:Heap) (i:Nat) (o:Obj):(h.set i o).next=h.next:=(rfl)
@[go_sem] theorem zQK (h:Heap) (i:Nat):(h.del i).next=h.next:=(rfl)
theorem zD (h:Heap) (o:Obj):(h.new h.next o).next=h.next+1:=by simp[Heap.new]
theorem zb (h:Heap) {i:Nat} (hi:h.next≤i) (o:Obj):(h.new i o).next=i+1:=by simp[Heap.new];omega
section
variable {P:Program} {g:Cfg} {n:Nat} {ro:Option Nat} {Q:Exit→Frm→Heap→Prop} {fr:Frm} {h:Heap}
def zON (ro:Option Nat) (h:Heap):Prop:=
 match ro with
 |none=>True
 |some id=>∃r,h.at' id=some (.loop r)
@[go_sem ↓] theorem zYl:zON none h=True:=(rfl)
@[go_sem ↓] theorem zku (f:FuncId) (a c args:List D) (K:D→Heap→Prop):VFn P (.fn (.func f) a c) args h K=zA P f (a++args++c) h K:=(rfl)
@[go_sem ↓] theorem zWr (f:Operand) (ps:Array Tmp) (asg body:Code):vwp P g n ro (.rangeFunc f ps asg body) Q fr h =
  (zON ro h∧VFn P (zw fr f) [.yld h.next] (h.new h.next (.loop ⟨.ready,none,fr,ps,asg,body,n⟩)) fun _ h'=>∃r,h'.at' h.next=some (.loop r)∧r.st≠ .busy∧zKM r.pending Q fr (h'.del h.next)):=by
 cases ro<;>simp only[vwp,zON]
theorem zBF:zKM none Q fr h=Q .normal fr h:=(rfl)
theorem zHv:zKM (some .ret) Q fr h=Q .ret fr h:=(rfl)
@[go_sem ↓] theorem zcP (t:Tmp) (ts:List Tmp) (d:D) (ds:List D):zFX fr (t::ts) (d::ds)=zFX (zAr fr (some t) d) ts ds:=(rfl)
@[go_sem ↓] theorem zfG:zFX fr [] []=fr:=(rfl)
def wB (K:D→Heap→Prop) (id:Nat) (e:Exit) (_:Frm) (h2:Heap):Prop:=∃L2,h2.at' id=some (.loop L2)∧zKO K id L2 e h2
theorem qk {K:D→Heap→Prop} {id:Nat} {L:LRec} (hL:h.at' id=some (.loop L)) (hk:K (.bool true) (h.set id (.loop { L with st:= .ready,pending:=none }))):wB K id .normal fr h:=⟨L,hL,hk⟩
theorem zFo {K:D→Heap→Prop} {id:Nat} {L:LRec} (hL:h.at' id=some (.loop L)) (hk:K (.bool false) (h.set id (.loop { L with st:= .done,pending:=some .ret }))):wB K id .ret fr h:=⟨L,hL,hk⟩
theorem yT.round (hmix:P.follows .mixedOrders=true) {id:Nat} {args:List D} {K:D→Heap→Prop} {ps:Array Tmp} {asg body:Code} (hL:h.at' id=some (.loop ⟨.ready,none,fr,ps,asg,body,n⟩)) (hlen:args.length=ps.size)
  (hps:ps.toList.all (fun t=>decide (t<n))=true) (ok1:qg P g n asg=true) (ok2:qg P g n body=true)
  (hv:vwp P g n (some id) asg (zEF (fun fr1 h1=>h1.at' id=some (.loop ⟨.ready,none,fr,ps,asg,body,n⟩)∧vwp P g n (some id) body (wB K id) fr1 (h1.set id (.loop ⟨.busy,none,fr,ps,asg,body,n⟩))) (fun _ _ _=>False)) (zFX fr ps.toList args) h):yT P id args h K:=by
 refine yT.of_round (g:=g) hmix hL hlen hps ok1 ok2 (wA asg (fun e fr1 h1 hq=> ?_) _ _ hv);cases e with
 |normal=>exact⟨_,hq.1,rfl,hq.2⟩
 |_=>exact hq.elim
structure Yld (P:Program) (id:Nat) (len:Nat) (el:Nat→List D) (Y:Nat→(Nat→Prop)→Heap→Prop) (Z:(Nat→Prop)→Heap→Prop):Prop where
 here:∀k S h,Y k S h→∀i,S i→i<h.next
 loc:∀k S h h',Y k S h→h.next≤h'.next→(∀i,S i→h'.at' i=h.at' i)→Y k S h'
 hereZ:∀S h,Z S h→∀i,S i→i<h.next
 locZ:∀S h h',Z S h→h.next≤h'.next→(∀i,S i→h'.at' i=h.at' i)→Z S h'
 go:∀k S h,k<len→Y k S h→yT P id (el k) h fun r h'=>∃S',(∀i,S' i→S i∨h.next≤i)∧But S h h'∧((r= .bool true∧Y (k+1) S' h')∨(r= .bool false∧Z S' h'))
theorem Yld.ext {id len:Nat} {el:Nat→List D} {Y:Nat→(Nat→Prop)→Heap→Prop} {Z:(Nat→Prop)→Heap→Prop} (y:Yld P id len el Y Z) {k:Nat} {S:Nat→Prop} {h h':Heap} (hy:Y k S h) (he:Ext h h'):Y k S h':=
 y.loc k S h h' hy he.1 fun i hi=>he.2 i (y.here k S h hy i hi)
end
section
variable {P:Program} {sz:Nat}
theorem yv {xs:List (List D)} (hx:∀x∈xs,x.length=sz):xs.flatten.length=xs.length*sz:=by
 induction xs with
 |nil=>simp
 |cons x xs ih=>rw[List.flatten_cons,List.length_append,hx x (by simp),ih (fun y hy=>hx y (by simp[hy])),List.length_cons,Nat.succ_mul];omega
theorem zHw:∀ {xs:List (List D)} (_:∀x∈xs,x.length=sz) {i:Nat} {x:List D} (_:xs[i]? =some x),(xs.flatten.drop (i*sz)).take sz=x
 | [],_,i,x,h=>by simp at h
 |y::xs,hx,0,x,h=>by
  simp only[List.getElem?_cons_zero,Option.some.injEq] at h;subst h;rw[Nat.zero_mul,List.drop_zero,List.flatten_cons,List.take_append_of_le_length (by rw[hx y (by simp)];exact Nat.le_refl _),List.take_of_length_le (by rw[hx y (by simp)];exact Nat.le_refl _)]
 |y::xs,hx,i+1,x,h=>by
  simp only[List.getElem?_cons_succ] at h;have hy:=hx y (by simp);rw[List.flatten_cons,Nat.succ_mul,Nat.add_comm,List.drop_append,List.drop_of_length_le (by omega),List.nil_append,show sz+i*sz-y.length=i*sz by omega];exact zHw (fun z hz=>hx z (by simp[hz])) h
theorem zQL:∀ {xs:List (List D)} (_:∀x∈xs,x.length=sz) {i:Nat} (_:i<xs.length) {x:List D} (_:x.length=sz),yX xs.flatten x (i*sz)=(xs.set i x).flatten
 | [],_,i,h,x,_=>by simp at h
 |y::xs,hx,0,h,x,hl=>by
  have hy:=hx y (by simp);simp only[yX,Nat.zero_mul,List.take_zero,List.nil_append,Nat.zero_add,List.flatten_cons,List.set_cons_zero];rw[List.drop_append,List.drop_of_length_le (by omega),List.nil_append,show x.length-y.length=0 by omega,List.drop_zero]
 |y::xs,hx,i+1,h,x,hl=>by
  have hy:=hx y (by simp);have ih:=zQL (xs:=xs) (fun z hz=>hx z (List.mem_cons_of_mem _ hz)) (i:=i) (by simpa using h) hl;simp only[yX] at ih⊢;rw[List.flatten_cons,List.set_cons_succ,List.flatten_cons,←ih,Nat.succ_mul,Nat.add_comm (i*sz) sz,List.take_append,List.take_of_length_le (by omega),show sz+i*sz-y.length=i*sz by omega,List.drop_append,List.drop_of_length_le (by omega),List.nil_append,show sz+i*sz+x.length-y.length=i*sz+x.length by omega];simp
theorem zt {t e:TypeId} {id len:Nat} (he:qC P t=some e) (hz:szT P e=sz) {k:IntKind} {i:Nat} (hi:i<len):zT P t (.rs id sz 0 len) (.int k (i:Int))=some (.ptr id (i*sz)):=by
 simp[zT,he,hz,hi]
theorem zCU {t e:TypeId} {id off len:Nat} {h:Heap} (hu:P.underlying t=some (.slice e)):zCr P t (.rs id sz off len) h=some (.int .i64 len):=by simp[zCr,hu]
theorem zBG {xs:List (List D)} (hx:∀x∈xs,x.length=sz) (h0:0<sz) {i:Nat} {x:List D} (hi:xs[i]? =some x):zO true sz xs.flatten (i*sz)=some (.agg x):=by
 have hlt:i<xs.length:=(List.getElem?_eq_some_iff.1 hi).1;have h1:i*sz+sz≤xs.length*sz:=by rw[←Nat.succ_mul];exact Nat.mul_le_mul_right _ hlt
 simp only[zO,if_true];rw[if_neg (by omega),if_pos (by rw[yv hx];exact h1),zHw hx hi]
theorem zHx {t:TypeId} {xs:List (List D)} {h:Heap} {id:Nat} (hr:h.at' id=some (.row xs.flatten)) (hx:∀x∈xs,x.length=sz) (h0:0<sz) (hs:szT P t=sz) {i:Nat} (hi:i<xs.length) {x:List D} (hl:x.length=sz) (hf:x.all D.flat=true):
  zQ P t (.ptr id (i*sz)) (.agg x) h=some (h.set id (.row (xs.set i x).flatten)):=by
 have h1:i*sz+sz≤xs.length*sz:=by rw[←Nat.succ_mul];exact Nat.mul_le_mul_right _ hi
 simp only[zQ,hr,D.cells,hs,hl];rw[if_pos,zQL hx hi hl];simp only[Bool.and_eq_true,decide_eq_true_eq,ne_eq];refine⟨⟨⟨by omega,trivial⟩,by rw[yv hx];exact h1⟩,hf⟩
theorem zBW {xs:List (List D)} (hx:∀x∈xs,x.length=sz):yD sz xs.length xs.flatten=xs:=by
 have:=zA5 sz xs [] 0 hx;simpa [yD] using this
theorem zGH {t e:TypeId} {xs:List (List D)} {tk:Tk} {h:Heap} {nid:Nat} (he:qC P t=some e) (hz:zGk P e=true) (hs:szT P e=sz) (h0:0<sz) (hx:∀x∈xs,x.length=sz) (hb:xs.length*yL P e≤lim) (hl:xs.length≤lim):
  z8 P false nid t (.sl sz [] .full) (.sl sz xs tk) h=if xs.length=0 then some (.sl sz [] .full,h) else some (.sl sz xs (.own nid),h.new nid .tok):=by
 simp only[z8,he,hz,hs,zSJ,if_true,yv hx,Nat.mul_div_cancel _ h0,qO];rw[if_pos (by simp only[List.length_nil,Nat.zero_add,Bool.and_eq_true,decide_eq_true_eq];exact⟨⟨trivial,hb⟩,hl⟩)];simp only[Bool.false_eq_true,if_false,zBW hx,List.nil_append]
theorem zE3 {t e:TypeId} {xs:List (List D)} {tk:Tk} {h:Heap} {nid:Nat} (he:qC P t=some e) (hz:zGk P e=true) (hs:szT P e=sz) (h0:0<sz) (hx:∀x∈xs,x.length=sz) (hb:xs.length*yL P e≤lim) (hl:xs.length≤lim):
  z8 P true nid t (.sl sz [] .full) (.sl sz xs tk) h=if xs.length=0 then some (.sl sz [] .full,h) else some (.rs nid sz 0 xs.length,h.new nid (zAv P e xs.flatten)):=by
 simp only[z8,he,hz,hs,zSJ,if_true,yv hx,Nat.mul_div_cancel _ h0,qO];rw[if_pos (by simp only[List.length_nil,Nat.zero_add,Bool.and_eq_true,decide_eq_true_eq];exact⟨⟨trivial,hb⟩,hl⟩)];simp only[List.length_nil,Nat.zero_add,List.flatten_nil,List.nil_append]
theorem zRR {e:TypeId} {cs:List D} (hu:P.underlying e=some (.int .i64)):zAv P e cs= .row cs:=by simp[zAv,hu]
theorem zA6 {e:TypeId} {fs:Array Field} {cs:List D} (hu:P.underlying e=some (.struct fs)):zAv P e cs= .row cs:=by simp[zAv,hu]
end
open Go.RowKit (Below)
theorem zHy (W:World) (b:Nat) (c':Array Value):Go.Sort.mapBlock W b (fun _=>c')=W.setRow b c':=by
 unfold Go.Sort.mapBlock World.setRow;congr 1
section
variable {w0:Base} {G:List Nat} {M:Imm} {ρ:Ren} {h:Heap} {w:World}
theorem Sim.ahead (hs:Sim w0 G M ρ h w):∀q:Nat,Sim w0 G M ρ h (Go.Sort.ahead w q)
 |0=>hs
 |q+1=>by
  have:=(Sim.ahead hs q).drew
  rwa [Go.Sort.ahead_drew] at this
theorem Sim.putRow {α:Type} [Inhabited α] {enc:α→Value} {dd:α→D} (hfl:∀x,(dd x).flat=true) (hs:Sim w0 G M ρ h w) {id:Nat} {pre post:List D} {xs ys:List α} (hi:h.at' id=some (.row (pre++xs.map dd++post))) {l:Loc} (hl:ρ id=some l)
  (hlen:ys.length=xs.length) (hy:∀y∈ys,rel M ρ (dd y) (enc y)):Sim w0 G M ρ (h.set id (.row (pre++ys.map dd++post))) (Go.Sort.putRow enc w l.blk pre.length ys.toArray):=by
 obtain⟨l',h1,_,hM,c,e,hw,hls,hcl,hcells⟩:=hs.live id _ hi;rw[hl] at h1;cases h1;have hL:(pre++xs.map dd++post).length=pre.length+xs.length+post.length:=by simp;omega
 have hL2:(pre++ys.map dd++post).length=pre.length+xs.length+post.length:=by simp[hlen];omega
 unfold Go.Sort.putRow;rw[Go.Sort.mapBlock_congr w l.blk (Go.Sort.putCells enc pre.length ys.toArray) (fun _=>Go.Sort.putCells enc pre.length ys.toArray c) (fun c1 e1 fr1 h1=>by rw[hw] at h1;cases h1;rfl),zHy];have hsz:(Go.Sort.putCells enc pre.length ys.toArray c).size=c.size:=by simp[Go.Sort.putCells]
 refine hs.setRow hi hl hw hsz (by rw[hsz,hL2,←hL];exact hcl) (yB (by
  have e:(Go.Sort.putCells enc pre.length ys.toArray c).toList.length=c.size:=by rw[Array.length_toList];exact hsz
  rw[List.length_take,e];omega) fun i d v hd hv=> ?_) ?_
 ·have hlt:i<(pre++ys.map dd++post).length:=(List.getElem?_eq_some_iff.1 hd).1;rw[List.getElem?_take,if_pos hlt,Array.getElem?_toList] at hv;simp only[Go.Sort.putCells,Array.getElem?_mapIdx] at hv;obtain⟨v0,hv0,rfl⟩:=Option.map_eq_some_iff.1 hv;by_cases hin:pre.length≤i∧i<pre.length+ys.toArray.size
  ·rw[if_pos hin];have h2:i-pre.length<ys.length:=by have:=hin.2;simp only[List.size_toArray] at this;omega
   rw[List.append_assoc,List.getElem?_append_right hin.1,List.getElem?_append_left (by simpa using h2),List.getElem?_map,List.getElem?_eq_getElem h2] at hd;cases hd;rw[getElem!_pos ys.toArray (i-pre.length) (by simpa using h2)];exact hy _ (by simp)
  ·rw[if_neg hin];have hd':(pre++xs.map dd++post)[i]? =some d:=by
    simp only[List.size_toArray,not_and,Nat.not_lt] at hin;by_cases hp:i<pre.length
    ·rw[List.append_assoc,List.getElem?_append_left hp] at hd⊢;exact hd
    ·have hq:=hin (by omega);rw[List.getElem?_append_right (by simp;omega)] at hd⊢;simpa [hlen] using hd
   obtain⟨_,u,e1,e2⟩:=hcells i d hd';rw[hv0] at e1;cases e1;exact e2
 ·rw[List.all_append,List.all_append];have h1:pre.all D.flat=true:=List.all_eq_true.2 fun d hd=>by
   obtain⟨i,hi'⟩:=List.mem_iff_getElem?.1 hd;have hlt:=(List.getElem?_eq_some_iff.1 hi').1;exact(hcells i d (by rw[List.append_assoc,List.getElem?_append_left hlt];exact hi')).1
  have h3:post.all D.flat=true:=List.all_eq_true.2 fun d hd=>by
   obtain⟨i,hi'⟩:=List.mem_iff_getElem?.1 hd;exact(hcells (pre.length+xs.length+i) d (by rw[List.getElem?_append_right (by simp)];simpa using hi')).1
  rw[h1,h3,List.all_eq_true.2 fun d hd=>by obtain⟨y,_,rfl⟩:=List.mem_map.1 hd;exact hfl y];rfl
end
abbrev Way:=Nat×Fl×Bool
def onO (o:Option Oper) (k:Oper→Prop):Prop:=
 match o with
 |some o=>k o
 |none=>False
def zHz (P:Program) (h0:Heap) (o:Op) (ev:Operand→D) (k:D→Prop):Prop:=
 match o with
 | .load t a=>onS (zA0 P t (ev a) h0) k
 |o=>∃d,zVs P h0 o ev d∧k d
def zWs (P:Program) (mu:Tmp→Bool) (h0:Heap) (st:Fl) (ops:Array Oper) (o:Oper) (fr:Frm) (h:Heap) (k:D→Heap→Prop):Prop:=
 match qE ops fr o.guard with
 |false=>k wE h
 |true=>match st with
  | .st=>zHz P h0 o.op (zw fr) fun d=>k d h
  | .no=>qy P (zF8 mu o.dst) h.next o.op (zw fr) h k
  | .qu=>qy P (zF8 mu o.dst) h.next o.op (zw fr) h fun d h'=>h'=h∧k d h
  | .al i=>qy P (zF8 mu o.dst) (h0.next+i) o.op (zw fr) h k
def zMa (P:Program) (mu:Tmp→Bool) (h0:Heap) (ops:Array Oper):List Way→(Frm→Heap→Prop)→Frm→Heap→Prop
 | [],K,fr,h=>K fr h
 |w::rest,K,fr,h=>onO ops[w.1]? fun o=>zWs P mu h0 w.2.1 ops o fr h fun d h'=>(w.2.2=true→HLe h0 h')∧zMa P mu h0 ops rest K (zAr fr o.dst d) h'
def zJf (bk:Nat→Bool):Bool→List (Nat×Fl)→List Way→Bool
 |_,[],[]=>true
 |fl,x::xs,w::ws=>Nat.beq x.1 w.1&&(match x.2 with
  | .no=>match w.2.1 with
   | .no=>true
   |_=>false
  | .st=>match w.2.1 with
   | .st=>true
   |_=>false
  | .qu=>match w.2.1 with
   | .qu=>true
   |_=>false
  | .al i=>match w.2.1 with
   | .al j=>Nat.beq i j
   |_=>false)&&(w.2.2|| !(fl&& !bk x.1))&&zJf bk (fl&& !bk x.1) xs ws
 |_,_,_=>false
section
variable {P:Program} {g:Cfg} {n:Nat} {ro:Option Nat} {Q:Exit→Frm→Heap→Prop} {fr:Frm} {h:Heap} {mu:Tmp→Bool} {h0:Heap}
theorem zUK {t:TypeId} {a:Operand} {ev:Operand→D} {d:D} (hv:zA0 P t (ev a) h0=some d):zVs P h0 (.load t a) ev d:=by
 intro h' hle;simp only[qy,qM,vop,zPM hle hv,Option.map_some];exact⟨trivial,trivial⟩
theorem zaW {st:Fl} {ops:Array Oper} {o:Oper} {k:D→Heap→Prop} (hv:zWs P mu h0 st ops o fr h k):ux P mu h0 st ops o fr h k:=by
 unfold zWs at hv;unfold ux;split at hv
 ·rename_i hg;rw[hg];exact hv
 ·rename_i hg;rw[hg];cases st with
  |st=>
   simp only at hv⊢;unfold zHz at hv;split at hv
   ·rename_i t a ho;rw[ho];unfold onS at hv;split at hv
    ·rename_i d hd;exact⟨d,zUK hd,hv⟩
    ·exact hv.elim
   ·exact hv
  |_=>exact hv
theorem zJg {bk:Nat→Bool} {ops:Array Oper} {K:Frm→Heap→Prop} :∀ {l:List (Nat×Fl)} {ws:List Way} {fl:Bool} {fr:Frm} {h:Heap},zJf bk fl l ws=true→zMa P mu h0 ops ws K fr h→zAl P mu h0 bk ops fl l K fr h
 | [],[],_,fr,h,_,hv=>hv
 | [],_::_,_,_,_,hw,_=>by simp[zJf] at hw
 |_::_,[],_,_,_,hw,_=>by simp[zJf] at hw
 |(i,st)::l,(j,st',b)::ws,fl,fr,h,hw,hv=>by
  simp only[zJf,Bool.and_eq_true] at hw;obtain⟨⟨⟨w1,w2⟩,w3⟩,w4⟩:=hw;have e1:i=j:=Nat.eq_of_beq_eq_true w1;have e2:st=st':=by
   cases st<;>cases st'<;>simp only at w2<;>(first|rfl|(cases w2;done)|skip)
   rw[Nat.eq_of_beq_eq_true w2]
  subst e1;subst e2;simp only[zMa] at hv;simp only[zAl];unfold onO at hv;split at hv
  ·rename_i o ho;rw[ho];refine zFV (fun d h' hx=>⟨fun hb=>hx.1 ?_,zJg w4 hx.2⟩) (zaW hv);cases b with
   |true=>rfl
   |false=>rw[hb] at w3;simp at w3
  ·exact hv.elim
theorem zx (h0:Heap) (ws:List Way) {id:Nat} {l:List Oper} (hw:zJf (zVa P g.mu l.toArray (g.dr id) (zGV l 0 [])) ((g.dr id).any (·.2.isSt)) (g.dr id) ws=true) (hal:Nat.beq (alN (g.dr id)) 0=true) (hle:HLe h0 h)
  (hv:zMa P g.mu h0 l.toArray ws (Q .normal) fr h):vwp P g n ro (.region id l.toArray true) Q fr h:=by
 rw[zPS];refine⟨h0,hle,?_⟩;rw[zEf (Nat.eq_of_beq_eq_true hal)];exact zJg hw hv
def wY:Nat→List (Nat×Fl)→List Oper→Bool
 |_,[],[]=>true
 |k,x::xs,_::os=>Nat.beq x.1 k&&x.2.isNo&&wY (k+1) xs os
 |_,_,_=>false
theorem zJh {bk:Nat→Bool} {ops:Array Oper} {K:Frm→Heap→Prop} {h0:Heap} :∀ {l:List (Nat×Fl)} {os pre:List Oper} {fr:Frm} {h:Heap},ops.toList=pre++os→wY pre.length l os=true→zIj P mu ops os K fr h→zAl P mu h0 bk ops false l K fr h
 | [],[],_,fr,h,_,_,hv=>hv
 | [],_::_,_,_,_,_,hw,_=>by simp[wY] at hw
 |_::_,[],_,_,_,_,hw,_=>by simp[wY] at hw
 |(i,st)::l,o::os,pre,fr,h,hp,hw,hv=>by
  simp only[wY,Bool.and_eq_true] at hw;obtain⟨⟨w1,w2⟩,w3⟩:=hw;have e1:i=pre.length:=Nat.eq_of_beq_eq_true w1;subst e1;have ho:ops[pre.length]? =some o:=by rw[←Array.getElem?_toList,hp];simp
  have hst:st= .no:=by cases st<;>simp[Fl.isNo] at w2<;>rfl
  subst hst;simp only[zAl,ho,Bool.false_and];simp only[zIj] at hv;have ih:∀fr h,zIj P mu ops os K fr h→zAl P mu h0 bk ops false l K fr h:=fun fr h hv=>zJh (pre:=pre++ [o]) (by simp[hp]) (by simpa using w3) hv;unfold ux;split at hv
  ·rename_i hg;rw[hg];exact zBN (fun d h' hx=>⟨fun e=>(by cases e),ih _ _ hx⟩) hv
  ·rename_i hg;rw[hg];exact⟨fun e=>(by cases e),ih _ _ hv⟩
theorem zGI:∀ {l:List (Nat×Fl)} {os:List Oper} {k:Nat},wY k l os=true→l.any (·.2.isSt)=false∧alN l=0
 | [],[],_,_=>⟨rfl,rfl⟩
 | [],_::_,_,hw=>by simp[wY] at hw
 |_::_,[],_,hw=>by simp[wY] at hw
 |(i,st)::l,o::os,k,hw=>by
  simp only[wY,Bool.and_eq_true] at hw;obtain⟨h1,h2⟩:=zGI hw.2;have hst:st= .no:=by have:=hw.1.2;cases st<;>simp[Fl.isNo] at this<;>rfl
  subst hst;exact⟨by rw[List.any_cons,h1];rfl,by simp only[alN,h2]⟩
theorem zS {id:Nat} {l:List Oper} (ht:wY 0 (g.dr id) l=true) (hv:zIj P g.mu l.toArray l (Q .normal) fr h):vwp P g n ro (.region id l.toArray true) Q fr h:=by
 obtain⟨h1,h2⟩:=zGI ht;rw[zPS];refine⟨⟨0,fun _=>none⟩,fun i ob e=>(by cases e),?_⟩;rw[zEf h2,h1];exact zJh (pre:=[]) rfl ht hv
end
section
variable {P:Program} {mu:Tmp→Bool} {h0:Heap} {ops:Array Oper} {l:List Oper} {K:Frm→Heap→Prop} {k:D→Heap→Prop} {fr:Frm} {h:Heap} {dst:Option Tmp} {ty:TypeId} {pos:String} {after:Array Edge} {rest:List Way}
@[congr] theorem zfH {o o':Option Oper} {k:Oper→Prop} (h:o=o'):onO o k=onO o' k:=by rw[h]
@[go_sem ↓] theorem zfI:zMa P mu h0 ops [] K fr h=K fr h:=(rfl)
@[go_sem ↓] theorem zcQ (w:Way):zMa P mu h0 l.toArray (w::rest) K fr h=onO l[w.1]? fun o=>zWs P mu h0 w.2.1 l.toArray o fr h fun d h'=>(w.2.2=true→HLe h0 h')∧zMa P mu h0 l.toArray rest K (zAr fr o.dst d) h':=by
 simp only[zMa,List.getElem?_toArray]
@[go_sem ↓] theorem zgh (o:Oper) (k:Oper→Prop):onO (some o) k=k o:=(rfl)
@[go_sem ↓] theorem zi9 (op:Op):zWs P mu h0 .no ops ⟨dst,op,ty,pos,after,none⟩ fr h k=qy P (zF8 mu dst) h.next op (zw fr) h k:=(rfl)
@[go_sem ↓] theorem zjA (op:Op):zWs P mu h0 .st ops ⟨dst,op,ty,pos,after,none⟩ fr h k=zHz P h0 op (zw fr) fun d=>k d h:=(rfl)
@[go_sem ↓] theorem zaX (t:TypeId) (a:Operand) (k:D→Prop):zHz P h0 (.load t a) (zw fr) k=onS (zA0 P t (zw fr a) h0) k:=(rfl)
@[go_sem ↓] theorem zcR (st:Fl) (op:Op) (j:Nat) (b:Bool):zWs P mu h0 st ops ⟨dst,op,ty,pos,after,some (j,b)⟩ fr h k =
  gif (qE ops fr (some (j,b))) (zWs P mu h0 st ops ⟨dst,op,ty,pos,after,none⟩ fr h k) (k wE h):=by
 unfold zWs gif;cases qE ops fr (some (j,b))<;>rfl
end
def zfJ:D→Bool
 | .nilsl=>true
 |_=>false
section
variable {P:Program} {t e:TypeId} {c:Bool} {sz:Nat} {xs:List (List D)} {d:D}
theorem zBX (hd:zf sz xs d) (hu:P.underlying t=some (.slice e)):zCz P .eql t c d .nilsl=some (.bool (zfJ d)):=by
 rcases hd with⟨rfl,rfl⟩ | ⟨tk,rfl⟩ <;>simp[zCz,zVi,zAJ,veq,hu,zfJ]
theorem wk {nid:Nat} {z:D} {h:Heap} (he:qC P t=some e) (hz:qD P e=some z) (hs:szT P e=sz) (hzt:z.notTuple=true) (hzl:z.cells.length=sz) (h0:0<sz):zK P false nid t 0 [] h=some (.sl sz [] .full,h):=by
 simp only[zK,he,hz,hs];rw[if_pos (by simp[hzt,hzl,h0])];simp[qS,yD]
end
theorem zfK {id sz len:Nat} {cs:List D} {xs:List (List D)} (hx:∀x∈xs,x.length=sz) (hl:xs.length=len) (hc:cs=xs.flatten):frz id cs (.rs id sz 0 len)= .sl sz xs .no:=by
 subst hc hl;simp only[frz];rw[if_pos ⟨trivial,by rw[yv hx];omega⟩,List.drop_zero,List.take_of_length_le (by rw[yv hx];omega),zBW hx]
def Heap.Ok (h:Heap):Prop:=∀i,h.next≤i→h.at' i=none
theorem zA.known {P:Program} {f:FuncId} {args:List D} {h:Heap} {Q:D→Heap→Prop} (he:wm P f=true) (hv:zg h.next args→h.Ok→zA P f args h Q):zA P f args h Q:=by
 refine⟨he,fun w0 G M ρ w va hg0 hs hfr hr=>(hv (zAT hfr _ _ hr) fun i hi=> ?_).2 w0 G M ρ w va hg0 hs hfr hr⟩;cases hz:h.at' i with
 |none=>rfl
 |some ob=>
  obtain⟨l,hl,_⟩:=hs.live i ob hz;rw[hfr i hi] at hl;cases hl
theorem Ext.hle {h h':Heap} (hok:h.Ok) (he:Ext h h'):HLe h h':=fun i ob e=>by
 by_cases hi:i<h.next
 ·rw[he.2 i hi];exact e
 ·rw[hok i (by omega)] at e;cases e
theorem zA.pure {P:Program} {f:FuncId} {args:List D} {h:Heap} {Q:D→Prop} (he:wm P f=true) (hv:h.Ok→zA P f args h fun d h'=>Ext h h'∧below h.next d∧Q d):zA P f args h fun d h'=>h'=h∧Q d:=
 zA.known he fun _ hok=>zA.gc (fun _=>(hv hok).mono fun _ _ hx=>⟨hx.1.hle hok,hx.2.1,hx.2.2⟩) he
theorem yg {sz:Nat} {xs:List (List D)} (hx:∀x∈xs,yr x) (tk:Tk):yE (.sl sz xs tk)= .sl sz xs .no∧below 0 (.sl sz xs .no):=by
 have h2:zCs xs=xs:=zHu fun x h=>(hx x h).2.2;simp only[yE,h2,below,and_true,true_and];exact zHt fun x h=>(hx x h).2.1
section
variable {P:Program} {k:Nat} {t e:TypeId} {c:List D}
theorem zBY {q:IntKind} (hu:P.underlying t=some (.int q)) (h:Shp P k t c):∃n,c= [.int q n]∧fits q n:=by
 cases k with
 |zero=>simp only[Shp] at h
 |succ k=>simpa only[Shp,hu] using h
theorem zWt (hu:P.underlying t=some .bool) (h:Shp P k t c):∃b,c= [.bool b]:=by
 cases k with
 |zero=>simp only[Shp] at h
 |succ k=>simpa only[Shp,hu] using h
theorem zAY (hu:P.underlying t=some .string) (h:Shp P k t c):∃s,c= [.str s]∧s.length≤1048576:=by
 cases k with
 |zero=>simp only[Shp] at h
 |succ k=>simpa only[Shp,hu] using h
theorem zGJ {sz:Nat} (hu:P.underlying t=some (.slice e)) (hs:szT P e=sz) (h:Shp P k t c):∃d xs j,c= [d]∧j<k∧zf sz xs d∧(d= .nilsl∨d= .sl sz xs .no)∧xs.length≤1048576∧∀x∈xs,Shp P j e x:=by
 cases k with
 |zero=>simp only[Shp] at h
 |succ k=>
  simp only[Shp,hu] at h;rcases h with rfl| ⟨xs,rfl,h1,h2⟩
  ·exact⟨_,[],k,rfl,Nat.lt_succ_self _,zf.nil, .inl rfl,by simp,by simp⟩
  ·have:P.cellsOf e=sz:=hs;rw[this];exact⟨_,xs,k,rfl,Nat.lt_succ_self _,zf.mk _, .inr rfl,h1,h2⟩
theorem zAZ {fs:Array Field} (hu:P.underlying t=some (.struct fs)) (h:Shp P k t c):∃j,j<k∧zVz P (Shp P j) fs.toList c:=by
 cases k with
 |zero=>simp only[Shp] at h
 |succ k=>exact⟨k,Nat.lt_succ_self _,by simpa only[Shp,hu] using h⟩
theorem zm {r:TypeId→List D→Prop} {f:Field} {fs:List Field} {cs:List D} (h:zVz P r (f::fs) cs):∃c cs',cs=c++cs'∧r f.type c∧zVz P r fs cs':=h
theorem zCV {r:TypeId→List D→Prop} {cs:List D} (h:zVz P r [] cs):cs= []:=h
end
section
variable {P:Program}
theorem zV {t:TypeId} {id off:Nat} {cs:List D} {x:D} {h:Heap} (hi:h.at' id=some (.row cs)) (hs:szT P t=1) (ho:off<cs.length) (hc:x.cells= [x]) (hf:x.flat=true):zQ P t (.ptr id off) x h=some (h.set id (.row (cs.set off x))):=by
 have hp:yX cs [x] off=cs.set off x:=by
  simp only[yX,List.length_singleton];rw[List.set_eq_take_append_cons_drop,if_pos ho];simp
 simp only[zQ,hi,hs,hc,hp];rw[if_pos];simp[hf];omega
end
@[go_sem] theorem zgi (h:Heap):HLe h h=True:=eq_true fun _ _ e=>e
attribute [go_sem] true_and and_true true_implies implies_true false_implies
theorem zA7 {h:Heap} {i:Nat} {o:Obj} (hi:h.at' i=some o):h.set i o=h:=by
 cases h with
 |mk n a=>
  simp only[Heap.set,Heap.mk.injEq,true_and]
  funext j
  by_cases hj:j=i
  ·subst hj;rw[if_pos rfl];exact hi.symm
  ·rw[if_neg hj]
theorem zCW (h:Heap) (i:Nat) (o o':Obj):(h.new i o).set i o'=h.new i o':=by
 simp only[Heap.set,Heap.new,Heap.mk.injEq,true_and]
 funext j
 by_cases hj:j=i<;>simp[hj]
theorem zU {P:Program} {t:TypeId} {n id:Nat} {cs cs':List D} {h:Heap} (hs:szT P t=n) (hn:0<n) (hl:cs.length=n) (hl':cs'.length=n) (hf:cs'.all D.flat=true):zQ P t (.ptr id 0) (.agg cs') (h.new id (.row cs))=some (h.new id (.row cs')):=by
 subst hl';rw[yN (zJ _ _ _) hs hl hn hf,zCW]
def wo:D→Nat→Prop
 | .sl _ _ (.own t),i=>i=t
 |_,_=>False
theorem wD.app2 {P:Program} {h:Heap} {sz:Nat} {xs ys:List (List D)} {d:D} {tk:Tk} {t e:TypeId} {K:D→Heap→Prop} (ho:wD h sz xs d) (he:qC P t=some e) (hz:zGk P e=true) (hs:szT P e=sz) (h0:0<sz) (hys:∀y∈ys,y.length=sz) (hy0:ys≠[])
  (hb:(xs.length+ys.length)*yL P e≤lim) (hl:xs.length+ys.length≤lim) (hK:∀d' h',wD h' sz (xs++ys) d'→h.next≤h'.next→(∀i,i<h.next→¬wo d i→h'.at' i=h.at' i)→(∀i,wo d' i→h.next≤i)→d'.cells= [d']→d'.flat=true→K d' h'):onR (z8 P false h.next t d (.sl sz ys tk) h) K:=by
 have hlen:0<ys.length:=List.length_pos_iff.2 hy0;simp only[z8,he,hz,hs,zSJ,if_true,yv hys,Nat.mul_div_cancel _ h0];rcases ho with⟨rfl,rfl⟩ | ⟨q,rfl,h1,h2⟩
 ·simp only[qO];rw[if_neg (by omega),if_pos (by simp only[Bool.and_eq_true,decide_eq_true_eq];simp only[List.length_nil,Nat.zero_add] at hb hl;exact⟨hb,hl⟩)];simp only[Bool.false_eq_true,if_false,zBW hys,zGu];refine hK _ _ (.inr ⟨h.next,by simp,zJ _ _ _,Nat.lt_of_lt_of_le (Nat.lt_succ_self _) (Nat.le_max_right _ _)⟩) (qY _ _ _) (fun i hi _=>zF (by omega)) (fun i hi=> ?_) rfl rfl;simp only[wo] at hi;omega
 ·simp only[qO];rw[if_pos (by simp only[Bool.and_eq_true,decide_eq_true_eq];exact⟨⟨trivial,hb⟩,hl⟩)];simp only[h1,Bool.false_eq_true,if_false,zBW hys,zGu];refine hK _ _ (.inr ⟨h.next,rfl,zJ _ _ _,Nat.lt_of_lt_of_le (Nat.lt_succ_self _) (Nat.le_max_right _ _)⟩) (qY (h.del q) _ _) (fun i hi hne=> ?_) (fun i hi=> ?_) rfl rfl
  ·simp only[wo] at hne;rw[zF (by omega),yV hne]
  ·simp only[wo] at hi;omega
def zcS (n0 sz:Nat) (L:LRec) (ps:List (List D)) (k:Nat) (S:Nat→Prop) (h:Heap):Prop:=
 n0+1<h.next∧h.at' (n0+1)=some (.loop L)∧∃d,h.at' n0=some (.row [d])∧wD h sz (ps.take k) d∧∀i,S i↔(i=n0∨i=n0+1∨wo d i)
theorem wD.tok {h:Heap} {sz:Nat} {xs:List (List D)} {d:D} (ho:wD h sz xs d) {i:Nat} (hi:wo d i):i<h.next∧h.at' i=some .tok:=by
 rcases ho with⟨rfl,_⟩ | ⟨t,rfl,h1,h2⟩
 ·exact hi.elim
 ·simp only[wo] at hi;subst hi;exact⟨h2,h1⟩
theorem wD.loc {h h':Heap} {sz:Nat} {xs:List (List D)} {d:D} (ho:wD h sz xs d) (hn:h.next≤h'.next) (hk:∀i,wo d i→h'.at' i=h.at' i):wD h' sz xs d:=by
 rcases ho with h1| ⟨t,rfl,h1,h2⟩
 ·exact .inl h1
 ·exact .inr ⟨t,rfl,by rw[hk t rfl];exact h1,by omega⟩
theorem zcS.here {n0 sz:Nat} {L:LRec} {ps:List (List D)} {k:Nat} {S:Nat→Prop} {h:Heap} (y:zcS n0 sz L ps k S h) (i:Nat) (hi:S i):i<h.next:=by
 obtain⟨h1,_,d,_,h3,h4⟩:=y;rcases(h4 i).1 hi with rfl|rfl|ht
 ·omega
 ·omega
 ·exact(h3.tok ht).1
theorem zcS.loc {n0 sz:Nat} {L:LRec} {ps:List (List D)} {k:Nat} {S:Nat→Prop} {h h':Heap} (y:zcS n0 sz L ps k S h) (hn:h.next≤h'.next) (hk:∀i,S i→h'.at' i=h.at' i):zcS n0 sz L ps k S h':=by
 obtain⟨h1,h2,d,h3,h4,h5⟩:=y;exact⟨by omega,by rw[hk _ ((h5 _).2 (.inr (.inl rfl)))];exact h2,d,by rw[hk _ ((h5 _).2 (.inl rfl))];exact h3,h4.loc hn fun i hi=>hk i ((h5 i).2 (.inr (.inr hi))),h5⟩
theorem Ext.of_but {S:Nat→Prop} {h h1 h2:Heap} (a:Ext h h1) (b:But S h1 h2) (hs:∀i,S i→h.next≤i):Ext h h2:=
 ⟨Nat.le_trans a.1 b.1,fun i hi=>by rw[b.2 i (by have:=a.1;omega) fun e=>by have:=hs i e;omega,a.2 i hi]⟩
def Fin (sz:Nat) (xs:List (List D)) (d:D):Prop:=(d= .nilsl∧xs= [])∨d= .sl sz xs .no
theorem Fin.isSl {sz:Nat} {xs:List (List D)} {d:D} (hf:Fin sz xs d):zf sz xs d:=by
 rcases hf with⟨rfl,rfl⟩ |rfl
 ·exact zf.nil
 ·exact zf.mk _
theorem wD.fin {h:Heap} {sz:Nat} {xs:List (List D)} {d:D} (ho:wD h sz xs d) (hx:∀x∈xs,yr x):below 0 (yE d)∧Fin sz xs (yE d):=by
 rcases ho with⟨rfl,rfl⟩ | ⟨t,rfl,_⟩
 ·exact⟨trivial, .inl ⟨rfl,rfl⟩⟩
 ·rw[(yg hx _).1];exact⟨(yg hx .no).2, .inr rfl⟩
@[go_sem ↓] theorem zfL (a:Oper) (l m:List Oper):List.append (a::l) m=a::List.append l m:=(rfl)
@[go_sem ↓] theorem zgj (m:List Oper):List.append [] m=m:=(rfl)
@[go_sem ↓] theorem zgk (a:Oper) (l:List Oper):(a::l)[0]? =some a:=(rfl)
@[go_sem ↓] theorem zgl (a:Oper) (l:List Oper) (n:Nat):(a::l)[n+1]? =l[n]? :=(rfl)
def gdB:D→Bool→Bool
 | .bool x,b=>x==b
 |_,_=>false
def zfM:Option Oper→Frm→Bool→Bool
 |some o,fr,b=>match o.dst with
  |some t=>gdB (fr t) b
  |none=>false
 |none,_,_=>false
@[go_sem ↓] theorem zaY (l:List Oper) (fr:Frm) (j:Nat) (b:Bool):qE l.toArray fr (some (j,b))=zfM l[j]? fr b:=by
 unfold qE zfM;simp only[List.getElem?_toArray];cases l[j]? with
 |none=>rfl
 |some o=>
  simp only[Option.bind_some];cases o.dst with
  |none=>rfl
  |some t=>
   simp only;cases fr t<;>rfl
@[congr] theorem zcT {o o':Option Oper} {fr:Frm} {b:Bool} (h:o=o'):zfM o fr b=zfM o' fr b:=by rw[h]
@[go_sem ↓] theorem zfN (t:Tmp) (op:Op) (ty:TypeId) (pos:String) (after:Array Edge) (gd:Option (Nat×Bool)) (fr:Frm) (b:Bool):zfM (some ⟨some t,op,ty,pos,after,gd⟩) fr b=gdB (fr t) b:=(rfl)
@[go_sem ↓] theorem zgm (x b:Bool):gdB (.bool x) b=(x==b):=(rfl)
@[go_sem ↓] theorem zfO (b:Bool):gdB wE b=false:=(rfl)
@[go_sem] theorem zkv:(true==true)=true:=(rfl)
@[go_sem] theorem zkw:(true==false)=false:=(rfl)
@[go_sem] theorem zkx:(false==true)=false:=(rfl)
@[go_sem] theorem zky:(false==false)=true:=(rfl)
theorem zCX {P:Program} {g:Cfg} {n:Nat} {ro:Option Nat} {c:Code} {K:Frm→Heap→Prop} {Q:Exit→Frm→Heap→Prop} {fr:Frm} {h:Heap} (R:Frm→Heap→Prop) (h1:vwp P g n ro c (zEF R fun _ _ _=>False) fr h) (h2:∀fr h,R fr h→K fr h):vwp P g n ro c (zEF K Q) fr h:=
 wA c (fun e fr h hx=>by
  cases e with
  |normal=>exact h2 fr h hx
  |_=>exact hx.elim) fr h h1
end Go.V
