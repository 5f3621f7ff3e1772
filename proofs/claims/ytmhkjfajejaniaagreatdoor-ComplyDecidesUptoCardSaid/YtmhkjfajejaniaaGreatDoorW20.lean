/- Rules of the machine of abstract values, part 2. No condition. -/
import Derived.Test.YtmhkjfajejaniaaGreatDoorW17
import Derived.Test.YtmhkjfajejaniaaGreatDoorW19
import Derived.Test.YtmhkjfajejaniaaGreatDoorW06
import Derived.Sort.Row
set_option linter.all false
namespace Go.V
theorem gJ {α:Type _} (a b:α):(some a).getD b=a:=rfl
section
variable {P:Program} {g:Cfg} {n:Nat} {mu:Tmp→Bool} {h0:Heap} {bk:Nat→Bool} {ops:Array Oper}
theorem zHs:∀ (l:List Oper) {K K':Frm→Heap→Prop} (_:∀fr h,K fr h→K' fr h) (fr:Frm) (h:Heap),zIo P mu ops l K fr h→zIo P mu ops l K' fr h
 | [],_,_,hk,fr,h,hv=>hk fr h hv
 |o::rest,K,K',hk,fr,h,hv=>by
  simp only[zIo] at hv⊢;cases hg:qF ops fr o.guard with
  |true=>
   rw[hg] at hv;exact zBH (fun d h' hx=>zHs rest hk _ _ hx) hv
  |false=>
   rw[hg] at hv;exact zHs rest hk _ _ hv
theorem zFl:∀ (l:List (Nat×Fl)) {K K':Frm→Heap→Prop} (_:∀fr h,K fr h→K' fr h) (fl:Bool) (fr:Frm) (h:Heap),zAf P mu h0 bk ops fl l K fr h→zAf P mu h0 bk ops fl l K' fr h
 | [],_,_,hk,_,fr,h,hv=>hk fr h hv
 |(i,st)::rest,K,K',hk,fl,fr,h,hv=>by
  simp only[zAf] at hv⊢;cases ho:ops[i]? with
  |none=>rw[ho] at hv;exact hv
  |some o=>
   rw[ho] at hv;exact zAo (fun d h' hx=>⟨hx.1,zFl rest hk _ _ _ hx.2⟩) hv
theorem zOH {l:List (Nat×Fl)} {K K':Frm→Heap→Prop} (hk:∀fr h,K fr h→K' fr h) {fl:Bool} {fr:Frm} {h:Heap} (hv:zDw P mu h0 bk ops fl l K fr h):zDw P mu h0 bk ops fl l K' fr h:=by
 unfold zDw at hv⊢;split at hv
 ·exact zFl _ hk _ _ _ hv
 ·exact⟨hv.1,zFl _ hk _ _ _ hv.2⟩
theorem qw:∀ (c:Code) {ro:Option Nat} {Q Q':Exit→Frm→Heap→Prop} (_:∀e fr h,Q e fr h→Q' e fr h) (fr:Frm) (h:Heap),vwp P g n ro c Q fr h→vwp P g n ro c Q' fr h
 | .skip,_,_,_,hq,fr,h,hv=>hq _ _ _ hv
 | .exit _,_,_,_,hq,fr,h,hv=>hq _ _ _ hv
 | .ret,_,_,_,hq,fr,h,hv=>hq _ _ _ hv
 | .region id ops draw,_,_,_,hq,fr,h,hv=>by
  simp only[vwp] at hv⊢;cases draw with
  |false=>exact zHs _ (fun fr h=>hq _ fr h) _ _ hv
  |true=>
   obtain⟨h0,h1,h2⟩:=hv;exact⟨h0,h1,zOH (fun fr h=>hq _ fr h) h2⟩
 | .seq a b,ro,Q,Q',hq,fr,h,hv=>by
  simp only[vwp] at hv⊢;refine qw a (fun e fr h hx=> ?_) fr h hv;cases e with
  |normal=>exact qw b hq fr h hx
  |_=>exact hq _ _ _ hx
 | .cond c a b,ro,Q,Q',hq,fr,h,hv=>by
  simp only[vwp] at hv⊢;split at hv
  ·split at hv
   ·exact qw a hq fr h hv
   ·exact qw b hq fr h hv
  ·exact hv
 | .block id c,ro,Q,Q',hq,fr,h,hv=>by
  simp only[vwp] at hv⊢;refine qw c (fun e fr h hx=> ?_) fr h hv;cases e with
  |exit i=>
   simp only[zEl] at hx⊢;split at hx
   ·rename_i hi;rw[if_pos hi];exact hq _ _ _ hx
   ·rename_i hi;rw[if_neg hi];exact hq _ _ _ hx
  |_=>exact hq _ _ _ hx
 | .loop c,ro,Q,Q',hq,fr,h,hv=>by
  simp only[vwp] at hv⊢;obtain⟨I,h1,h2⟩:=hv;refine⟨I,h1,fun k fr h hI=>qw c (fun e fr h hx=> ?_) fr h (h2 k fr h hI)⟩;cases e with
  |normal=>exact hx
  |_=>exact hq _ _ _ hx
 | .rangeFunc f ps asg body,ro,Q,Q',hq,fr,h,hv=>by
  simp only[vwp] at hv⊢;refine⟨hv.1,?_⟩;have h2:=hv.2;cases hf:zx fr f<;>rw[hf] at h2<;>simp only[VFn] at h2⊢;rename_i g' first cap
  cases g'<;>simp only at h2⊢;refine zA.mono h2 fun d h' hx=> ?_;obtain⟨r,r1,r2,r3⟩:=hx;refine⟨r,r1,r2,?_⟩;unfold zLw at r3⊢;split at r3
  ·exact hq _ _ _ r3
  ·split at r3
   ·exact hq _ _ _ r3
   ·exact hq _ _ _ r3
   ·exact r3
 | .label _,_,_,_,hq,fr,h,hv=>hq _ _ _ hv
 | .goto _,_,_,_,_,_,_,hv=>hv
 | .scope c,ro,Q,Q',hq,fr,h,hv=>by
  simp only[vwp] at hv⊢;refine qw c (fun e fr h hx=> ?_) fr h hv;cases e with
  |goto l=>exact hx
  |_=>exact hq _ _ _ hx
 | .refuse ..,_,_,_,_,_,_,hv=>hv
end
section
variable {P:Program} {g:Cfg} {n:Nat} {ro:Option Nat} {c:Code} {Q:Exit→Frm→Heap→Prop} {fr:Frm} {h:Heap}
theorem zA.of_fn (hmix:P.follows .mixedOrders=true) {f:FuncId} {fn:Func} {co:Code} {args:List D} {R:D→Heap→Prop} (hf:P.funcs[f]? =some fn) (hok:zd P g fn=true) (hb:fn.body=some co) (hl:Nat.ble args.length fn.ntmps=true)
  (hv:vwp P g fn.ntmps none co (zVD P fn.results.toList R) (V.zKW args) h):zA P f args h R:=by
 unfold zd at hok;rw[hb] at hok;simp only[Bool.and_eq_true,Bool.not_eq_true'] at hok;exact zA.of_body hmix hf hb hok.2 hok.1 (Nat.le_of_ble_eq_true hl) hv
theorem z7 (J:Nat→Frm→Heap→Prop) (len:Nat) (hJ0:J 0 fr h) (step:∀i fr h,i≤len→J i fr h→vwp P g n ro c (zC2 (fun fr h=>i<len∧J (i+1) fr h) Q) fr h):vwp P g n ro (.loop c) Q fr h:=by
 refine zPM (fun k fr h=>∃i,k=len-i∧i≤len∧J i fr h) len ⟨0,by simp,Nat.zero_le _,hJ0⟩ ?_;rintro k fr h ⟨i,rfl,hi,hJ⟩;refine qw c ?_ fr h (step i fr h hi hJ);intro e fr' h' hq;cases e with
 |normal=>exact⟨len- (i+1),by have:=hq.1;omega,i+1,rfl,hq.1,hq.2⟩
 |_=>exact hq
end
theorem zV {x:Int} (h1: -9223372036854775808≤x) (h2:x<9223372036854775808):IntKind.i64.wrap x=x:=by
 unfold IntKind.wrap;simp[IntKind.signed,IntKind.bits];split<;>omega
theorem ze {i:Nat} (h:i≤lim):IntKind.i64.wrap ((i:Int)+1)=((i+1:Nat):Int):=by
 rw[zV (by omega) (by unfold lim at h;omega)];norm_cast
@[go_sem] theorem zea (mu:Tmp→Bool) (t:Tmp):zGA mu (some t)=mu t:=(rfl)
attribute [go_sem] List.contains_nil List.map_cons List.map_nil List.nil_append List.append_nil List.cons_append Bool.false_eq_true Bool.or_false Bool.or_true Bool.true_or Bool.false_or Bool.not_true Bool.not_false List.getElem?_cons_zero List.getElem?_cons_succ
@[go_sem] theorem ziZ (t:Tmp):isC (.tmp t)=false:=(rfl)
@[go_sem] theorem zeb (v:Value):isC (.const v)=true:=(rfl)
@[go_sem] theorem zZx (h:Heap) (i:Nat) (o:Obj):(h.new i o).at' i=some o:=zJ h i o
@[go_sem] theorem zC (h:Heap) (i:Nat) (o:Obj):(h.set i o).at' i=some o:=by simp[Heap.set]
@[go_sem] theorem zZy (P:Program) (nid:Nat) (t:TypeId) (x:Operand) (fr:Frm) (h:Heap):vop P false nid (.box t x) (zx fr) h=if(zx fr x).notTuple then some (.iptr (zx fr x).cells 0,h) else none:=by
 simp[vop]
@[go_sem] theorem zZz (P:Program) (nid:Nat) (t:TypeId) (x:Operand) (fr:Frm) (h:Heap):vop P true nid (.box t x) (zx fr) h=if(zx fr x).notTuple then some (.ptr nid 0,h.new nid (.row (zx fr x).cells)) else none:=by
 simp[vop]
def zHt (t:TypeId) (nid:Nat) (h:Heap):Option D→VR
 |some z=>if z.notTuple then some (.ptr nid 0,h.new nid (zFR t z.cells)) else none
 |none=>none
@[go_sem] theorem zec (P:Program) (m:Bool) (nid:Nat) (t:TypeId) (fr:Frm) (h:Heap):vop P m nid (.alloc t) (zx fr) h=zHt t nid h (qQ P t):=by
 simp only[vop,zHt];cases qQ P t<;>rfl
@[go_sem] theorem zbn (t:TypeId) (nid:Nat) (h:Heap) (cs:List D):zHt t nid h (some (.agg cs))=some (.ptr nid 0,h.new nid (zFR t cs)):=(rfl)
@[go_sem] theorem zbo (t:TypeId) (nid:Nat) (h:Heap) (k:IntKind) (n:Int):zHt t nid h (some (.int k n))=some (.ptr nid 0,h.new nid (.row [.int k n])):=(rfl)
@[go_sem] theorem zbp (t:TypeId) (nid:Nat) (h:Heap) (s:List UInt8):zHt t nid h (some (.str s))=some (.ptr nid 0,h.new nid (.row [.str s])):=(rfl)
@[go_sem] theorem zYR (t:TypeId) (nid:Nat) (h:Heap):zHt t nid h (some .nilsl)=some (.ptr nid 0,h.new nid (.row [.nilsl])):=(rfl)
@[go_sem] theorem zed (t:TypeId) (k:IntKind) (n:Int) (cs:List D):zFR t (.int k n::cs)= .row (.int k n::cs):=(rfl)
@[go_sem] theorem zee (t:TypeId) (s:List UInt8) (cs:List D):zFR t (.str s::cs)= .row (.str s::cs):=(rfl)
@[go_sem] theorem zbq (t:TypeId) (b:Bool) (cs:List D):zFR t (.bool b::cs)= .row (.bool b::cs):=(rfl)
@[go_sem] theorem zZ0 (t:TypeId) (cs:List D):zFR t (.nilsl::cs)= .row (.nilsl::cs):=(rfl)
@[go_sem] theorem zMT (s:List UInt8):(D.str s).notTuple=true:=(rfl)
@[go_sem] theorem zTx (s:List UInt8):(D.str s).cells= [.str s]:=(rfl)
theorem zC6 {P:Program} {t:TypeId} {cs:List D} {h:Heap} {id:Nat} (hi:h.at' id=some (.row cs)) (ha:agT P t=some true) (hs:szT P t=cs.length) (h0:0<cs.length):zAv P t (.ptr id 0) h=some (.agg cs):=by
 simp only[zAv,ha,hi,zR,hs];rw[if_pos trivial,if_neg (by omega),if_pos (by omega)];simp
theorem yD {P:Program} {t:TypeId} {cs cs':List D} {h:Heap} {id:Nat} (hi:h.at' id=some (.row cs)) (hs:szT P t=cs'.length) (hl:cs.length=cs'.length) (h0:0<cs'.length) (hf:cs'.all D.flat=true):zU P t (.ptr id 0) (.agg cs') h=some (h.set id (.row cs')):=by
 have hp:yW cs cs' 0=cs':=by simp[yW,hl]
 simp only[zU,hi,D.cells,hs,hp];rw[if_pos];simp only[Bool.and_eq_true,decide_eq_true_eq,ne_eq,Nat.zero_add];exact⟨⟨⟨fun e=>by omega,trivial⟩,Nat.le_of_eq hl.symm⟩,hf⟩
theorem zB {n:Nat} {cs:List D} (hn:cs.length=n) (h0:0<n):zR true n cs 0=some (.agg cs):=by
 subst hn;simp only[zR];rw[if_pos trivial,if_neg (by omega),if_pos (by omega)];simp
def zTy (ag:Bool) (n off:Nat):Option Obj→Option D
 |some (.row cs)=>zR ag n cs off
 |some (.trow _ _ cs)=>zR ag n cs off
 |_=>none
@[go_sem ↓] theorem zef (P:Program) (t:TypeId) (id off:Nat) (h:Heap):zAv P t (.ptr id off) h=(match agT P t with
 |none=>none
 |some ag=>zTy ag (szT P t) off (h.at' id)):=by
 unfold zAv;cases agT P t with
 |none=>rfl
 |some ag=>
  simp only;cases h.at' id with
  |none=>rfl
  |some o=>cases o<;>rfl
@[go_sem] theorem zZ1 (ag:Bool) (n off:Nat) (cs:List D):zTy ag n off (some (.row cs))=zR ag n cs off:=(rfl)
theorem yg {P:Program} {nid:Nat} {t e:TypeId} {z x:D} {sz:Nat} {h:Heap} (he:qE P t=some e) (hz:qQ P e=some z) (hs:szT P e=sz) (hzt:z.notTuple=true) (hzl:z.cells.length=sz) (h0:0<sz) (hlim:sz≤16777216)
  (hxt:x.notTuple=true) (hxl:x.cells.length=sz):zM P false nid t 1 [(0,x)] h=some (.sl sz [x.cells] .full,h):=by
 simp only[zM,he,hz,hs];have hrep:zA6 1 z.cells=z.cells:=by simp[zA6]
 have hput:yW z.cells x.cells 0=x.cells:=by simp[yW,hzl,hxl]
 rw[if_pos (by simp[hzt,hzl,h0];omega)];simp only[qZ,hrep];rw[if_pos (by simp[hxt,hxl,hzl])];simp only[Nat.zero_mul,hput];simp[yC,←hxl]
def wN (h:Heap) (sz:Nat) (xs:List (List D)) (d:D):Prop:=(d= .nilsl∧xs= [])∨∃t,d= .sl sz xs (.own t)∧h.at' t=some .tok∧t<h.next
theorem wN.isSl {h:Heap} {sz:Nat} {xs:List (List D)} {d:D} (ho:wN h sz xs d):zX sz xs d:=by
 rcases ho with⟨rfl,rfl⟩ | ⟨t,rfl,_⟩
 ·exact zX.nil
 ·exact zX.mk _
theorem wN.keep {h h':Heap} {sz:Nat} {xs:List (List D)} {d:D} (ho:wN h sz xs d) (hk:∀i,i<h.next→h'.at' i=h.at' i) (hn:h.next≤h'.next):wN h' sz xs d:=by
 rcases ho with h1| ⟨t,h1,h2,h3⟩
 ·exact .inl h1
 ·exact .inr ⟨t,h1,by rw[hk t h3];exact h2,by omega⟩
section
variable {P:Program}
theorem zHu {k:Nat} :∀ {xs:List (List D)},(∀x∈xs,zb k x)→zBd k xs
 | [],_=>by simp only[zBd]
 |x::xs,h=>by
  simp only[zBd];exact⟨h x (by simp),zHu fun y hy=>h y (by simp[hy])⟩
theorem zE3 {k:Nat} :∀ {us vs:List D},zb k us→zb k vs→zb k (us++vs)
 | [],_,_,hb=>hb
 |a::us,vs,ha,hb=>by
  simp only[zb,List.cons_append] at ha⊢;exact⟨ha.1,zE3 ha.2 hb⟩
theorem zE4:∀us vs:List D,yA (us++vs)=yA us++yA vs
 | [],_=>by simp[yA]
 |a::us,vs=>by simp[yA,zE4 us vs]
theorem zHv:∀ {xs:List (List D)},(∀x∈xs,yA x=x)→zCi xs=xs
 | [],_=>by simp only[zCi]
 |x::xs,h=>by
  simp only[zCi];rw[h x (by simp),zHv fun y hy=>h y (by simp[hy])]
def qC (cs:List D):Prop:=cs.all D.flat=true∧zb 0 cs∧yA cs=cs
theorem qC.append {us vs:List D} (ha:qC us) (hb:qC vs):qC (us++vs):=
 ⟨by rw[List.all_append,ha.1,hb.1];rfl,zE3 ha.2.1 hb.2.1,by rw[zE4,ha.2.2,hb.2.2]⟩
theorem qC.nil:qC []:=⟨rfl,by simp only[zb],by simp only[yA]⟩
theorem zJj {r:TypeId→List D→Prop} (hr:∀t cs,r t cs→qC cs):∀ (fs:List Field) (cs:List D),zVc P r fs cs→qC cs
 | [],cs,h=>by
  simp only[zVc] at h;subst h;exact qC.nil
 |f::fs,cs,h=>by
  obtain⟨c,cs',rfl,h1,h2⟩:=h;exact qC.append (hr _ _ h1) (zJj hr fs cs' h2)
theorem zB8:∀ (k:Nat) (t:TypeId) (cs:List D),Shp P k t cs→qC cs
 |0,_,_,h=>by simp only[Shp] at h
 |k+1,t,cs,h=>by
  simp only[Shp] at h;split at h
  ·obtain⟨b,rfl⟩:=h;exact⟨rfl,by simp[zb,below],by simp[yA,yI]⟩
  ·obtain⟨n,rfl,_⟩:=h;exact⟨rfl,by simp[zb,below],by simp[yA,yI]⟩
  ·obtain⟨s,rfl,_⟩:=h;exact⟨rfl,by simp[zb,below],by simp[yA,yI]⟩
  ·rcases h with rfl| ⟨xs,rfl,_,hx⟩
   ·exact⟨rfl,by simp[zb,below],by simp[yA,yI]⟩
   ·refine⟨rfl,?_,?_⟩
    ·simp only[zb,below,and_true];exact zHu fun x h=>(zB8 k _ x (hx x h)).2.1
    ·simp only[yA,yI];rw[zHv fun x h=>(zB8 k _ x (hx x h)).2.2]
  ·exact zJj (fun t cs=>zB8 k t cs) _ _ h
  ·exact h.elim
end
def Ext (h h':Heap):Prop:=h.next≤h'.next∧∀i,i<h.next→h'.at' i=h.at' i
def But (S:Nat→Prop) (h h':Heap):Prop:=h.next≤h'.next∧∀i,i<h.next→¬S i→h'.at' i=h.at' i
theorem Ext.refl (h:Heap):Ext h h:=⟨Nat.le_refl _,fun _ _=>rfl⟩
theorem Ext.trans {h1 h2 h3:Heap} (a:Ext h1 h2) (b:Ext h2 h3):Ext h1 h3:=⟨Nat.le_trans a.1 b.1,fun i hi=>by rw[b.2 i (by have:=a.1;omega),a.2 i hi]⟩
theorem Ext.new {h h1:Heap} (a:Ext h h1) {id:Nat} (hid:h.next≤id) (o:Obj):Ext h (h1.new id o):=⟨Nat.le_trans a.1 (qY _ _ _),fun i hi=>by rw[zG (by omega),a.2 i hi]⟩
theorem Ext.set {h h1:Heap} (a:Ext h h1) {id:Nat} (hid:h.next≤id) (o:Obj):Ext h (h1.set id o):=⟨a.1,fun i hi=>by rw[zE (by omega),a.2 i hi]⟩
theorem Ext.del {h h1:Heap} (a:Ext h h1) {id:Nat} (hid:h.next≤id):Ext h (h1.del id):=⟨a.1,fun i hi=>by rw[yv (by omega),a.2 i hi]⟩
theorem Ext.but {h h1:Heap} (a:Ext h h1) (S:Nat→Prop):But S h h1:=⟨a.1,fun i hi _=>a.2 i hi⟩
theorem But.refl (S:Nat→Prop) (h:Heap):But S h h:=⟨Nat.le_refl _,fun _ _ _=>rfl⟩
theorem But.trans {S S':Nat→Prop} {h1 h2 h3:Heap} (a:But S h1 h2) (b:But S' h2 h3) (hs:∀i,S' i→S i∨h1.next≤i):But S h1 h3:=
 ⟨Nat.le_trans a.1 b.1,fun i hi hn=>by rw[b.2 i (by have:=a.1;omega) (fun h=>(hs i h).elim hn (by omega)),a.2 i hi hn]⟩
theorem But.set {S:Nat→Prop} {h h1:Heap} (a:But S h h1) {id:Nat} (hid:S id∨h.next≤id) (o:Obj):But S h (h1.set id o):=⟨a.1,fun i hi hn=>by rw[zE (fun e=>by subst e;exact hid.elim hn (by omega)),a.2 i hi hn]⟩
@[go_sem] theorem zt (h:Heap) (i:Nat) (o:Obj):(h.set i o).next=h.next:=(rfl)
@[go_sem] theorem zQB (h:Heap) (i:Nat):(h.del i).next=h.next:=(rfl)
theorem zD (h:Heap) (o:Obj):(h.new h.next o).next=h.next+1:=by simp[Heap.new]
theorem zm (h:Heap) {i:Nat} (hi:h.next≤i) (o:Obj):(h.new i o).next=i+1:=by simp[Heap.new];omega
section
variable {P:Program} {g:Cfg} {n:Nat} {ro:Option Nat} {Q:Exit→Frm→Heap→Prop} {fr:Frm} {h:Heap}
def zOI (ro:Option Nat) (h:Heap):Prop:=
 match ro with
 |none=>True
 |some id=>∃r,h.at' id=some (.loop r)
@[go_sem ↓] theorem zYS:zOI none h=True:=(rfl)
@[go_sem ↓] theorem zkK (f:FuncId) (a c args:List D) (K:D→Heap→Prop):VFn P (.fn (.func f) a c) args h K=zA P f (a++args++c) h K:=(rfl)
@[go_sem ↓] theorem zWT (f:Operand) (ps:Array Tmp) (asg body:Code):vwp P g n ro (.rangeFunc f ps asg body) Q fr h =
  (zOI ro h∧VFn P (zx fr f) [.yld h.next] (h.new h.next (.loop ⟨.ready,none,fr,ps,asg,body,n⟩)) fun _ h'=>∃r,h'.at' h.next=some (.loop r)∧r.st≠ .busy∧zLw r.pending Q fr (h'.del h.next)):=by
 cases ro<;>simp only[vwp,zOI]
theorem zB9:zLw none Q fr h=Q .normal fr h:=(rfl)
theorem zMU:zLw (some .ret) Q fr h=Q .ret fr h:=(rfl)
@[go_sem ↓] theorem zbr (t:Tmp) (ts:List Tmp) (d:D) (ds:List D):zFW fr (t::ts) (d::ds)=zFW (wu fr (some t) d) ts ds:=(rfl)
@[go_sem ↓] theorem zeg:zFW fr [] []=fr:=(rfl)
def zAG (K:D→Heap→Prop) (id:Nat) (e:Exit) (_:Frm) (h2:Heap):Prop:=∃L2,h2.at' id=some (.loop L2)∧zKV K id L2 e h2
theorem wO {K:D→Heap→Prop} {id:Nat} {L:LRec} (hL:h.at' id=some (.loop L)) (hk:K (.bool true) (h.set id (.loop { L with st:= .ready,pending:=none }))):zAG K id .normal fr h:=⟨L,hL,hk⟩
theorem zJk {K:D→Heap→Prop} {id:Nat} {L:LRec} (hL:h.at' id=some (.loop L)) (hk:K (.bool false) (h.set id (.loop { L with st:= .done,pending:=some .ret }))):zAG K id .ret fr h:=⟨L,hL,hk⟩
theorem yi.round (hmix:P.follows .mixedOrders=true) {id:Nat} {args:List D} {K:D→Heap→Prop} {ps:Array Tmp} {asg body:Code} (hL:h.at' id=some (.loop ⟨.ready,none,fr,ps,asg,body,n⟩)) (hlen:args.length=ps.size)
  (hps:ps.toList.all (fun t=>decide (t<n))=true) (ok1:qW P g n asg=true) (ok2:qW P g n body=true)
  (hv:vwp P g n (some id) asg (zC2 (fun fr1 h1=>h1.at' id=some (.loop ⟨.ready,none,fr,ps,asg,body,n⟩)∧vwp P g n (some id) body (zAG K id) fr1 (h1.set id (.loop ⟨.busy,none,fr,ps,asg,body,n⟩))) (fun _ _ _=>False)) (zFW fr ps.toList args) h):yi P id args h K:=by
 refine yi.of_round (g:=g) hmix hL hlen hps ok1 ok2 (qw asg (fun e fr1 h1 hq=> ?_) _ _ hv);cases e with
 |normal=>exact⟨_,hq.1,rfl,hq.2⟩
 |_=>exact hq.elim
structure Yld (P:Program) (id:Nat) (len:Nat) (el:Nat→List D) (Y:Nat→(Nat→Prop)→Heap→Prop) (Z:(Nat→Prop)→Heap→Prop):Prop where
 here:∀k S h,Y k S h→∀i,S i→i<h.next
 loc:∀k S h h',Y k S h→h.next≤h'.next→(∀i,S i→h'.at' i=h.at' i)→Y k S h'
 hereZ:∀S h,Z S h→∀i,S i→i<h.next
 locZ:∀S h h',Z S h→h.next≤h'.next→(∀i,S i→h'.at' i=h.at' i)→Z S h'
 go:∀k S h,k<len→Y k S h→yi P id (el k) h fun r h'=>∃S',(∀i,S' i→S i∨h.next≤i)∧But S h h'∧((r= .bool true∧Y (k+1) S' h')∨(r= .bool false∧Z S' h'))
theorem Yld.ext {id len:Nat} {el:Nat→List D} {Y:Nat→(Nat→Prop)→Heap→Prop} {Z:(Nat→Prop)→Heap→Prop} (y:Yld P id len el Y Z) {k:Nat} {S:Nat→Prop} {h h':Heap} (hy:Y k S h) (he:Ext h h'):Y k S h':=
 y.loc k S h h' hy he.1 fun i hi=>he.2 i (y.here k S h hy i hi)
end
section
variable {P:Program} {sz:Nat}
theorem yy {xs:List (List D)} (hx:∀x∈xs,x.length=sz):xs.flatten.length=xs.length*sz:=by
 induction xs with
 |nil=>simp
 |cons x xs ih=>rw[List.flatten_cons,List.length_append,hx x (by simp),ih (fun y hy=>hx y (by simp[hy])),List.length_cons,Nat.succ_mul];omega
theorem zHw:∀ {xs:List (List D)} (_:∀x∈xs,x.length=sz) {i:Nat} {x:List D} (_:xs[i]? =some x),(xs.flatten.drop (i*sz)).take sz=x
 | [],_,i,x,h=>by simp at h
 |y::xs,hx,0,x,h=>by
  simp only[List.getElem?_cons_zero,Option.some.injEq] at h;subst h;rw[Nat.zero_mul,List.drop_zero,List.flatten_cons,List.take_append_of_le_length (by rw[hx y (by simp)];exact Nat.le_refl _),List.take_of_length_le (by rw[hx y (by simp)];exact Nat.le_refl _)]
 |y::xs,hx,i+1,x,h=>by
  simp only[List.getElem?_cons_succ] at h;have hy:=hx y (by simp);rw[List.flatten_cons,Nat.succ_mul,Nat.add_comm,List.drop_append,List.drop_of_length_le (by omega),List.nil_append,show sz+i*sz-y.length=i*sz by omega];exact zHw (fun z hz=>hx z (by simp[hz])) h
theorem zQC:∀ {xs:List (List D)} (_:∀x∈xs,x.length=sz) {i:Nat} (_:i<xs.length) {x:List D} (_:x.length=sz),yW xs.flatten x (i*sz)=(xs.set i x).flatten
 | [],_,i,h,x,_=>by simp at h
 |y::xs,hx,0,h,x,hl=>by
  have hy:=hx y (by simp);simp only[yW,Nat.zero_mul,List.take_zero,List.nil_append,Nat.zero_add,List.flatten_cons,List.set_cons_zero];rw[List.drop_append,List.drop_of_length_le (by omega),List.nil_append,show x.length-y.length=0 by omega,List.drop_zero]
 |y::xs,hx,i+1,h,x,hl=>by
  have hy:=hx y (by simp);have ih:=zQC (xs:=xs) (fun z hz=>hx z (List.mem_cons_of_mem _ hz)) (i:=i) (by simpa using h) hl;simp only[yW] at ih⊢;rw[List.flatten_cons,List.set_cons_succ,List.flatten_cons,←ih,Nat.succ_mul,Nat.add_comm (i*sz) sz,List.take_append,List.take_of_length_le (by omega),show sz+i*sz-y.length=i*sz by omega,List.drop_append,List.drop_of_length_le (by omega),List.nil_append,show sz+i*sz+x.length-y.length=i*sz+x.length by omega];simp
theorem zh {t e:TypeId} {id len:Nat} (he:qE P t=some e) (hz:szT P e=sz) {k:IntKind} {i:Nat} (hi:i<len):zS P t (.rs id sz 0 len) (.int k (i:Int))=some (.ptr id (i*sz)):=by
 simp[zS,he,hz,hi]
theorem zBP {t e:TypeId} {id off len:Nat} {h:Heap} (hu:P.underlying t=some (.slice e)):zCF P t (.rs id sz off len) h=some (.int .i64 len):=by simp[zCF,hu]
theorem zBA {xs:List (List D)} (hx:∀x∈xs,x.length=sz) (h0:0<sz) {i:Nat} {x:List D} (hi:xs[i]? =some x):zR true sz xs.flatten (i*sz)=some (.agg x):=by
 have hlt:i<xs.length:=(List.getElem?_eq_some_iff.1 hi).1;have h1:i*sz+sz≤xs.length*sz:=by rw[←Nat.succ_mul];exact Nat.mul_le_mul_right _ hlt
 simp only[zR,if_true];rw[if_neg (by omega),if_pos (by rw[yy hx];exact h1),zHw hx hi]
theorem zHx {t:TypeId} {xs:List (List D)} {h:Heap} {id:Nat} (hr:h.at' id=some (.row xs.flatten)) (hx:∀x∈xs,x.length=sz) (h0:0<sz) (hs:szT P t=sz) {i:Nat} (hi:i<xs.length) {x:List D} (hl:x.length=sz) (hf:x.all D.flat=true):
  zU P t (.ptr id (i*sz)) (.agg x) h=some (h.set id (.row (xs.set i x).flatten)):=by
 have h1:i*sz+sz≤xs.length*sz:=by rw[←Nat.succ_mul];exact Nat.mul_le_mul_right _ hi
 simp only[zU,hr,D.cells,hs,hl];rw[if_pos,zQC hx hi hl];simp only[Bool.and_eq_true,decide_eq_true_eq,ne_eq];refine⟨⟨⟨by omega,trivial⟩,by rw[yy hx];exact h1⟩,hf⟩
theorem zBQ {xs:List (List D)} (hx:∀x∈xs,x.length=sz):yC sz xs.length xs.flatten=xs:=by
 have:=zA0 sz xs [] 0 hx;simpa [yC] using this
theorem zGJ {t e:TypeId} {xs:List (List D)} {tk:Tk} {h:Heap} {nid:Nat} (he:qE P t=some e) (hz:zHE P e=true) (hs:szT P e=sz) (h0:0<sz) (hx:∀x∈xs,x.length=sz) (hb:xs.length*yR P e≤lim) (hl:xs.length≤lim):
  z6 P false nid t (.sl sz [] .full) (.sl sz xs tk) h=if xs.length=0 then some (.sl sz [] .full,h) else some (.sl sz xs (.own nid),h.new nid .tok):=by
 simp only[z6,he,hz,hs,zR0,if_true,yy hx,Nat.mul_div_cancel _ h0,qN];rw[if_pos (by simp only[List.length_nil,Nat.zero_add,Bool.and_eq_true,decide_eq_true_eq];exact⟨⟨trivial,hb⟩,hl⟩)];simp only[Bool.false_eq_true,if_false,zBQ hx,List.nil_append]
theorem zA2 {t e:TypeId} {xs:List (List D)} {tk:Tk} {h:Heap} {nid:Nat} (he:qE P t=some e) (hz:zHE P e=true) (hs:szT P e=sz) (h0:0<sz) (hx:∀x∈xs,x.length=sz) (hb:xs.length*yR P e≤lim) (hl:xs.length≤lim):
  z6 P true nid t (.sl sz [] .full) (.sl sz xs tk) h=if xs.length=0 then some (.sl sz [] .full,h) else some (.rs nid sz 0 xs.length,h.new nid (zAE P e xs.flatten)):=by
 simp only[z6,he,hz,hs,zR0,if_true,yy hx,Nat.mul_div_cancel _ h0,qN];rw[if_pos (by simp only[List.length_nil,Nat.zero_add,Bool.and_eq_true,decide_eq_true_eq];exact⟨⟨trivial,hb⟩,hl⟩)];simp only[List.length_nil,Nat.zero_add,List.flatten_nil,List.nil_append]
theorem zRB {e:TypeId} {cs:List D} (hu:P.underlying e=some .string):zAE P e cs= .row cs:=by simp[zAE,hu]
theorem zRC {e:TypeId} {cs:List D} (hu:P.underlying e=some (.int .i64)):zAE P e cs= .row cs:=by simp[zAE,hu]
theorem zA3 {e:TypeId} {fs:Array Field} {cs:List D} (hu:P.underlying e=some (.struct fs)):zAE P e cs= .row cs:=by simp[zAE,hu]
end
open Go.RowKit (Below)
theorem zHy (W:World) (b:Nat) (c':Array Value):Go.Sort.mapBlock W b (fun _=>c')=W.setRow b c':=by
 unfold Go.Sort.mapBlock World.setRow;congr 1
section
variable {w0:Base} {G:List Nat} {M:Imm} {ρ:Ren} {h:Heap} {w:World}
theorem Sim.ahead (hs:Sim w0 G M ρ h w):∀q:Nat,Sim w0 G M ρ h (Go.Sort.ahead w q)
 |0=>hs
 |q+1=>by
  have:=(Sim.ahead hs q).drew
  rwa [Go.Sort.ahead_drew] at this
theorem Sim.putRow {α:Type} [Inhabited α] {enc:α→Value} {dd:α→D} (hfl:∀x,(dd x).flat=true) (hs:Sim w0 G M ρ h w) {id:Nat} {pre post:List D} {xs ys:List α} (hi:h.at' id=some (.row (pre++xs.map dd++post))) {l:Loc} (hl:ρ id=some l)
  (hlen:ys.length=xs.length) (hy:∀y∈ys,rel M ρ (dd y) (enc y)):Sim w0 G M ρ (h.set id (.row (pre++ys.map dd++post))) (Go.Sort.putRow enc w l.blk pre.length ys.toArray):=by
 obtain⟨l',h1,_,hM,c,e,hw,hls,hcl,hcells⟩:=hs.live id _ hi;rw[hl] at h1;cases h1;have hL:(pre++xs.map dd++post).length=pre.length+xs.length+post.length:=by simp;omega
 have hL2:(pre++ys.map dd++post).length=pre.length+xs.length+post.length:=by simp[hlen];omega
 unfold Go.Sort.putRow;rw[Go.Sort.mapBlock_congr w l.blk (Go.Sort.putCells enc pre.length ys.toArray) (fun _=>Go.Sort.putCells enc pre.length ys.toArray c) (fun c1 e1 fr1 h1=>by rw[hw] at h1;cases h1;rfl),zHy];have hsz:(Go.Sort.putCells enc pre.length ys.toArray c).size=c.size:=by simp[Go.Sort.putCells]
 refine hs.setRow hi hl hw hsz (by rw[hsz,hL2,←hL];exact hcl) (yB (by
  have e:(Go.Sort.putCells enc pre.length ys.toArray c).toList.length=c.size:=by rw[Array.length_toList];exact hsz
  rw[List.length_take,e];omega) fun i d v hd hv=> ?_) ?_
 ·have hlt:i<(pre++ys.map dd++post).length:=(List.getElem?_eq_some_iff.1 hd).1;rw[List.getElem?_take,if_pos hlt,Array.getElem?_toList] at hv;simp only[Go.Sort.putCells,Array.getElem?_mapIdx] at hv;obtain⟨v0,hv0,rfl⟩:=Option.map_eq_some_iff.1 hv;by_cases hin:pre.length≤i∧i<pre.length+ys.toArray.size
  ·rw[if_pos hin];have h2:i-pre.length<ys.length:=by have:=hin.2;simp only[List.size_toArray] at this;omega
   rw[List.append_assoc,List.getElem?_append_right hin.1,List.getElem?_append_left (by simpa using h2),List.getElem?_map,List.getElem?_eq_getElem h2] at hd;cases hd;rw[getElem!_pos ys.toArray (i-pre.length) (by simpa using h2)];exact hy _ (by simp)
  ·rw[if_neg hin];have hd':(pre++xs.map dd++post)[i]? =some d:=by
    simp only[List.size_toArray,not_and,Nat.not_lt] at hin;by_cases hp:i<pre.length
    ·rw[List.append_assoc,List.getElem?_append_left hp] at hd⊢;exact hd
    ·have hq:=hin (by omega);rw[List.getElem?_append_right (by simp;omega)] at hd⊢;simpa [hlen] using hd
   obtain⟨_,u,e1,e2⟩:=hcells i d hd';rw[hv0] at e1;cases e1;exact e2
 ·rw[List.all_append,List.all_append];have h1:pre.all D.flat=true:=List.all_eq_true.2 fun d hd=>by
   obtain⟨i,hi'⟩:=List.mem_iff_getElem?.1 hd;have hlt:=(List.getElem?_eq_some_iff.1 hi').1;exact(hcells i d (by rw[List.append_assoc,List.getElem?_append_left hlt];exact hi')).1
  have h3:post.all D.flat=true:=List.all_eq_true.2 fun d hd=>by
   obtain⟨i,hi'⟩:=List.mem_iff_getElem?.1 hd;exact(hcells (pre.length+xs.length+i) d (by rw[List.getElem?_append_right (by simp)];simpa using hi')).1
  rw[h1,h3,List.all_eq_true.2 fun d hd=>by obtain⟨y,_,rfl⟩:=List.mem_map.1 hd;exact hfl y];rfl
end
abbrev Way:=Nat×Fl×Bool
def onO (o:Option Oper) (k:Oper→Prop):Prop:=
 match o with
 |some o=>k o
 |none=>False
def zHz (P:Program) (h0:Heap) (o:Op) (ev:Operand→D) (k:D→Prop):Prop:=
 match o with
 | .load t a=>onS (zAv P t (ev a) h0) k
 |o=>∃d,zVT P h0 o ev d∧k d
def zTz (P:Program) (mu:Tmp→Bool) (h0:Heap) (st:Fl) (ops:Array Oper) (o:Oper) (fr:Frm) (h:Heap) (k:D→Heap→Prop):Prop:=
 match qF ops fr o.guard with
 |false=>k qz h
 |true=>match st with
  | .st=>zHz P h0 o.op (zx fr) fun d=>k d h
  | .no=>qv P (zGA mu o.dst) h.next o.op (zx fr) h k
  | .qu=>qv P (zGA mu o.dst) h.next o.op (zx fr) h fun d h'=>h'=h∧k d h
  | .al i=>qv P (zGA mu o.dst) (h0.next+i) o.op (zx fr) h k
def zMV (P:Program) (mu:Tmp→Bool) (h0:Heap) (ops:Array Oper):List Way→(Frm→Heap→Prop)→Frm→Heap→Prop
 | [],K,fr,h=>K fr h
 |w::rest,K,fr,h=>onO ops[w.1]? fun o=>zTz P mu h0 w.2.1 ops o fr h fun d h'=>(w.2.2=true→HLe h0 h')∧zMV P mu h0 ops rest K (wu fr o.dst d) h'
def zJl (bk:Nat→Bool):Bool→List (Nat×Fl)→List Way→Bool
 |_,[],[]=>true
 |fl,x::xs,w::ws=>Nat.beq x.1 w.1&&(match x.2 with
  | .no=>match w.2.1 with
   | .no=>true
   |_=>false
  | .st=>match w.2.1 with
   | .st=>true
   |_=>false
  | .qu=>match w.2.1 with
   | .qu=>true
   |_=>false
  | .al i=>match w.2.1 with
   | .al j=>Nat.beq i j
   |_=>false)&&(w.2.2|| !(fl&& !bk x.1))&&zJl bk (fl&& !bk x.1) xs ws
 |_,_,_=>false
section
variable {P:Program} {g:Cfg} {n:Nat} {ro:Option Nat} {Q:Exit→Frm→Heap→Prop} {fr:Frm} {h:Heap} {mu:Tmp→Bool} {h0:Heap}
theorem zT0 {t:TypeId} {a:Operand} {ev:Operand→D} {d:D} (hv:zAv P t (ev a) h0=some d):zVT P h0 (.load t a) ev d:=by
 intro h' hle;simp only[qv,qJ,vop,zPF hle hv,Option.map_some];exact⟨trivial,trivial⟩
theorem zT1 {st:Fl} {ops:Array Oper} {o:Oper} {k:D→Heap→Prop} (hv:zTz P mu h0 st ops o fr h k):ux P mu h0 st ops o fr h k:=by
 unfold zTz at hv;unfold ux;split at hv
 ·rename_i hg;rw[hg];exact hv
 ·rename_i hg;rw[hg];cases st with
  |st=>
   simp only at hv⊢;unfold zHz at hv;split at hv
   ·rename_i t a ho;rw[ho];unfold onS at hv;split at hv
    ·rename_i d hd;exact⟨d,zT0 hd,hv⟩
    ·exact hv.elim
   ·exact hv
  |_=>exact hv
theorem zJm {bk:Nat→Bool} {ops:Array Oper} {K:Frm→Heap→Prop} :∀ {l:List (Nat×Fl)} {ws:List Way} {fl:Bool} {fr:Frm} {h:Heap},zJl bk fl l ws=true→zMV P mu h0 ops ws K fr h→zAf P mu h0 bk ops fl l K fr h
 | [],[],_,fr,h,_,hv=>hv
 | [],_::_,_,_,_,hw,_=>by simp[zJl] at hw
 |_::_,[],_,_,_,hw,_=>by simp[zJl] at hw
 |(i,st)::l,(j,st',b)::ws,fl,fr,h,hw,hv=>by
  simp only[zJl,Bool.and_eq_true] at hw;obtain⟨⟨⟨w1,w2⟩,w3⟩,w4⟩:=hw;have e1:i=j:=Nat.eq_of_beq_eq_true w1;have e2:st=st':=by
   cases st<;>cases st'<;>simp only at w2<;>(first|rfl|(cases w2;done)|skip)
   rw[Nat.eq_of_beq_eq_true w2]
  subst e1;subst e2;simp only[zMV] at hv;simp only[zAf];unfold onO at hv;split at hv
  ·rename_i o ho;rw[ho];refine zAo (fun d h' hx=>⟨fun hb=>hx.1 ?_,zJm w4 hx.2⟩) (zT1 hv);cases b with
   |true=>rfl
   |false=>rw[hb] at w3;simp at w3
  ·exact hv.elim
theorem zz (h0:Heap) (ws:List Way) {id:Nat} {l:List Oper} (hw:zJl (zVB P g.mu l.toArray (g.dr id) (zGW l 0 [])) ((g.dr id).any (·.2.isSt)) (g.dr id) ws=true) (hal:Nat.beq (alN (g.dr id)) 0=true) (hle:HLe h0 h)
  (hv:zMV P g.mu h0 l.toArray ws (Q .normal) fr h):vwp P g n ro (.region id l.toArray true) Q fr h:=by
 rw[zPL];refine⟨h0,hle,?_⟩;rw[zEj (Nat.eq_of_beq_eq_true hal)];exact zJm hw hv
def wV:Nat→List (Nat×Fl)→List Oper→Bool
 |_,[],[]=>true
 |k,x::xs,_::os=>Nat.beq x.1 k&&x.2.isNo&&wV (k+1) xs os
 |_,_,_=>false
theorem zJn {bk:Nat→Bool} {ops:Array Oper} {K:Frm→Heap→Prop} {h0:Heap} :∀ {l:List (Nat×Fl)} {os pre:List Oper} {fr:Frm} {h:Heap},ops.toList=pre++os→wV pre.length l os=true→zIo P mu ops os K fr h→zAf P mu h0 bk ops false l K fr h
 | [],[],_,fr,h,_,_,hv=>hv
 | [],_::_,_,_,_,_,hw,_=>by simp[wV] at hw
 |_::_,[],_,_,_,_,hw,_=>by simp[wV] at hw
 |(i,st)::l,o::os,pre,fr,h,hp,hw,hv=>by
  simp only[wV,Bool.and_eq_true] at hw;obtain⟨⟨w1,w2⟩,w3⟩:=hw;have e1:i=pre.length:=Nat.eq_of_beq_eq_true w1;subst e1;have ho:ops[pre.length]? =some o:=by rw[←Array.getElem?_toList,hp];simp
  have hst:st= .no:=by cases st<;>simp[Fl.isNo] at w2<;>rfl
  subst hst;simp only[zAf,ho,Bool.false_and];simp only[zIo] at hv;have ih:∀fr h,zIo P mu ops os K fr h→zAf P mu h0 bk ops false l K fr h:=fun fr h hv=>zJn (pre:=pre++ [o]) (by simp[hp]) (by simpa using w3) hv;unfold ux;split at hv
  ·rename_i hg;rw[hg];exact zBH (fun d h' hx=>⟨fun e=>(by cases e),ih _ _ hx⟩) hv
  ·rename_i hg;rw[hg];exact⟨fun e=>(by cases e),ih _ _ hv⟩
theorem zGK:∀ {l:List (Nat×Fl)} {os:List Oper} {k:Nat},wV k l os=true→l.any (·.2.isSt)=false∧alN l=0
 | [],[],_,_=>⟨rfl,rfl⟩
 | [],_::_,_,hw=>by simp[wV] at hw
 |_::_,[],_,hw=>by simp[wV] at hw
 |(i,st)::l,o::os,k,hw=>by
  simp only[wV,Bool.and_eq_true] at hw;obtain⟨h1,h2⟩:=zGK hw.2;have hst:st= .no:=by have:=hw.1.2;cases st<;>simp[Fl.isNo] at this<;>rfl
  subst hst;exact⟨by rw[List.any_cons,h1];rfl,by simp only[alN,h2]⟩
theorem zQ {id:Nat} {l:List Oper} (ht:wV 0 (g.dr id) l=true) (hv:zIo P g.mu l.toArray l (Q .normal) fr h):vwp P g n ro (.region id l.toArray true) Q fr h:=by
 obtain⟨h1,h2⟩:=zGK ht;rw[zPL];refine⟨⟨0,fun _=>none⟩,fun i ob e=>(by cases e),?_⟩;rw[zEj h2,h1];exact zJn (pre:=[]) rfl ht hv
end
section
variable {P:Program} {mu:Tmp→Bool} {h0:Heap} {ops:Array Oper} {l:List Oper} {K:Frm→Heap→Prop} {k:D→Heap→Prop} {fr:Frm} {h:Heap} {dst:Option Tmp} {ty:TypeId} {pos:String} {after:Array Edge} {rest:List Way}
@[congr] theorem zeh {o o':Option Oper} {k:Oper→Prop} (h:o=o'):onO o k=onO o' k:=by rw[h]
@[go_sem ↓] theorem zei:zMV P mu h0 ops [] K fr h=K fr h:=(rfl)
@[go_sem ↓] theorem zbs (w:Way):zMV P mu h0 l.toArray (w::rest) K fr h=onO l[w.1]? fun o=>zTz P mu h0 w.2.1 l.toArray o fr h fun d h'=>(w.2.2=true→HLe h0 h')∧zMV P mu h0 l.toArray rest K (wu fr o.dst d) h':=by
 simp only[zMV,List.getElem?_toArray]
@[go_sem ↓] theorem zgB (o:Oper) (k:Oper→Prop):onO (some o) k=k o:=(rfl)
@[go_sem ↓] theorem zia (op:Op):zTz P mu h0 .no ops ⟨dst,op,ty,pos,after,none⟩ fr h k=qv P (zGA mu dst) h.next op (zx fr) h k:=(rfl)
@[go_sem ↓] theorem zib (op:Op):zTz P mu h0 .st ops ⟨dst,op,ty,pos,after,none⟩ fr h k=zHz P h0 op (zx fr) fun d=>k d h:=(rfl)
@[go_sem ↓] theorem zZ2 (t:TypeId) (a:Operand) (k:D→Prop):zHz P h0 (.load t a) (zx fr) k=onS (zAv P t (zx fr a) h0) k:=(rfl)
@[go_sem ↓] theorem zbt (st:Fl) (op:Op) (j:Nat) (b:Bool):zTz P mu h0 st ops ⟨dst,op,ty,pos,after,some (j,b)⟩ fr h k =
  gif (qF ops fr (some (j,b))) (zTz P mu h0 st ops ⟨dst,op,ty,pos,after,none⟩ fr h k) (k qz h):=by
 unfold zTz gif;cases qF ops fr (some (j,b))<;>rfl
end
def zej:D→Bool
 | .nilsl=>true
 |_=>false
section
variable {P:Program} {t e:TypeId} {c:Bool} {sz:Nat} {xs:List (List D)} {d:D}
theorem qi (hd:zX sz xs d) (hu:P.underlying t=some (.slice e)):zCl P .eql t c d .nilsl=some (.bool (zej d)):=by
 rcases hd with⟨rfl,rfl⟩ | ⟨tk,rfl⟩ <;>simp[zCl,zXP,zAd,veq,hu,zej]
theorem qK {nid:Nat} {z:D} {h:Heap} (he:qE P t=some e) (hz:qQ P e=some z) (hs:szT P e=sz) (hzt:z.notTuple=true) (hzl:z.cells.length=sz) (h0:0<sz):zM P false nid t 0 [] h=some (.sl sz [] .full,h):=by
 simp only[zM,he,hz,hs];rw[if_pos (by simp[hzt,hzl,h0])];simp[qZ,yC]
end
mutual
theorem zAS (id:Nat) (cs:List D):∀d:D,below 0 d→frz id cs d=d
 | .bool _,_=>rfl
 | .int _ _,_=>rfl
 | .str _,_=>rfl
 | .nilptr,_=>rfl
 | .ptr _ _,h=>absurd h (Nat.not_lt_zero _)
 | .iptr es off,h=>by simp only[frz,qV id cs es h]
 | .nilsl,_=>rfl
 | .sl sz xs tk,h=>by
  simp only[below] at h;cases tk with
  |own t=>exact absurd h.2 (Nat.not_lt_zero _)
  |_=>simp only[frz,zH0 id cs xs h.1]
 | .rs _ _ _ _,h=>absurd h (Nat.not_lt_zero _)
 | .nilmap,_=>rfl
 | .map _,h=>absurd h (Nat.not_lt_zero _)
 | .fn f a c,h=>by simp only[frz,qV id cs a h.1,qV id cs c h.2]
 | .yld _,h=>absurd h (Nat.not_lt_zero _)
 | .nilfn,_=>rfl
 | .agg es,h=>by simp only[frz,qV id cs es h]
 | .tuple es,h=>by simp only[frz,qV id cs es h]
 | .iface t d,h=>by simp only[frz,zAS id cs d h]
 | .niliface,_=>rfl
theorem qV (id:Nat) (cs:List D):∀ds:List D,zb 0 ds→zEo id cs ds=ds
 | [],_=>rfl
 |d::ds,h=>by simp only[zEo,zAS id cs d h.1,qV id cs ds h.2]
theorem zH0 (id:Nat) (cs:List D):∀xs:List (List D),zBd 0 xs→zVY id cs xs=xs
 | [],_=>rfl
 |x::xs,h=>by simp only[zVY,qV id cs x h.1,zH0 id cs xs h.2]
end
theorem zT2 {id sz len:Nat} {cs:List D} {xs:List (List D)} (hx:∀x∈xs,x.length=sz) (hl:xs.length=len) (hc:cs=xs.flatten):frz id cs (.rs id sz 0 len)= .sl sz xs .no:=by
 subst hc hl;simp only[frz];rw[if_pos ⟨trivial,by rw[yy hx];omega⟩,List.drop_zero,List.take_of_length_le (by rw[yy hx];omega),zBQ hx]
def Heap.Ok (h:Heap):Prop:=∀i,h.next≤i→h.at' i=none
theorem zA.known {P:Program} {f:FuncId} {args:List D} {h:Heap} {Q:D→Heap→Prop} (he:wS P f=true) (hv:zb h.next args→h.Ok→zA P f args h Q):zA P f args h Q:=by
 refine⟨he,fun w0 G M ρ w va hg0 hs hfr hr=>(hv (zAN hfr _ _ hr) fun i hi=> ?_).2 w0 G M ρ w va hg0 hs hfr hr⟩;cases hz:h.at' i with
 |none=>rfl
 |some ob=>
  obtain⟨l,hl,_⟩:=hs.live i ob hz;rw[hfr i hi] at hl;cases hl
theorem Ext.hle {h h':Heap} (hok:h.Ok) (he:Ext h h'):HLe h h':=fun i ob e=>by
 by_cases hi:i<h.next
 ·rw[he.2 i hi];exact e
 ·rw[hok i (by omega)] at e;cases e
theorem zA.pure {P:Program} {f:FuncId} {args:List D} {h:Heap} {Q:D→Prop} (he:wS P f=true) (hv:h.Ok→zA P f args h fun d h'=>Ext h h'∧below h.next d∧Q d):zA P f args h fun d h'=>h'=h∧Q d:=
 zA.known he fun _ hok=>zA.gc (fun _=>(hv hok).mono fun _ _ hx=>⟨hx.1.hle hok,hx.2.1,hx.2.2⟩) he
theorem yO {sz:Nat} {xs:List (List D)} (hx:∀x∈xs,qC x) (tk:Tk):yI (.sl sz xs tk)= .sl sz xs .no∧below 0 (.sl sz xs .no):=by
 have h2:zCi xs=xs:=zHv fun x h=>(hx x h).2.2;simp only[yI,h2,below,and_true,true_and];exact zHu fun x h=>(hx x h).2.1
section
variable {P:Program} {k:Nat} {t e:TypeId} {c:List D}
theorem zBR {q:IntKind} (hu:P.underlying t=some (.int q)) (h:Shp P k t c):∃n,c= [.int q n]∧fits q n:=by
 cases k with
 |zero=>simp only[Shp] at h
 |succ k=>simpa only[Shp,hu] using h
theorem zQD (hu:P.underlying t=some .bool) (h:Shp P k t c):∃b,c= [.bool b]:=by
 cases k with
 |zero=>simp only[Shp] at h
 |succ k=>simpa only[Shp,hu] using h
theorem zAT (hu:P.underlying t=some .string) (h:Shp P k t c):∃s,c= [.str s]∧s.length≤1048576:=by
 cases k with
 |zero=>simp only[Shp] at h
 |succ k=>simpa only[Shp,hu] using h
theorem zE5 {sz:Nat} (hu:P.underlying t=some (.slice e)) (hs:szT P e=sz) (h:Shp P k t c):∃d xs j,c= [d]∧j<k∧zX sz xs d∧(d= .nilsl∨d= .sl sz xs .no)∧xs.length≤1048576∧∀x∈xs,Shp P j e x:=by
 cases k with
 |zero=>simp only[Shp] at h
 |succ k=>
  simp only[Shp,hu] at h;rcases h with rfl| ⟨xs,rfl,h1,h2⟩
  ·exact⟨_,[],k,rfl,Nat.lt_succ_self _,zX.nil, .inl rfl,by simp,by simp⟩
  ·have:P.cellsOf e=sz:=hs;rw[this];exact⟨_,xs,k,rfl,Nat.lt_succ_self _,zX.mk _, .inr rfl,h1,h2⟩
theorem zAU {fs:Array Field} (hu:P.underlying t=some (.struct fs)) (h:Shp P k t c):∃j,j<k∧zVc P (Shp P j) fs.toList c:=by
 cases k with
 |zero=>simp only[Shp] at h
 |succ k=>exact⟨k,Nat.lt_succ_self _,by simpa only[Shp,hu] using h⟩
theorem zg {r:TypeId→List D→Prop} {f:Field} {fs:List Field} {cs:List D} (h:zVc P r (f::fs) cs):∃c cs',cs=c++cs'∧r f.type c∧zVc P r fs cs':=h
theorem zCQ {r:TypeId→List D→Prop} {cs:List D} (h:zVc P r [] cs):cs= []:=h
end
section
variable {P:Program}
theorem za {t:TypeId} {id off:Nat} {cs:List D} {x:D} {h:Heap} (hi:h.at' id=some (.row cs)) (hs:szT P t=1) (ho:off<cs.length) (hc:x.cells= [x]) (hf:x.flat=true):zU P t (.ptr id off) x h=some (h.set id (.row (cs.set off x))):=by
 have hp:yW cs [x] off=cs.set off x:=by
  simp only[yW,List.length_singleton];rw[List.set_eq_take_append_cons_drop,if_pos ho];simp
 simp only[zU,hi,hs,hc,hp];rw[if_pos];simp[hf];omega
end
@[go_sem] theorem zgC (h:Heap):HLe h h=True:=eq_true fun _ _ e=>e
attribute [go_sem] true_and and_true true_implies implies_true false_implies
theorem zBg {h:Heap} {i:Nat} {o:Obj} (hi:h.at' i=some o):h.set i o=h:=by
 cases h with
 |mk n a=>
  simp only[Heap.set,Heap.mk.injEq,true_and]
  funext j
  by_cases hj:j=i
  ·subst hj;rw[if_pos rfl];exact hi.symm
  ·rw[if_neg hj]
theorem zEG (h:Heap) (i:Nat) (o o':Obj):(h.new i o).set i o'=h.new i o':=by
 simp only[Heap.set,Heap.new,Heap.mk.injEq,true_and]
 funext j
 by_cases hj:j=i<;>simp[hj]
theorem zj {P:Program} {t:TypeId} {n id:Nat} {cs cs':List D} {h:Heap} (hs:szT P t=n) (hn:0<n) (hl:cs.length=n) (hl':cs'.length=n) (hf:cs'.all D.flat=true):zU P t (.ptr id 0) (.agg cs') (h.new id (.row cs))=some (h.new id (.row cs')):=by
 subst hl';rw[yD (zJ _ _ _) hs hl hn hf,zEG]
def wi:D→Nat→Prop
 | .sl _ _ (.own t),i=>i=t
 |_,_=>False
theorem wN.app2 {P:Program} {h:Heap} {sz:Nat} {xs ys:List (List D)} {d:D} {tk:Tk} {t e:TypeId} {K:D→Heap→Prop} (ho:wN h sz xs d) (he:qE P t=some e) (hz:zHE P e=true) (hs:szT P e=sz) (h0:0<sz) (hys:∀y∈ys,y.length=sz) (hy0:ys≠[])
  (hb:(xs.length+ys.length)*yR P e≤lim) (hl:xs.length+ys.length≤lim) (hK:∀d' h',wN h' sz (xs++ys) d'→h.next≤h'.next→(∀i,i<h.next→¬wi d i→h'.at' i=h.at' i)→(∀i,wi d' i→h.next≤i)→d'.cells= [d']→d'.flat=true→K d' h'):onR (z6 P false h.next t d (.sl sz ys tk) h) K:=by
 have hlen:0<ys.length:=List.length_pos_iff.2 hy0;simp only[z6,he,hz,hs,zR0,if_true,yy hys,Nat.mul_div_cancel _ h0];rcases ho with⟨rfl,rfl⟩ | ⟨q,rfl,h1,h2⟩
 ·simp only[qN];rw[if_neg (by omega),if_pos (by simp only[Bool.and_eq_true,decide_eq_true_eq];simp only[List.length_nil,Nat.zero_add] at hb hl;exact⟨hb,hl⟩)];simp only[Bool.false_eq_true,if_false,zBQ hys,zGs];refine hK _ _ (.inr ⟨h.next,by simp,zJ _ _ _,Nat.lt_of_lt_of_le (Nat.lt_succ_self _) (Nat.le_max_right _ _)⟩) (qY _ _ _) (fun i hi _=>zG (by omega)) (fun i hi=> ?_) rfl rfl;simp only[wi] at hi;omega
 ·simp only[qN];rw[if_pos (by simp only[Bool.and_eq_true,decide_eq_true_eq];exact⟨⟨trivial,hb⟩,hl⟩)];simp only[h1,Bool.false_eq_true,if_false,zBQ hys,zGs];refine hK _ _ (.inr ⟨h.next,rfl,zJ _ _ _,Nat.lt_of_lt_of_le (Nat.lt_succ_self _) (Nat.le_max_right _ _)⟩) (qY (h.del q) _ _) (fun i hi hne=> ?_) (fun i hi=> ?_) rfl rfl
  ·simp only[wi] at hne;rw[zG (by omega),yv hne]
  ·simp only[wi] at hi;omega
def zbu (n0 sz:Nat) (L:LRec) (ps:List (List D)) (k:Nat) (S:Nat→Prop) (h:Heap):Prop:=
 n0+1<h.next∧h.at' (n0+1)=some (.loop L)∧∃d,h.at' n0=some (.row [d])∧wN h sz (ps.take k) d∧∀i,S i↔(i=n0∨i=n0+1∨wi d i)
theorem wN.tok {h:Heap} {sz:Nat} {xs:List (List D)} {d:D} (ho:wN h sz xs d) {i:Nat} (hi:wi d i):i<h.next∧h.at' i=some .tok:=by
 rcases ho with⟨rfl,_⟩ | ⟨t,rfl,h1,h2⟩
 ·exact hi.elim
 ·simp only[wi] at hi;subst hi;exact⟨h2,h1⟩
theorem wN.loc {h h':Heap} {sz:Nat} {xs:List (List D)} {d:D} (ho:wN h sz xs d) (hn:h.next≤h'.next) (hk:∀i,wi d i→h'.at' i=h.at' i):wN h' sz xs d:=by
 rcases ho with h1| ⟨t,rfl,h1,h2⟩
 ·exact .inl h1
 ·exact .inr ⟨t,rfl,by rw[hk t rfl];exact h1,by omega⟩
theorem zbu.here {n0 sz:Nat} {L:LRec} {ps:List (List D)} {k:Nat} {S:Nat→Prop} {h:Heap} (y:zbu n0 sz L ps k S h) (i:Nat) (hi:S i):i<h.next:=by
 obtain⟨h1,_,d,_,h3,h4⟩:=y;rcases(h4 i).1 hi with rfl|rfl|ht
 ·omega
 ·omega
 ·exact(h3.tok ht).1
theorem zbu.loc {n0 sz:Nat} {L:LRec} {ps:List (List D)} {k:Nat} {S:Nat→Prop} {h h':Heap} (y:zbu n0 sz L ps k S h) (hn:h.next≤h'.next) (hk:∀i,S i→h'.at' i=h.at' i):zbu n0 sz L ps k S h':=by
 obtain⟨h1,h2,d,h3,h4,h5⟩:=y;exact⟨by omega,by rw[hk _ ((h5 _).2 (.inr (.inl rfl)))];exact h2,d,by rw[hk _ ((h5 _).2 (.inl rfl))];exact h3,h4.loc hn fun i hi=>hk i ((h5 i).2 (.inr (.inr hi))),h5⟩
theorem Ext.of_but {S:Nat→Prop} {h h1 h2:Heap} (a:Ext h h1) (b:But S h1 h2) (hs:∀i,S i→h.next≤i):Ext h h2:=
 ⟨Nat.le_trans a.1 b.1,fun i hi=>by rw[b.2 i (by have:=a.1;omega) fun e=>by have:=hs i e;omega,a.2 i hi]⟩
def Fin (sz:Nat) (xs:List (List D)) (d:D):Prop:=(d= .nilsl∧xs= [])∨d= .sl sz xs .no
theorem Fin.isSl {sz:Nat} {xs:List (List D)} {d:D} (hf:Fin sz xs d):zX sz xs d:=by
 rcases hf with⟨rfl,rfl⟩ |rfl
 ·exact zX.nil
 ·exact zX.mk _
theorem wN.fin {h:Heap} {sz:Nat} {xs:List (List D)} {d:D} (ho:wN h sz xs d) (hx:∀x∈xs,qC x):below 0 (yI d)∧Fin sz xs (yI d):=by
 rcases ho with⟨rfl,rfl⟩ | ⟨t,rfl,_⟩
 ·exact⟨trivial, .inl ⟨rfl,rfl⟩⟩
 ·rw[(yO hx _).1];exact⟨(yO hx .no).2, .inr rfl⟩
@[go_sem ↓] theorem zek (a:Oper) (l m:List Oper):List.append (a::l) m=a::List.append l m:=(rfl)
@[go_sem ↓] theorem zgD (m:List Oper):List.append [] m=m:=(rfl)
@[go_sem ↓] theorem zgE (a:Oper) (l:List Oper):(a::l)[0]? =some a:=(rfl)
@[go_sem ↓] theorem zgF (a:Oper) (l:List Oper) (n:Nat):(a::l)[n+1]? =l[n]? :=(rfl)
def gdB:D→Bool→Bool
 | .bool x,b=>x==b
 |_,_=>false
def zel:Option Oper→Frm→Bool→Bool
 |some o,fr,b=>match o.dst with
  |some t=>gdB (fr t) b
  |none=>false
 |none,_,_=>false
@[go_sem ↓] theorem zZ3 (l:List Oper) (fr:Frm) (j:Nat) (b:Bool):qF l.toArray fr (some (j,b))=zel l[j]? fr b:=by
 unfold qF zel;simp only[List.getElem?_toArray];cases l[j]? with
 |none=>rfl
 |some o=>
  simp only[Option.bind_some];cases o.dst with
  |none=>rfl
  |some t=>
   simp only;cases fr t<;>rfl
@[congr] theorem zbv {o o':Option Oper} {fr:Frm} {b:Bool} (h:o=o'):zel o fr b=zel o' fr b:=by rw[h]
@[go_sem ↓] theorem zem (t:Tmp) (op:Op) (ty:TypeId) (pos:String) (after:Array Edge) (gd:Option (Nat×Bool)) (fr:Frm) (b:Bool):zel (some ⟨some t,op,ty,pos,after,gd⟩) fr b=gdB (fr t) b:=(rfl)
@[go_sem ↓] theorem zgG (x b:Bool):gdB (.bool x) b=(x==b):=(rfl)
@[go_sem ↓] theorem zen (b:Bool):gdB qz b=false:=(rfl)
@[go_sem] theorem zkL:(true==true)=true:=(rfl)
@[go_sem] theorem zkM:(true==false)=false:=(rfl)
@[go_sem] theorem zkN:(false==true)=false:=(rfl)
@[go_sem] theorem zkO:(false==false)=true:=(rfl)
theorem zBr {P:Program} {g:Cfg} {n:Nat} {ro:Option Nat} {c:Code} {K:Frm→Heap→Prop} {Q:Exit→Frm→Heap→Prop} {fr:Frm} {h:Heap} (R:Frm→Heap→Prop) (h1:vwp P g n ro c (zC2 R fun _ _ _=>False) fr h) (h2:∀fr h,R fr h→K fr h):vwp P g n ro c (zC2 K Q) fr h:=
 qw c (fun e fr h hx=>by
  cases e with
  |normal=>exact h2 fr h hx
  |_=>exact hx.elim) fr h h1
end Go.V
