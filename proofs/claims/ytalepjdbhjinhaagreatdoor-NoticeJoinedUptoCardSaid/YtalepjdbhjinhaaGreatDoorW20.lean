/- A machine of abstract values for programs of the model, and its soundness, part 7. No condition. -/
import Derived.Test.YtalepjdbhjinhaaGreatDoorW04
import Derived.Shelf.Strings.Search1
import Derived.Shelf.Strings.Count
import Derived.Shelf.Strings.SlTrimAscii
import Derived.Test.YtalepjdbhjinhaaGreatDoorW17
import Derived.Test.YtalepjdbhjinhaaGreatDoorW06
import Derived.Sort.Row
set_option linter.all false
namespace Go.V
abbrev zCW:=List (Nat× (List D×D))
def zSq:zCW→Nat→List D→Option D
 | [],_,_=>none
 |(k,x)::l,g,args=>match Nat.beq k g with
  |true=>match zUU x.1 args with
   |true=>some x.2
   |false=>zSq l g args
  |false=>zSq l g args
def zDT (lib:FuncId→List D→(Nat→Option Obj)→zRN) (m:zCW) (g:FuncId) (args:List D) (hp:Nat→Option Obj):zRN:=
 match lib g args hp with
 |some d=>some d
 |none=>zLR (zSq m g args)
def zVE (P:Program) (lib:FuncId→List D→(Nat→Option Obj)→zRN):Prop:=∀g args (h:Heap) r,lib g args h.at'=some r→zA P g args h fun a b=>a=r.1∧b=zba r.2 h
def zp (P:Program):zCW→Prop
 | []=>True
 |(k,x)::l=>(∀h,zA P k x.1 h fun a b=>a=x.2∧b=h)∧zp P l
theorem zKL {P:Program} :∀ {m:zCW},zp P m→∀g args h d,zSq m g args=some d→zA P g args h fun a b=>a=d∧b=h
 | [],_,_,_,_,_,hl=>by cases hl
 |(k,x)::l,hm,g,args,h,d,hl=>by
  simp only[zSq] at hl;split at hl
  ·rename_i hk;split at hl
   ·rename_i he;cases hl;rw[←Nat.eq_of_beq_eq_true hk,←zE9 _ _ he];exact hm.1 h
   ·exact zKL hm.2 g args h d hl
  ·exact zKL hm.2 g args h d hl
theorem zZP {P:Program} {lib:FuncId→List D→(Nat→Option Obj)→zRN} {m:zCW} (hl:zVE P lib) (hm:zp P m):zVE P (zDT lib m):=fun g args h r he=>by
 unfold zDT at he;split at he
 ·rename_i d' hd;cases he;exact hl g args h _ hd
 ·unfold zLR at he;split at he
  ·rename_i d hd;cases he;exact zKL hm g args h d hd
  ·cases he
theorem zGY {P:Program} {g:FuncId} {args:List D} {h:Heap} {o:Option D} {r:D×Option (Nat×Obj)} (hr:zLR o=some r) (hv:∀d,o=some d→zA P g args h fun a b=>a=d∧b=h):zA P g args h fun a b=>a=r.1∧b=zba r.2 h:=by
 unfold zLR at hr;split at hr
 ·rename_i d;cases hr;exact hv d rfl
 ·cases hr
theorem zp.add {P:Program} (hmix:P.follows .mixedOrders=true) {tab:List (Nat× (Func×Cfg))} (htab:zFA P tab) {sett:FuncId→Bool} {lib:FuncId→List D→(Nat→Option Obj)→zRN} (hl:zVE P lib) {m:zCW} (hm:zp P m)
  {fuel k:Nat} {f:FuncId} {args:List D} {d:D} (hb:zAK args=true) (hd:zDQ d=true)
  (hx:(zCV P tab sett (zDT lib m) fuel k [] (.fn (.func f) [] []) args HT.emp).map (fun r=>yI r.1 r.2.heap)=some d):zp P ((f,(args,d))::m):=
 ⟨fun h=>(zA.of_run hmix htab (zZP hl hm) hb hd hx h).mono fun a b hab=>⟨hab.2,hab.1⟩,hm⟩
open Go.RowKit (Below)
theorem zA.of_lib {P:Program} {f:FuncId} {ds:List D} {d:D} (he:qV P f=true)
  (hc:∀ (M:Imm) (ρ:Ren) (va:Array Value) (w:World),zy M ρ ds va.toList→Calls P f va w fun e w'=>∃v,e= .returned v∧Bel w.heap.size w w'∧∀ (M':Imm) (ρ':Ren),rel M' ρ' d v) (h:Heap):
  zA P f ds h fun a b=>a=d∧b=h:=by
 refine⟨he,fun w0 G M ρ w va hg0 hs hfr hr=>(hc M ρ va w hr).mono fun e w' hq=> ?_⟩;obtain⟨v,rfl,hb,hv⟩:=hq;exact⟨v,M,ρ,d,h,rfl,MLe.refl _,RLe.refl _,hs.world hb,hfr,hv M ρ,rfl,rfl⟩
theorem zGZ {M:Imm} {ρ:Ren} {s t:List UInt8} {va:Array Value} (hr:zy M ρ [.str s, .str t] va.toList):∃b c:ByteArray,va= #[.string b, .string c]∧b.data.toList=s∧c.data.toList=t∧s.length≤lim∧t.length≤lim:=by
 simp only[zy,rel] at hr;obtain⟨v,vs,e,⟨b,rfl,h1,h2⟩,v',vs',e',⟨c,rfl,h3,h4⟩,rfl⟩:=hr;subst e';exact⟨b,c,Array.ext' (by simpa using e),h1,h3,h2,h4⟩
def za5 (n:Int):Option D:=if IntKind.i64.wrap n==n then some (.int .i64 n) else none
theorem zOy {n:Int} {d:D} (h:za5 n=some d) (M:Imm) (ρ:Ren):rel M ρ d (.int .i64 n):=by
 unfold za5 at h;split at h
 ·rename_i hw;cases h;exact yg (show fits _ _ from by unfold fits;simpa using hw)
 ·cases h
def zeo (s:List UInt8):Option D:=if decide (s.length≤lim) then some (.str s) else none
theorem zVF {s:List UInt8} {d:D} (h:zeo s=some d) (M:Imm) (ρ:Ren):rel M ρ d (.string ⟨s.toArray⟩):=by
 unfold zeo at h;split at h
 ·rename_i hw;cases h;simp only[rel];exact⟨_,rfl,by simp,by simpa using hw⟩
 ·cases h
def zEV:List D→Option D
 | [.str s, .str t]=>match t with
  | [c]=>za5 (Lib.indexByte s c)
  |_=>none
 |_=>none
def zGa:List D→Option D
 | [.str s, .str t]=>match t with
  | [c]=>za5 (Lib.countByte s c)
  |_=>none
 |_=>none
def zKM:List D→Option D
 | [.str s, .str c]=>if Nat.ble 2 c.length&&c.all (fun b=>decide (b.toNat<128))&&Nat.blt c.length 4294967281 then zeo (Lib.trimS s c) else none
 |_=>none
theorem zLj {b:ByteArray} {c:UInt8} (h:b.data.toList= [c]):b= ⟨#[c]⟩:=by
 cases b with
 |mk a=>
  have:a= #[c]:=Array.ext' (by simpa using h);rw[this]
theorem zDi {P:Program} {f:FuncId} (he:qV P f=true) (hc:∀ (s:ByteArray) (c:UInt8) (w:World),Calls P f #[.string s, .string ⟨#[c]⟩] w fun e w'=>e= .returned (.int .i64 (Lib.indexByte s.data.toList c))∧w'=w)
  {args:List D} {d:D} (hl:zEV args=some d) (h:Heap):zA P f args h fun a b=>a=d∧b=h:=by
 unfold zEV at hl;split at hl
 ·rename_i s t;split at hl
  ·rename_i c;refine zA.of_lib he (fun M ρ va w hr=> ?_) h;obtain⟨b1,b2,rfl,rfl,h2,_,_⟩:=zGZ hr;rw[zLj h2];refine(hc b1 c w).mono fun e w' hq=> ?_;obtain⟨rfl,rfl⟩:=hq;exact⟨_,rfl,Bel.refl _ _,fun M' ρ'=>zOy hl M' ρ'⟩
  ·cases hl
 ·cases hl
theorem zHQ {P:Program} {f:FuncId} (he:qV P f=true) (hc:∀ (s:ByteArray) (c:UInt8) (w:World),Calls P f #[.string s, .string ⟨#[c]⟩] w fun e w'=>e= .returned (.int .i64 (Lib.countByte s.data.toList c))∧w'=w)
  {args:List D} {d:D} (hl:zGa args=some d) (h:Heap):zA P f args h fun a b=>a=d∧b=h:=by
 unfold zGa at hl;split at hl
 ·rename_i s t;split at hl
  ·rename_i c;refine zA.of_lib he (fun M ρ va w hr=> ?_) h;obtain⟨b1,b2,rfl,rfl,h2,_,_⟩:=zGZ hr;rw[zLj h2];refine(hc b1 c w).mono fun e w' hq=> ?_;obtain⟨rfl,rfl⟩:=hq;exact⟨_,rfl,Bel.refl _ _,fun M' ρ'=>zOy hl M' ρ'⟩
  ·cases hl
 ·cases hl
theorem zOz {P:Program} {ρ:Go.Shelf.Ren} (L:Go.Proofs.Lays.n160 P ρ) (h116:(P.info? (ρ.t 116)).map (fun i=>(i.zero,i.size))=some (some (.agg (Array.replicate 256 (.bool false))),256)) (s cutset:ByteArray) (w:World) (h2:2≤cutset.size) (hs:s.size≤9223372036854775807) (hcs:cutset.size<4294967281)
  (hascii:∀ (j:Nat) b,cutset.data.toList[j]? =some b→b.toNat<128):
  Calls P (ρ.f 160) #[.string s, .string cutset] w fun e w'=>e= .returned (.string ⟨(Lib.trimS s.data.toList cutset.data.toList).toArray⟩)∧Bel w.heap.size w w':=by
 by_cases hs0:s.size=0
 ·refine(Go.Proofs.Any.strings_Trim_empty L s cutset w (.inl hs0)).mono fun e w' ⟨h1,h2⟩=>⟨?_,h2▸Bel.refl _ _⟩;have hl:s.data.toList= []:=List.eq_nil_of_length_eq_zero (by rw[←Lib.size_eq];exact hs0);rw[h1,hl];congr 2;rw[←Lib.mk_data s,hl];rfl
 ·refine(Go.Proofs.Any.strings_Trim_set L (Go.zero_of_info h116).1 (Go.zero_of_info h116).2 s cutset w h2 (by omega) hs hcs hascii).mono fun e w' ⟨h1,h2⟩=>⟨h1,?_⟩;obtain⟨q,rfl⟩:=h2;exact⟨(((Below.refl _ _).alloc (Nat.le_refl _) _).alloc (by simp) _).trans ⟨rfl,rfl,rfl,Nat.le_refl _,fun _ _=>rfl⟩,Nat.le_add_right _ _⟩
theorem zI2 {P : Program} {f : FuncId} (he : qV P f = true) (hc : ∀ (s c : ByteArray) (w : World), 2 ≤ c.size → s.size ≤ 9223372036854775807 → c.size < 4294967281 → (∀ (j : Nat) b, c.data.toList[j]? = some b → b.toNat < 128) →
      Calls P f #[.string s, .string c] w fun e w' => e = .returned (.string ⟨(Lib.trimS s.data.toList c.data.toList).toArray⟩) ∧ Bel w.heap.size w w')
    {args : List D} {d : D} (hl : zKM args = some d) (h : Heap) : zA P f args h fun a b => a = d ∧ b = h := by
  unfold zKM at hl;split at hl
  · rename_i s c
    split at hl
    · rename_i hcond
      simp only [Bool.and_eq_true] at hcond;have hlt : c.length < 4294967281 := by rw [← Nat.blt_eq]; exact hcond.2
      refine zA.of_lib he (fun M ρ va w hr => ?_) h;obtain ⟨b1, b2, rfl, rfl, rfl, h3, _⟩ := zGZ hr;have e1 : b1.size = b1.data.toList.length := by rw [Array.length_toList]; rfl
      have e2 : b2.size = b2.data.toList.length := by rw [Array.length_toList]; rfl
      refine (hc b1 b2 w (by rw [e2]; exact by have := hcond.1.1; rwa [Nat.ble_eq] at this) (by rw [e1]; unfold lim at h3; omega) (by rw [e2]; exact hlt) (Go.Proofs.ascii_of_all hcond.1.2)).mono fun e w' hq => ?_;obtain ⟨rfl, hb⟩ := hq;exact ⟨_, rfl, hb, fun M' ρ' => zVF hl M' ρ'⟩
    · cases hl
  · cases hl
theorem gJ {α:Type _} (a b:α):(some a).getD b=a:=rfl
section
variable {P:Program} {g:Cfg} {n:Nat} {mu:Tmp→Bool} {h0:Heap} {bk:Nat→Bool} {ops:Array Oper}
theorem zHR:∀ (l:List Oper) {K K':Frm→Heap→Prop} (_:∀fr h,K fr h→K' fr h) (fr:Frm) (h:Heap),zH9 P mu ops l K fr h→zH9 P mu ops l K' fr h
 | [],_,_,hk,fr,h,hv=>hk fr h hv
 |o::rest,K,K',hk,fr,h,hv=>by
  simp only[zH9] at hv⊢;cases hg:y9 ops fr o.guard with
  |true=>
   rw[hg] at hv;exact zA7 (fun d h' hx=>zHR rest hk _ _ hx) hv
  |false=>
   rw[hg] at hv;exact zHR rest hk _ _ hv
theorem zFH:∀ (l:List (Nat×Fl)) {K K':Frm→Heap→Prop} (_:∀fr h,K fr h→K' fr h) (fl:Bool) (fr:Frm) (h:Heap),zAa P mu h0 bk ops fl l K fr h→zAa P mu h0 bk ops fl l K' fr h
 | [],_,_,hk,_,fr,h,hv=>hk fr h hv
 |(i,st)::rest,K,K',hk,fl,fr,h,hv=>by
  simp only[zAa] at hv⊢;cases ho:ops[i]? with
  |none=>rw[ho] at hv;exact hv
  |some o=>
   rw[ho] at hv;exact zE1 (fun d h' hx=>⟨hx.1,zFH rest hk _ _ _ hx.2⟩) hv
theorem zNI {l:List (Nat×Fl)} {K K':Frm→Heap→Prop} (hk:∀fr h,K fr h→K' fr h) {fl:Bool} {fr:Frm} {h:Heap} (hv:zDN P mu h0 bk ops fl l K fr h):zDN P mu h0 bk ops fl l K' fr h:=by
 unfold zDN at hv⊢;split at hv
 ·exact zFH _ hk _ _ _ hv
 ·exact⟨hv.1,zFH _ hk _ _ _ hv.2⟩
theorem qy:∀ (c:Code) {ro:Option Nat} {Q Q':Exit→Frm→Heap→Prop} (_:∀e fr h,Q e fr h→Q' e fr h) (fr:Frm) (h:Heap),vwp P g n ro c Q fr h→vwp P g n ro c Q' fr h
 | .skip,_,_,_,hq,fr,h,hv=>hq _ _ _ hv
 | .exit _,_,_,_,hq,fr,h,hv=>hq _ _ _ hv
 | .ret,_,_,_,hq,fr,h,hv=>hq _ _ _ hv
 | .region id ops draw,_,_,_,hq,fr,h,hv=>by
  simp only[vwp] at hv⊢;cases draw with
  |false=>exact zHR _ (fun fr h=>hq _ fr h) _ _ hv
  |true=>
   obtain⟨h0,h1,h2⟩:=hv;exact⟨h0,h1,zNI (fun fr h=>hq _ fr h) h2⟩
 | .seq a b,ro,Q,Q',hq,fr,h,hv=>by
  simp only[vwp] at hv⊢;refine qy a (fun e fr h hx=> ?_) fr h hv;cases e with
  |normal=>exact qy b hq fr h hx
  |_=>exact hq _ _ _ hx
 | .cond c a b,ro,Q,Q',hq,fr,h,hv=>by
  simp only[vwp] at hv⊢;split at hv
  ·split at hv
   ·exact qy a hq fr h hv
   ·exact qy b hq fr h hv
  ·exact hv
 | .block id c,ro,Q,Q',hq,fr,h,hv=>by
  simp only[vwp] at hv⊢;refine qy c (fun e fr h hx=> ?_) fr h hv;cases e with
  |exit i=>
   simp only[zEG] at hx⊢;split at hx
   ·rename_i hi;rw[if_pos hi];exact hq _ _ _ hx
   ·rename_i hi;rw[if_neg hi];exact hq _ _ _ hx
  |_=>exact hq _ _ _ hx
 | .loop c,ro,Q,Q',hq,fr,h,hv=>by
  simp only[vwp] at hv⊢;obtain⟨I,h1,h2⟩:=hv;refine⟨I,h1,fun k fr h hI=>qy c (fun e fr h hx=> ?_) fr h (h2 k fr h hI)⟩;cases e with
  |normal=>exact hx
  |_=>exact hq _ _ _ hx
 | .rangeFunc f ps asg body,ro,Q,Q',hq,fr,h,hv=>by
  simp only[vwp] at hv⊢;refine⟨hv.1,?_⟩;have h2:=hv.2;cases hf:zz fr f<;>rw[hf] at h2<;>simp only[VFn] at h2⊢;rename_i g' first cap
  cases g'<;>simp only at h2⊢;refine zA.mono h2 fun d h' hx=> ?_;obtain⟨r,r1,r2,r3⟩:=hx;refine⟨r,r1,r2,?_⟩;unfold zLK at r3⊢;split at r3
  ·exact hq _ _ _ r3
  ·split at r3
   ·exact hq _ _ _ r3
   ·exact hq _ _ _ r3
   ·exact r3
 | .label _,_,_,_,hq,fr,h,hv=>hq _ _ _ hv
 | .goto _,_,_,_,_,_,_,hv=>hv
 | .scope c,ro,Q,Q',hq,fr,h,hv=>by
  simp only[vwp] at hv⊢;refine qy c (fun e fr h hx=> ?_) fr h hv;cases e with
  |goto l=>exact hx
  |_=>exact hq _ _ _ hx
 | .refuse ..,_,_,_,_,_,_,hv=>hv
end
section
variable {P:Program} {g:Cfg} {n:Nat} {ro:Option Nat} {c:Code} {Q:Exit→Frm→Heap→Prop} {fr:Frm} {h:Heap}
theorem zA.of_fn (hmix:P.follows .mixedOrders=true) {f:FuncId} {fn:Func} {co:Code} {args:List D} {R:D→Heap→Prop} (hf:P.funcs[f]? =some fn) (hok:zj P g fn=true) (hb:fn.body=some co) (hl:Nat.ble args.length fn.ntmps=true)
  (hv:vwp P g fn.ntmps none co (zWT P fn.results.toList R) (V.zJx args) h):zA P f args h R:=by
 unfold zj at hok;rw[hb] at hok;simp only[Bool.and_eq_true,Bool.not_eq_true'] at hok;exact zA.of_body hmix hf hb hok.2 hok.1 (Nat.le_of_ble_eq_true hl) hv
theorem yG (J:Nat→Frm→Heap→Prop) (len:Nat) (hJ0:J 0 fr h) (step:∀i fr h,i≤len→J i fr h→vwp P g n ro c (zDf (fun fr h=>i<len∧J (i+1) fr h) Q) fr h):vwp P g n ro (.loop c) Q fr h:=by
 refine zOR (fun k fr h=>∃i,k=len-i∧i≤len∧J i fr h) len ⟨0,by simp,Nat.zero_le _,hJ0⟩ ?_;rintro k fr h ⟨i,rfl,hi,hJ⟩;refine qy c ?_ fr h (step i fr h hi hJ);intro e fr' h' hq;cases e with
 |normal=>exact⟨len- (i+1),by have:=hq.1;omega,i+1,rfl,hq.1,hq.2⟩
 |_=>exact hq
end
theorem zx {x:Int} (h1: -9223372036854775808≤x) (h2:x<9223372036854775808):IntKind.i64.wrap x=x:=by
 unfold IntKind.wrap;simp[IntKind.signed,IntKind.bits];split<;>omega
theorem zf {i:Nat} (h:i≤lim):IntKind.i64.wrap ((i:Int)+1)=((i+1:Nat):Int):=by
 rw[zx (by omega) (by unfold lim at h;omega)];norm_cast
@[go_sem] theorem zdS (mu:Tmp→Bool) (t:Tmp):zFh mu (some t)=mu t:=(rfl)
attribute [go_sem] List.contains_nil List.map_cons List.map_nil List.nil_append List.append_nil List.cons_append Bool.false_eq_true Bool.or_false Bool.or_true Bool.true_or Bool.false_or Bool.not_true Bool.not_false List.getElem?_cons_zero List.getElem?_cons_succ
@[go_sem] theorem zhF (t:Tmp):isC (.tmp t)=false:=(rfl)
@[go_sem] theorem zdT (v:Value):isC (.const v)=true:=(rfl)
@[go_sem] theorem zZQ (h:Heap) (i:Nat) (o:Obj):(h.new i o).at' i=some o:=zQ h i o
@[go_sem] theorem zF (h:Heap) (i:Nat) (o:Obj):(h.set i o).at' i=some o:=by simp[Heap.set]
@[go_sem] theorem zZR (P:Program) (nid:Nat) (t:TypeId) (x:Operand) (fr:Frm) (h:Heap):vop P false nid (.box t x) (zz fr) h=if(zz fr x).notTuple then some (.iptr (zz fr x).cells 0,h) else none:=by
 simp[vop]
@[go_sem] theorem zZS (P:Program) (nid:Nat) (t:TypeId) (x:Operand) (fr:Frm) (h:Heap):vop P true nid (.box t x) (zz fr) h=if(zz fr x).notTuple then some (.ptr nid 0,h.new nid (.row (zz fr x).cells)) else none:=by
 simp[vop]
def zFp (t:TypeId) (nid:Nat) (h:Heap):Option D→VR
 |some z=>if z.notTuple then some (.ptr nid 0,h.new nid (zD4 t z.cells)) else none
 |none=>none
@[go_sem] theorem zdU (P:Program) (m:Bool) (nid:Nat) (t:TypeId) (fr:Frm) (h:Heap):vop P m nid (.alloc t) (zz fr) h=zFp t nid h (qS P t):=by
 simp only[vop,zFp];cases qS P t<;>rfl
@[go_sem] theorem za6 (t:TypeId) (nid:Nat) (h:Heap) (cs:List D):zFp t nid h (some (.agg cs))=some (.ptr nid 0,h.new nid (zD4 t cs)):=(rfl)
@[go_sem] theorem za7 (t:TypeId) (nid:Nat) (h:Heap) (k:IntKind) (n:Int):zFp t nid h (some (.int k n))=some (.ptr nid 0,h.new nid (.row [.int k n])):=(rfl)
@[go_sem] theorem za8 (t:TypeId) (nid:Nat) (h:Heap) (s:List UInt8):zFp t nid h (some (.str s))=some (.ptr nid 0,h.new nid (.row [.str s])):=(rfl)
@[go_sem] theorem zXY (t:TypeId) (nid:Nat) (h:Heap):zFp t nid h (some .nilsl)=some (.ptr nid 0,h.new nid (.row [.nilsl])):=(rfl)
@[go_sem] theorem zdV (t:TypeId) (k:IntKind) (n:Int) (cs:List D):zD4 t (.int k n::cs)= .row (.int k n::cs):=(rfl)
@[go_sem] theorem zdW (t:TypeId) (s:List UInt8) (cs:List D):zD4 t (.str s::cs)= .row (.str s::cs):=(rfl)
@[go_sem] theorem za9 (t:TypeId) (b:Bool) (cs:List D):zD4 t (.bool b::cs)= .row (.bool b::cs):=(rfl)
@[go_sem] theorem zZT (t:TypeId) (cs:List D):zD4 t (.nilsl::cs)= .row (.nilsl::cs):=(rfl)
@[go_sem] theorem zSr (t:TypeId):zD4 t [.nilptr, .nilsl]= .trow t true [.nilptr, .nilsl]:=(rfl)
@[go_sem] theorem zLk (cs:List D):(D.agg cs).notTuple=true:=(rfl)
@[go_sem] theorem zLl (s:List UInt8):(D.str s).notTuple=true:=(rfl)
@[go_sem] theorem zSs (cs:List D):(D.agg cs).cells=cs:=(rfl)
@[go_sem] theorem zSt (s:List UInt8):(D.str s).cells= [.str s]:=(rfl)
theorem qQ {P:Program} {t:TypeId} {cs cs':List D} {h:Heap} {id:Nat} (hi:h.at' id=some (.row cs)) (hs:szT P t=cs'.length) (hl:cs.length=cs'.length) (h0:0<cs'.length) (hf:cs'.all D.flat=true):zW P t (.ptr id 0) (.agg cs') h=some (h.set id (.row cs')):=by
 have hp:y8 cs cs' 0=cs':=by simp[y8,hl]
 simp only[zW,hi,D.cells,hs,hp];rw[if_pos];simp only[Bool.and_eq_true,decide_eq_true_eq,ne_eq,Nat.zero_add];exact⟨⟨⟨fun e=>by omega,trivial⟩,Nat.le_of_eq hl.symm⟩,hf⟩
theorem zB {n:Nat} {cs:List D} (hn:cs.length=n) (h0:0<n):ze true n cs 0=some (.agg cs):=by
 subst hn;simp only[ze];rw[if_pos trivial,if_neg (by omega),if_pos (by omega)];simp
def zNJ (ag:Bool) (n off:Nat):Option Obj→Option D
 |some (.row cs)=>ze ag n cs off
 |some (.trow _ _ cs)=>ze ag n cs off
 |_=>none
@[go_sem ↓] theorem zdX (P:Program) (t:TypeId) (id off:Nat) (h:Heap):zBi P t (.ptr id off) h=(match agT P t with
 |none=>none
 |some ag=>zNJ ag (szT P t) off (h.at' id)):=by
 unfold zBi;cases agT P t with
 |none=>rfl
 |some ag=>
  simp only;cases h.at' id with
  |none=>rfl
  |some o=>cases o<;>rfl
@[go_sem] theorem zXZ (ag:Bool) (n off:Nat) (u:TypeId) (b:Bool) (cs:List D):zNJ ag n off (some (.trow u b cs))=ze ag n cs off:=(rfl)
@[go_sem] theorem zZU (ag:Bool) (n off:Nat) (cs:List D):zNJ ag n off (some (.row cs))=ze ag n cs off:=(rfl)
theorem yR {P:Program} {nid:Nat} {t e:TypeId} {z x:D} {sz:Nat} {h:Heap} (he:yr P t=some e) (hz:qS P e=some z) (hs:szT P e=sz) (hzt:z.notTuple=true) (hzl:z.cells.length=sz) (h0:0<sz) (hlim:sz≤16777216)
  (hxt:x.notTuple=true) (hxl:x.cells.length=sz):zS P false nid t 1 [(0,x)] h=some (.sl sz [x.cells] .full,h):=by
 simp only[zS,he,hz,hs];have hrep:zBW 1 z.cells=z.cells:=by simp[zBW]
 have hput:y8 z.cells x.cells 0=x.cells:=by simp[y8,hzl,hxl]
 rw[if_pos (by simp[hzt,hzl,h0];omega)];simp only[wl,hrep];rw[if_pos (by simp[hxt,hxl,hzl])];simp only[Nat.zero_mul,hput];simp[yT,←hxl]
def wI (h:Heap) (sz:Nat) (xs:List (List D)) (d:D):Prop:=(d= .nilsl∧xs= [])∨∃t,d= .sl sz xs (.own t)∧h.at' t=some .tok∧t<h.next
theorem wI.isSl {h:Heap} {sz:Nat} {xs:List (List D)} {d:D} (ho:wI h sz xs d):zX sz xs d:=by
 rcases ho with⟨rfl,rfl⟩ | ⟨t,rfl,_⟩
 ·exact zX.nil
 ·exact zX.mk _
theorem wI.keep {h h':Heap} {sz:Nat} {xs:List (List D)} {d:D} (ho:wI h sz xs d) (hk:∀i,i<h.next→h'.at' i=h.at' i) (hn:h.next≤h'.next):wI h' sz xs d:=by
 rcases ho with h1| ⟨t,h1,h2,h3⟩
 ·exact .inl h1
 ·exact .inr ⟨t,h1,by rw[hk t h3];exact h2,by omega⟩
section
variable {P:Program}
theorem zLm {k:Nat} :∀ {xs:List (List D)},(∀x∈xs,yB k x)→zBp k xs
 | [],_=>by simp only[zBp]
 |x::xs,h=>by
  simp only[zBp];exact⟨h x (by simp),zLm fun y hy=>h y (by simp[hy])⟩
theorem zLn:∀ {xs:List (List D)},(∀x∈xs,yh x=x)→zCP xs=xs
 | [],_=>by simp only[zCP]
 |x::xs,h=>by
  simp only[zCP];rw[h x (by simp),zLn fun y hy=>h y (by simp[hy])]
def zCj (cs:List D):Prop:=cs.all D.flat=true∧yB 0 cs∧yh cs=cs
end
def Ext (h h':Heap):Prop:=h.next≤h'.next∧∀i,i<h.next→h'.at' i=h.at' i
def But (S:Nat→Prop) (h h':Heap):Prop:=h.next≤h'.next∧∀i,i<h.next→¬S i→h'.at' i=h.at' i
theorem Ext.refl (h:Heap):Ext h h:=⟨Nat.le_refl _,fun _ _=>rfl⟩
theorem Ext.trans {h1 h2 h3:Heap} (a:Ext h1 h2) (b:Ext h2 h3):Ext h1 h3:=⟨Nat.le_trans a.1 b.1,fun i hi=>by rw[b.2 i (by have:=a.1;omega),a.2 i hi]⟩
theorem Ext.new {h h1:Heap} (a:Ext h h1) {id:Nat} (hid:h.next≤id) (o:Obj):Ext h (h1.new id o):=⟨Nat.le_trans a.1 (qd _ _ _),fun i hi=>by rw[zM (by omega),a.2 i hi]⟩
theorem Ext.set {h h1:Heap} (a:Ext h h1) {id:Nat} (hid:h.next≤id) (o:Obj):Ext h (h1.set id o):=⟨a.1,fun i hi=>by rw[zH (by omega),a.2 i hi]⟩
theorem Ext.del {h h1:Heap} (a:Ext h h1) {id:Nat} (hid:h.next≤id):Ext h (h1.del id):=⟨a.1,fun i hi=>by rw[qP (by omega),a.2 i hi]⟩
theorem Ext.but {h h1:Heap} (a:Ext h h1) (S:Nat→Prop):But S h h1:=⟨a.1,fun i hi _=>a.2 i hi⟩
theorem But.refl (S:Nat→Prop) (h:Heap):But S h h:=⟨Nat.le_refl _,fun _ _ _=>rfl⟩
theorem But.trans {S S':Nat→Prop} {h1 h2 h3:Heap} (a:But S h1 h2) (b:But S' h2 h3) (hs:∀i,S' i→S i∨h1.next≤i):But S h1 h3:=
 ⟨Nat.le_trans a.1 b.1,fun i hi hn=>by rw[b.2 i (by have:=a.1;omega) (fun h=>(hs i h).elim hn (by omega)),a.2 i hi hn]⟩
theorem But.set {S:Nat→Prop} {h h1:Heap} (a:But S h h1) {id:Nat} (hid:S id∨h.next≤id) (o:Obj):But S h (h1.set id o):=⟨a.1,fun i hi hn=>by rw[zH (fun e=>by subst e;exact hid.elim hn (by omega)),a.2 i hi hn]⟩
@[go_sem] theorem z8 (h:Heap) (i:Nat) (o:Obj):(h.set i o).next=h.next:=(rfl)
theorem zK (h:Heap) (o:Obj):(h.new h.next o).next=h.next+1:=by simp[Heap.new]
theorem yJ (h:Heap) {i:Nat} (hi:h.next≤i) (o:Obj):(h.new i o).next=i+1:=by simp[Heap.new];omega
section
variable {P:Program} {g:Cfg} {n:Nat} {ro:Option Nat} {Q:Exit→Frm→Heap→Prop} {fr:Frm} {h:Heap}
def zNK (ro:Option Nat) (h:Heap):Prop:=
 match ro with
 |none=>True
 |some id=>∃r,h.at' id=some (.loop r)
@[go_sem ↓] theorem zXa:zNK none h=True:=(rfl)
@[go_sem ↓] theorem zi5 (f:FuncId) (a c args:List D) (K:D→Heap→Prop):VFn P (.fn (.func f) a c) args h K=zA P f (a++args++c) h K:=(rfl)
@[go_sem ↓] theorem zVG (f:Operand) (ps:Array Tmp) (asg body:Code):vwp P g n ro (.rangeFunc f ps asg body) Q fr h =
  (zNK ro h∧VFn P (zz fr f) [.yld h.next] (h.new h.next (.loop ⟨.ready,none,fr,ps,asg,body,n⟩)) fun _ h'=>∃r,h'.at' h.next=some (.loop r)∧r.st≠ .busy∧zLK r.pending Q fr (h'.del h.next)):=by
 cases ro<;>simp only[vwp,zNK]
theorem zBt:zLK none Q fr h=Q .normal fr h:=(rfl)
theorem zLo:zLK (some .ret) Q fr h=Q .ret fr h:=(rfl)
@[go_sem ↓] theorem zbA (t:Tmp) (ts:List Tmp) (d:D) (ds:List D):zE3 fr (t::ts) (d::ds)=zE3 (zAe fr (some t) d) ts ds:=(rfl)
@[go_sem ↓] theorem zdY:zE3 fr [] []=fr:=(rfl)
def zFq (K:D→Heap→Prop) (id:Nat) (e:Exit) (_:Frm) (h2:Heap):Prop:=∃L2,h2.at' id=some (.loop L2)∧zJw K id L2 e h2
theorem wP {K:D→Heap→Prop} {id:Nat} {L:LRec} (hL:h.at' id=some (.loop L)) (hk:K (.bool true) (h.set id (.loop { L with st:= .ready,pending:=none }))):zFq K id .normal fr h:=⟨L,hL,hk⟩
theorem zI3 {K:D→Heap→Prop} {id:Nat} {L:LRec} (hL:h.at' id=some (.loop L)) (hk:K (.bool false) (h.set id (.loop { L with st:= .done,pending:=some .ret }))):zFq K id .ret fr h:=⟨L,hL,hk⟩
theorem qp.round (hmix:P.follows .mixedOrders=true) {id:Nat} {args:List D} {K:D→Heap→Prop} {ps:Array Tmp} {asg body:Code} (hL:h.at' id=some (.loop ⟨.ready,none,fr,ps,asg,body,n⟩)) (hlen:args.length=ps.size)
  (hps:ps.toList.all (fun t=>decide (t<n))=true) (ok1:qi P g n asg=true) (ok2:qi P g n body=true)
  (hv:vwp P g n (some id) asg (zDf (fun fr1 h1=>h1.at' id=some (.loop ⟨.ready,none,fr,ps,asg,body,n⟩)∧vwp P g n (some id) body (zFq K id) fr1 (h1.set id (.loop ⟨.busy,none,fr,ps,asg,body,n⟩))) (fun _ _ _=>False)) (zE3 fr ps.toList args) h):qp P id args h K:=by
 refine qp.of_round (g:=g) hmix hL hlen hps ok1 ok2 (qy asg (fun e fr1 h1 hq=> ?_) _ _ hv);cases e with
 |normal=>exact⟨_,hq.1,rfl,hq.2⟩
 |_=>exact hq.elim
structure Yld (P:Program) (id:Nat) (len:Nat) (el:Nat→List D) (Y:Nat→(Nat→Prop)→Heap→Prop) (Z:(Nat→Prop)→Heap→Prop):Prop where
 here:∀k S h,Y k S h→∀i,S i→i<h.next
 loc:∀k S h h',Y k S h→h.next≤h'.next→(∀i,S i→h'.at' i=h.at' i)→Y k S h'
 hereZ:∀S h,Z S h→∀i,S i→i<h.next
 locZ:∀S h h',Z S h→h.next≤h'.next→(∀i,S i→h'.at' i=h.at' i)→Z S h'
 go:∀k S h,k<len→Y k S h→qp P id (el k) h fun r h'=>∃S',(∀i,S' i→S i∨h.next≤i)∧But S h h'∧((r= .bool true∧Y (k+1) S' h')∨(r= .bool false∧Z S' h'))
theorem Yld.ext {id len:Nat} {el:Nat→List D} {Y:Nat→(Nat→Prop)→Heap→Prop} {Z:(Nat→Prop)→Heap→Prop} (y:Yld P id len el Y Z) {k:Nat} {S:Nat→Prop} {h h':Heap} (hy:Y k S h) (he:Ext h h'):Y k S h':=
 y.loc k S h h' hy he.1 fun i hi=>he.2 i (y.here k S h hy i hi)
end
section
variable {P:Program} {sz:Nat}
theorem qR {xs:List (List D)} (hx:∀x∈xs,x.length=sz):xs.flatten.length=xs.length*sz:=by
 induction xs with
 |nil=>simp
 |cons x xs ih=>rw[List.flatten_cons,List.length_append,hx x (by simp),ih (fun y hy=>hx y (by simp[hy])),List.length_cons,Nat.succ_mul];omega
theorem zHS:∀ {xs:List (List D)} (_:∀x∈xs,x.length=sz) {i:Nat} {x:List D} (_:xs[i]? =some x),(xs.flatten.drop (i*sz)).take sz=x
 | [],_,i,x,h=>by simp at h
 |y::xs,hx,0,x,h=>by
  simp only[List.getElem?_cons_zero,Option.some.injEq] at h;subst h;rw[Nat.zero_mul,List.drop_zero,List.flatten_cons,List.take_append_of_le_length (by rw[hx y (by simp)];exact Nat.le_refl _),List.take_of_length_le (by rw[hx y (by simp)];exact Nat.le_refl _)]
 |y::xs,hx,i+1,x,h=>by
  simp only[List.getElem?_cons_succ] at h;have hy:=hx y (by simp);rw[List.flatten_cons,Nat.succ_mul,Nat.add_comm,List.drop_append,List.drop_of_length_le (by omega),List.nil_append,show sz+i*sz-y.length=i*sz by omega];exact zHS (fun z hz=>hx z (by simp[hz])) h
theorem zO0:∀ {xs:List (List D)} (_:∀x∈xs,x.length=sz) {i:Nat} (_:i<xs.length) {x:List D} (_:x.length=sz),y8 xs.flatten x (i*sz)=(xs.set i x).flatten
 | [],_,i,h,x,_=>by simp at h
 |y::xs,hx,0,h,x,hl=>by
  have hy:=hx y (by simp);simp only[y8,Nat.zero_mul,List.take_zero,List.nil_append,Nat.zero_add,List.flatten_cons,List.set_cons_zero];rw[List.drop_append,List.drop_of_length_le (by omega),List.nil_append,show x.length-y.length=0 by omega,List.drop_zero]
 |y::xs,hx,i+1,h,x,hl=>by
  have hy:=hx y (by simp);have ih:=zO0 (xs:=xs) (fun z hz=>hx z (List.mem_cons_of_mem _ hz)) (i:=i) (by simpa using h) hl;simp only[y8] at ih⊢;rw[List.flatten_cons,List.set_cons_succ,List.flatten_cons,←ih,Nat.succ_mul,Nat.add_comm (i*sz) sz,List.take_append,List.take_of_length_le (by omega),show sz+i*sz-y.length=i*sz by omega,List.drop_append,List.drop_of_length_le (by omega),List.nil_append,show sz+i*sz+x.length-y.length=i*sz+x.length by omega];simp
theorem qk {t e:TypeId} {id len:Nat} (he:yr P t=some e) (hz:szT P e=sz) {k:IntKind} {i:Nat} (hi:i<len):zR P t (.rs id sz 0 len) (.int k (i:Int))=some (.ptr id (i*sz)):=by
 simp[zR,he,hz,hi]
theorem zHT {t e:TypeId} {id off len:Nat} {h:Heap} (hu:P.underlying t=some (.slice e)):zAd P t (.rs id sz off len) h=some (.int .i64 len):=by simp[zAd,hu]
theorem zDB {xs:List (List D)} (hx:∀x∈xs,x.length=sz) (h0:0<sz) {i:Nat} {x:List D} (hi:xs[i]? =some x):ze true sz xs.flatten (i*sz)=some (.agg x):=by
 have hlt:i<xs.length:=(List.getElem?_eq_some_iff.1 hi).1;have h1:i*sz+sz≤xs.length*sz:=by rw[←Nat.succ_mul];exact Nat.mul_le_mul_right _ hlt
 simp only[ze,if_true];rw[if_neg (by omega),if_pos (by rw[qR hx];exact h1),zHS hx hi]
theorem zNL {t:TypeId} {xs:List (List D)} {h:Heap} {id:Nat} (hr:h.at' id=some (.row xs.flatten)) (hx:∀x∈xs,x.length=sz) (h0:0<sz) (hs:szT P t=sz) {i:Nat} (hi:i<xs.length) {x:List D} (hl:x.length=sz) (hf:x.all D.flat=true):
  zW P t (.ptr id (i*sz)) (.agg x) h=some (h.set id (.row (xs.set i x).flatten)):=by
 have h1:i*sz+sz≤xs.length*sz:=by rw[←Nat.succ_mul];exact Nat.mul_le_mul_right _ hi
 simp only[zW,hr,D.cells,hs,hl];rw[if_pos,zO0 hx hi hl];simp only[Bool.and_eq_true,decide_eq_true_eq,ne_eq];refine⟨⟨⟨by omega,trivial⟩,by rw[qR hx];exact h1⟩,hf⟩
theorem zAN {xs:List (List D)} (hx:∀x∈xs,x.length=sz):yT sz xs.length xs.flatten=xs:=by
 have:=zAq sz xs [] 0 hx;simpa [yT] using this
theorem zLp {t e:TypeId} {xs:List (List D)} {tk:Tk} {h:Heap} {nid:Nat} (he:yr P t=some e) (hz:zGM P e=true) (hs:szT P e=sz) (h0:0<sz) (hx:∀x∈xs,x.length=sz) (hb:xs.length*yY P e≤lim) (hl:xs.length≤lim):
  zZ P false nid t (.sl sz [] .full) (.sl sz xs tk) h=if xs.length=0 then some (.sl sz [] .full,h) else some (.sl sz xs (.own nid),h.new nid .tok):=by
 simp only[zZ,he,hz,hs,zKy,if_true,qR hx,Nat.mul_div_cancel _ h0,yk];rw[if_pos (by simp only[List.length_nil,Nat.zero_add,Bool.and_eq_true,decide_eq_true_eq];exact⟨⟨trivial,hb⟩,hl⟩)];simp only[Bool.false_eq_true,if_false,zAN hx,List.nil_append]
theorem zEW {t e:TypeId} {xs:List (List D)} {tk:Tk} {h:Heap} {nid:Nat} (he:yr P t=some e) (hz:zGM P e=true) (hs:szT P e=sz) (h0:0<sz) (hx:∀x∈xs,x.length=sz) (hb:xs.length*yY P e≤lim) (hl:xs.length≤lim):
  zZ P true nid t (.sl sz [] .full) (.sl sz xs tk) h=if xs.length=0 then some (.sl sz [] .full,h) else some (.rs nid sz 0 xs.length,h.new nid (zAX P e xs.flatten)):=by
 simp only[zZ,he,hz,hs,zKy,if_true,qR hx,Nat.mul_div_cancel _ h0,yk];rw[if_pos (by simp only[List.length_nil,Nat.zero_add,Bool.and_eq_true,decide_eq_true_eq];exact⟨⟨trivial,hb⟩,hl⟩)];simp only[List.length_nil,Nat.zero_add,List.flatten_nil,List.nil_append]
theorem zI4 {e:TypeId} {cs:List D} (hu:P.underlying e=some .string):zAX P e cs= .row cs:=by simp[zAX,hu]
theorem zCC {e:TypeId} {fs:Array Field} {cs:List D} (hu:P.underlying e=some (.struct fs)):zAX P e cs= .row cs:=by simp[zAX,hu]
theorem zSu {e:TypeId} {cs:List D} (hu:P.underlying e=some (.int .u8)):zAX P e cs= .trow e false cs:=by simp[zAX,hu]
end
theorem zHU (W:World) (b:Nat) (c':Array Value):Go.Sort.mapBlock W b (fun _=>c')=W.setRow b c':=by
 unfold Go.Sort.mapBlock World.setRow;congr 1
section
variable {w0:Base} {G:List Nat} {M:Imm} {ρ:Ren} {h:Heap} {w:World}
theorem Sim.ahead (hs:Sim w0 G M ρ h w):∀q:Nat,Sim w0 G M ρ h (Go.Sort.ahead w q)
 |0=>hs
 |q+1=>by
  have:=(Sim.ahead hs q).drew
  rwa [Go.Sort.ahead_drew] at this
theorem Sim.putRow {α:Type} [Inhabited α] {enc:α→Value} {dd:α→D} (hfl:∀x,(dd x).flat=true) (hs:Sim w0 G M ρ h w) {id:Nat} {pre post:List D} {xs ys:List α} (hi:h.at' id=some (.row (pre++xs.map dd++post))) {l:Loc} (hl:ρ id=some l)
  (hlen:ys.length=xs.length) (hy:∀y∈ys,rel M ρ (dd y) (enc y)):Sim w0 G M ρ (h.set id (.row (pre++ys.map dd++post))) (Go.Sort.putRow enc w l.blk pre.length ys.toArray):=by
 obtain⟨l',h1,_,hM,c,e,hw,hls,hcl,hcells⟩:=hs.live id _ hi;rw[hl] at h1;cases h1;have hL:(pre++xs.map dd++post).length=pre.length+xs.length+post.length:=by simp;omega
 have hL2:(pre++ys.map dd++post).length=pre.length+xs.length+post.length:=by simp[hlen];omega
 unfold Go.Sort.putRow;rw[Go.Sort.mapBlock_congr w l.blk (Go.Sort.putCells enc pre.length ys.toArray) (fun _=>Go.Sort.putCells enc pre.length ys.toArray c) (fun c1 e1 fr1 h1=>by rw[hw] at h1;cases h1;rfl),zHU];have hsz:(Go.Sort.putCells enc pre.length ys.toArray c).size=c.size:=by simp[Go.Sort.putCells]
 refine hs.setRow hi hl hw hsz (by rw[hsz,hL2,←hL];exact hcl) (yD (by
  have e:(Go.Sort.putCells enc pre.length ys.toArray c).toList.length=c.size:=by rw[Array.length_toList];exact hsz
  rw[List.length_take,e];omega) fun i d v hd hv=> ?_) ?_
 ·have hlt:i<(pre++ys.map dd++post).length:=(List.getElem?_eq_some_iff.1 hd).1;rw[List.getElem?_take,if_pos hlt,Array.getElem?_toList] at hv;simp only[Go.Sort.putCells,Array.getElem?_mapIdx] at hv;obtain⟨v0,hv0,rfl⟩:=Option.map_eq_some_iff.1 hv;by_cases hin:pre.length≤i∧i<pre.length+ys.toArray.size
  ·rw[if_pos hin];have h2:i-pre.length<ys.length:=by have:=hin.2;simp only[List.size_toArray] at this;omega
   rw[List.append_assoc,List.getElem?_append_right hin.1,List.getElem?_append_left (by simpa using h2),List.getElem?_map,List.getElem?_eq_getElem h2] at hd;cases hd;rw[getElem!_pos ys.toArray (i-pre.length) (by simpa using h2)];exact hy _ (by simp)
  ·rw[if_neg hin];have hd':(pre++xs.map dd++post)[i]? =some d:=by
    simp only[List.size_toArray,not_and,Nat.not_lt] at hin;by_cases hp:i<pre.length
    ·rw[List.append_assoc,List.getElem?_append_left hp] at hd⊢;exact hd
    ·have hq:=hin (by omega);rw[List.getElem?_append_right (by simp;omega)] at hd⊢;simpa [hlen] using hd
   obtain⟨_,u,e1,e2⟩:=hcells i d hd';rw[hv0] at e1;cases e1;exact e2
 ·rw[List.all_append,List.all_append];have h1:pre.all D.flat=true:=List.all_eq_true.2 fun d hd=>by
   obtain⟨i,hi'⟩:=List.mem_iff_getElem?.1 hd;have hlt:=(List.getElem?_eq_some_iff.1 hi').1;exact(hcells i d (by rw[List.append_assoc,List.getElem?_append_left hlt];exact hi')).1
  have h3:post.all D.flat=true:=List.all_eq_true.2 fun d hd=>by
   obtain⟨i,hi'⟩:=List.mem_iff_getElem?.1 hd;exact(hcells (pre.length+xs.length+i) d (by rw[List.getElem?_append_right (by simp)];simpa using hi')).1
  rw[h1,h3,List.all_eq_true.2 fun d hd=>by obtain⟨y,_,rfl⟩:=List.mem_map.1 hd;exact hfl y];rfl
end
theorem zA.of_row {P:Program} {f:FuncId} {α:Type} [Inhabited α] {enc:α→Value} {dd:α→D} (hinv:∀M ρ x v,rel M ρ (dd x) v→v=enc x) (hfl:∀x,(dd x).flat=true) {xs ys:List α} {m:Nat} {rest:List D} {id:Nat} {pre post:List D} {h:Heap}
  (he:qV P f=true) (hrow:h.at' id=some (.row (pre++xs.map dd++post))) (h0:0<xs.length) (hlen:ys.length=xs.length) (hm:m≤xs.length) (hy:∀y∈ys,y∈xs∨∀M ρ,rel M ρ (dd y) (enc y))
  (hc:∀ (blk o cap:Nat) (w:World) (M:Imm) (ρ:Ren) (va:List Value),Go.Sort.Holds enc w blk o xs.toArray→xs.length≤cap→cap≤9223372036854775807→zy M ρ rest va→
   Calls P f (.slice (some ⟨blk,o,none⟩) xs.length cap::va).toArray w fun e w'=>e= .returned (.slice (some ⟨blk,o,none⟩) m cap)∧∃q,w'=Go.Sort.putRow enc (Go.Sort.ahead w q) blk o ys.toArray):
  zA P f (.rs id 1 pre.length xs.length::rest) h fun d h'=>d= .rs id 1 pre.length m∧h'=h.set id (.row (pre++ys.map dd++post)):=by
 refine⟨he,fun w0 G M ρ w va hg0 hs hfr hr=> ?_⟩;simp only[zy] at hr;obtain⟨v,vs',hva,hv,hrest⟩:=hr;simp only[rel] at hv;obtain⟨_,hlim,l,cap,o,hl,rfl,⟨hc1,hc2⟩,hsz,ho⟩:=hv;have ho:o=pre.length:=by
  rcases ho with hz|ho
  ·omega
  ·exact ho
 subst ho;obtain⟨l',h1,hkeep,hM,c,e,hw,hls,hcl,hcells⟩:=hs.live id _ hrow;rw[hl] at h1;cases h1;have hcell:∀ (j:Nat) (hj:j<xs.length),∃v,c[pre.length+j]? =some v∧rel M ρ (dd xs[j]) v:=fun j hj=>by
  obtain⟨_,v,e1,e2⟩:=hcells (pre.length+j) (dd xs[j]) (by
   rw[List.append_assoc,List.getElem?_append_right (by omega),Nat.add_sub_cancel_left,List.getElem?_append_left (by simpa using hj),List.getElem?_map,List.getElem?_eq_getElem hj];rfl)
  exact⟨v,e1,e2⟩
 have hholds:Go.Sort.Holds enc w l.blk pre.length xs.toArray:=fun j hj=>by
  have hj':j<xs.length:=by simpa using hj
  obtain⟨v,e1,e2⟩:=hcell j hj';refine⟨?_,by simp[World.frozen?,hw]⟩;rw[getElem!_pos xs.toArray j hj];simp only[World.cell?,hw,Option.isSome_none,Bool.false_eq_true,if_false,e1,hinv _ _ _ _ e2,List.getElem_toArray]
 have hva':va=(.slice (some ⟨l.blk,pre.length,none⟩) xs.length cap::vs').toArray:=Array.ext' (by simpa using hva);rw[hva'];refine(hc l.blk pre.length cap w M ρ vs' hholds hc1 (by simpa [maxLen] using hc2) hrest).mono fun e w' hq=> ?_;obtain⟨rfl,q,rfl⟩:=hq;have hrel:∀y∈ys,rel M ρ (dd y) (enc y):=fun y hyy=>by
  rcases hy y hyy with hx|hx
  ·obtain⟨j,hj,rfl⟩:=List.mem_iff_getElem.1 hx;obtain⟨v,_,e2⟩:=hcell j hj;have:=hinv _ _ _ _ e2;rw[←this];exact e2
  ·exact hx M ρ
 have hS:=(hs.ahead q).putRow hfl (enc:=enc) hrow hl hlen hrel;refine⟨_,M,ρ, .rs id 1 pre.length m,_,rfl,MLe.refl _,RLe.refl _,hS,hfr,?_,rfl,rfl⟩;simp only[rel];exact⟨by omega,by omega,l,cap,pre.length,hl,rfl,⟨by omega,hc2⟩,hsz, .inr rfl⟩
theorem zXb {M:Imm} {ρ:Ren} {x:List UInt8} {v:Value} (h:rel M ρ (.str x) v):v= .string ⟨x.toArray⟩:=by
 simp only[rel] at h;obtain⟨b,rfl,rfl,_⟩:=h;simp
abbrev Way:=Nat×Fl×Bool
def onO (o:Option Oper) (k:Oper→Prop):Prop:=
 match o with
 |some o=>k o
 |none=>False
def zLq (P:Program) (h0:Heap) (o:Op) (ev:Operand→D) (k:D→Prop):Prop:=
 match o with
 | .load t a=>onS (zBi P t (ev a) h0) k
 |o=>∃d,zWP P h0 o ev d∧k d
def zVH (P:Program) (mu:Tmp→Bool) (h0:Heap) (st:Fl) (ops:Array Oper) (o:Oper) (fr:Frm) (h:Heap) (k:D→Heap→Prop):Prop:=
 match y9 ops fr o.guard with
 |false=>k wA h
 |true=>match st with
  | .st=>zLq P h0 o.op (zz fr) fun d=>k d h
  | .no=>qn P (zFh mu o.dst) h.next o.op (zz fr) h k
  | .qu=>qn P (zFh mu o.dst) h.next o.op (zz fr) h fun d h'=>h'=h∧k d h
  | .al i=>qn P (zFh mu o.dst) (h0.next+i) o.op (zz fr) h k
def zLr (P:Program) (mu:Tmp→Bool) (h0:Heap) (ops:Array Oper):List Way→(Frm→Heap→Prop)→Frm→Heap→Prop
 | [],K,fr,h=>K fr h
 |w::rest,K,fr,h=>onO ops[w.1]? fun o=>zVH P mu h0 w.2.1 ops o fr h fun d h'=>(w.2.2=true→HLe h0 h')∧zLr P mu h0 ops rest K (zAe fr o.dst d) h'
def zI5 (bk:Nat→Bool):Bool→List (Nat×Fl)→List Way→Bool
 |_,[],[]=>true
 |fl,x::xs,w::ws=>Nat.beq x.1 w.1&&(match x.2 with
  | .no=>match w.2.1 with
   | .no=>true
   |_=>false
  | .st=>match w.2.1 with
   | .st=>true
   |_=>false
  | .qu=>match w.2.1 with
   | .qu=>true
   |_=>false
  | .al i=>match w.2.1 with
   | .al j=>Nat.beq i j
   |_=>false)&&(w.2.2|| !(fl&& !bk x.1))&&zI5 bk (fl&& !bk x.1) xs ws
 |_,_,_=>false
section
variable {P:Program} {g:Cfg} {n:Nat} {ro:Option Nat} {Q:Exit→Frm→Heap→Prop} {fr:Frm} {h:Heap} {mu:Tmp→Bool} {h0:Heap}
theorem zSv {t:TypeId} {a:Operand} {ev:Operand→D} {d:D} (hv:zBi P t (ev a) h0=some d):zWP P h0 (.load t a) ev d:=by
 intro h' hle;simp only[qn,qK,vop,zOK hle hv,Option.map_some];exact⟨trivial,trivial⟩
theorem zZV {st:Fl} {ops:Array Oper} {o:Oper} {k:D→Heap→Prop} (hv:zVH P mu h0 st ops o fr h k):ux P mu h0 st ops o fr h k:=by
 unfold zVH at hv;unfold ux;split at hv
 ·rename_i hg;rw[hg];exact hv
 ·rename_i hg;rw[hg];cases st with
  |st=>
   simp only at hv⊢;unfold zLq at hv;split at hv
   ·rename_i t a ho;rw[ho];unfold onS at hv;split at hv
    ·rename_i d hd;exact⟨d,zSv hd,hv⟩
    ·exact hv.elim
   ·exact hv
  |_=>exact hv
theorem zI6 {bk:Nat→Bool} {ops:Array Oper} {K:Frm→Heap→Prop} :∀ {l:List (Nat×Fl)} {ws:List Way} {fl:Bool} {fr:Frm} {h:Heap},zI5 bk fl l ws=true→zLr P mu h0 ops ws K fr h→zAa P mu h0 bk ops fl l K fr h
 | [],[],_,fr,h,_,hv=>hv
 | [],_::_,_,_,_,hw,_=>by simp[zI5] at hw
 |_::_,[],_,_,_,hw,_=>by simp[zI5] at hw
 |(i,st)::l,(j,st',b)::ws,fl,fr,h,hw,hv=>by
  simp only[zI5,Bool.and_eq_true] at hw;obtain⟨⟨⟨w1,w2⟩,w3⟩,w4⟩:=hw;have e1:i=j:=Nat.eq_of_beq_eq_true w1;have e2:st=st':=by
   cases st<;>cases st'<;>simp only at w2<;>(first|rfl|(cases w2;done)|skip)
   rw[Nat.eq_of_beq_eq_true w2]
  subst e1;subst e2;simp only[zLr] at hv;simp only[zAa];unfold onO at hv;split at hv
  ·rename_i o ho;rw[ho];refine zE1 (fun d h' hx=>⟨fun hb=>hx.1 ?_,zI6 w4 hx.2⟩) (zZV hv);cases b with
   |true=>rfl
   |false=>rw[hb] at w3;simp at w3
  ·exact hv.elim
theorem qG (h0:Heap) (ws:List Way) {id:Nat} {l:List Oper} (hw:zI5 (zUB P g.mu l.toArray (g.dr id) (zF5 l 0 [])) ((g.dr id).any (·.2.isSt)) (g.dr id) ws=true) (hal:Nat.beq (alN (g.dr id)) 0=true) (hle:HLe h0 h)
  (hv:zLr P g.mu h0 l.toArray ws (Q .normal) fr h):vwp P g n ro (.region id l.toArray true) Q fr h:=by
 rw[zOQ];refine⟨h0,hle,?_⟩;rw[zEE (Nat.eq_of_beq_eq_true hal)];exact zI6 hw hv
def wV:Nat→List (Nat×Fl)→List Oper→Bool
 |_,[],[]=>true
 |k,x::xs,_::os=>Nat.beq x.1 k&&x.2.isNo&&wV (k+1) xs os
 |_,_,_=>false
theorem zI7 {bk:Nat→Bool} {ops:Array Oper} {K:Frm→Heap→Prop} {h0:Heap} :∀ {l:List (Nat×Fl)} {os pre:List Oper} {fr:Frm} {h:Heap},ops.toList=pre++os→wV pre.length l os=true→zH9 P mu ops os K fr h→zAa P mu h0 bk ops false l K fr h
 | [],[],_,fr,h,_,_,hv=>hv
 | [],_::_,_,_,_,_,hw,_=>by simp[wV] at hw
 |_::_,[],_,_,_,_,hw,_=>by simp[wV] at hw
 |(i,st)::l,o::os,pre,fr,h,hp,hw,hv=>by
  simp only[wV,Bool.and_eq_true] at hw;obtain⟨⟨w1,w2⟩,w3⟩:=hw;have e1:i=pre.length:=Nat.eq_of_beq_eq_true w1;subst e1;have ho:ops[pre.length]? =some o:=by rw[←Array.getElem?_toList,hp];simp
  have hst:st= .no:=by cases st<;>simp[Fl.isNo] at w2<;>rfl
  subst hst;simp only[zAa,ho,Bool.false_and];simp only[zH9] at hv;have ih:∀fr h,zH9 P mu ops os K fr h→zAa P mu h0 bk ops false l K fr h:=fun fr h hv=>zI7 (pre:=pre++ [o]) (by simp[hp]) (by simpa using w3) hv;unfold ux;split at hv
  ·rename_i hg;rw[hg];exact zA7 (fun d h' hx=>⟨fun e=>(by cases e),ih _ _ hx⟩) hv
  ·rename_i hg;rw[hg];exact⟨fun e=>(by cases e),ih _ _ hv⟩
theorem zFr:∀ {l:List (Nat×Fl)} {os:List Oper} {k:Nat},wV k l os=true→l.any (·.2.isSt)=false∧alN l=0
 | [],[],_,_=>⟨rfl,rfl⟩
 | [],_::_,_,hw=>by simp[wV] at hw
 |_::_,[],_,hw=>by simp[wV] at hw
 |(i,st)::l,o::os,k,hw=>by
  simp only[wV,Bool.and_eq_true] at hw;obtain⟨h1,h2⟩:=zFr hw.2;have hst:st= .no:=by have:=hw.1.2;cases st<;>simp[Fl.isNo] at this<;>rfl
  subst hst;exact⟨by rw[List.any_cons,h1];rfl,by simp only[alN,h2]⟩
theorem zi {id:Nat} {l:List Oper} (ht:wV 0 (g.dr id) l=true) (hv:zH9 P g.mu l.toArray l (Q .normal) fr h):vwp P g n ro (.region id l.toArray true) Q fr h:=by
 obtain⟨h1,h2⟩:=zFr ht;rw[zOQ];refine⟨⟨0,fun _=>none⟩,fun i ob e=>(by cases e),?_⟩;rw[zEE h2,h1];exact zI7 (pre:=[]) rfl ht hv
end
section
variable {P:Program} {mu:Tmp→Bool} {h0:Heap} {ops:Array Oper} {l:List Oper} {K:Frm→Heap→Prop} {k:D→Heap→Prop} {fr:Frm} {h:Heap} {dst:Option Tmp} {ty:TypeId} {pos:String} {after:Array Edge} {rest:List Way}
@[congr] theorem zdZ {o o':Option Oper} {k:Oper→Prop} (h:o=o'):onO o k=onO o' k:=by rw[h]
@[go_sem ↓] theorem zda:zLr P mu h0 ops [] K fr h=K fr h:=(rfl)
@[go_sem ↓] theorem zbB (w:Way):zLr P mu h0 l.toArray (w::rest) K fr h=onO l[w.1]? fun o=>zVH P mu h0 w.2.1 l.toArray o fr h fun d h'=>(w.2.2=true→HLe h0 h')∧zLr P mu h0 l.toArray rest K (zAe fr o.dst d) h':=by
 simp only[zLr,List.getElem?_toArray]
@[go_sem ↓] theorem zep (o:Oper) (k:Oper→Prop):onO (some o) k=k o:=(rfl)
@[go_sem ↓] theorem zhG (op:Op):zVH P mu h0 .no ops ⟨dst,op,ty,pos,after,none⟩ fr h k=qn P (zFh mu dst) h.next op (zz fr) h k:=(rfl)
@[go_sem ↓] theorem zhH (op:Op):zVH P mu h0 .st ops ⟨dst,op,ty,pos,after,none⟩ fr h k=zLq P h0 op (zz fr) fun d=>k d h:=(rfl)
@[go_sem ↓] theorem zZW (t:TypeId) (a:Operand) (k:D→Prop):zLq P h0 (.load t a) (zz fr) k=onS (zBi P t (zz fr a) h0) k:=(rfl)
@[go_sem ↓] theorem zbC (st:Fl) (op:Op) (j:Nat) (b:Bool):zVH P mu h0 st ops ⟨dst,op,ty,pos,after,some (j,b)⟩ fr h k =
  gif (y9 ops fr (some (j,b))) (zVH P mu h0 st ops ⟨dst,op,ty,pos,after,none⟩ fr h k) (k wA h):=by
 unfold zVH gif;cases y9 ops fr (some (j,b))<;>rfl
end
def zdb:D→Bool
 | .nilsl=>true
 |_=>false
section
variable {P:Program} {t e:TypeId} {c:Bool} {sz:Nat} {xs:List (List D)} {d:D}
theorem zCD (hd:zX sz xs d) (hu:P.underlying t=some (.slice e)):zD1 P .eql t c d .nilsl=some (.bool (zdb d)):=by
 rcases hd with⟨rfl,rfl⟩ | ⟨tk,rfl⟩ <;>simp[zD1,zWJ,zAk,veq,hu,zdb]
theorem zAg {nid:Nat} {z:D} {h:Heap} (he:yr P t=some e) (hz:qS P e=some z) (hs:szT P e=sz) (hzt:z.notTuple=true) (hzl:z.cells.length=sz) (h0:0<sz):zS P false nid t 0 [] h=some (.sl sz [] .full,h):=by
 simp only[zS,he,hz,hs];rw[if_pos (by simp[hzt,hzl,h0])];simp[wl,yT]
end
theorem zdc {id sz len:Nat} {cs:List D} {xs:List (List D)} (hx:∀x∈xs,x.length=sz) (hl:xs.length=len) (hc:cs=xs.flatten):frz id cs (.rs id sz 0 len)= .sl sz xs .no:=by
 subst hc hl;simp only[frz];rw[if_pos ⟨trivial,by rw[qR hx];omega⟩,List.drop_zero,List.take_of_length_le (by rw[qR hx];omega),zAN hx]
def Heap.Ok (h:Heap):Prop:=∀i,h.next≤i→h.at' i=none
theorem zA.known {P:Program} {f:FuncId} {args:List D} {h:Heap} {Q:D→Heap→Prop} (he:qV P f=true) (hv:yB h.next args→h.Ok→zA P f args h Q):zA P f args h Q:=by
 refine⟨he,fun w0 G M ρ w va hg0 hs hfr hr=>(hv (zAJ hfr _ _ hr) fun i hi=> ?_).2 w0 G M ρ w va hg0 hs hfr hr⟩;cases hz:h.at' i with
 |none=>rfl
 |some ob=>
  obtain⟨l,hl,_⟩:=hs.live i ob hz;rw[hfr i hi] at hl;cases hl
theorem Ext.hle {h h':Heap} (hok:h.Ok) (he:Ext h h'):HLe h h':=fun i ob e=>by
 by_cases hi:i<h.next
 ·rw[he.2 i hi];exact e
 ·rw[hok i (by omega)] at e;cases e
theorem zA.pure {P:Program} {f:FuncId} {args:List D} {h:Heap} {Q:D→Prop} (he:qV P f=true) (hv:h.Ok→zA P f args h fun d h'=>Ext h h'∧below h.next d∧Q d):zA P f args h fun d h'=>h'=h∧Q d:=
 zA.known he fun _ hok=>zA.gc (fun _=>(hv hok).mono fun _ _ hx=>⟨hx.1.hle hok,hx.2.1,hx.2.2⟩) he
theorem yN {sz:Nat} {xs:List (List D)} (hx:∀x∈xs,zCj x) (tk:Tk):yC (.sl sz xs tk)= .sl sz xs .no∧below 0 (.sl sz xs .no):=by
 have h2:zCP xs=xs:=zLn fun x h=>(hx x h).2.2;simp only[yC,h2,below,and_true,true_and];exact zLm fun x h=>(hx x h).2.1
section
variable {P:Program} {k:Nat} {t e:TypeId} {c:List D}
theorem zBc {q:IntKind} (hu:P.underlying t=some (.int q)) (h:Shp P k t c):∃n,c= [.int q n]∧fits q n:=by
 cases k with
 |zero=>simp only[Shp] at h
 |succ k=>simpa only[Shp,hu] using h
theorem zVI (hu:P.underlying t=some .bool) (h:Shp P k t c):∃b,c= [.bool b]:=by
 cases k with
 |zero=>simp only[Shp] at h
 |succ k=>simpa only[Shp,hu] using h
theorem qf (hu:P.underlying t=some .string) (h:Shp P k t c):∃s,c= [.str s]∧s.length≤1048576:=by
 cases k with
 |zero=>simp only[Shp] at h
 |succ k=>simpa only[Shp,hu] using h
theorem zBu {sz:Nat} (hu:P.underlying t=some (.slice e)) (hs:szT P e=sz) (h:Shp P k t c):∃d xs j,c= [d]∧j<k∧zX sz xs d∧(d= .nilsl∨d= .sl sz xs .no)∧xs.length≤1048576∧∀x∈xs,Shp P j e x:=by
 cases k with
 |zero=>simp only[Shp] at h
 |succ k=>
  simp only[Shp,hu] at h;rcases h with rfl| ⟨xs,rfl,h1,h2⟩
  ·exact⟨_,[],k,rfl,Nat.lt_succ_self _,zX.nil, .inl rfl,by simp,by simp⟩
  ·have:P.cellsOf e=sz:=hs;rw[this];exact⟨_,xs,k,rfl,Nat.lt_succ_self _,zX.mk _, .inr rfl,h1,h2⟩
theorem qM {fs:Array Field} (hu:P.underlying t=some (.struct fs)) (h:Shp P k t c):∃j,j<k∧zX4 P (Shp P j) fs.toList c:=by
 cases k with
 |zero=>simp only[Shp] at h
 |succ k=>exact⟨k,Nat.lt_succ_self _,by simpa only[Shp,hu] using h⟩
theorem zN {r:TypeId→List D→Prop} {f:Field} {fs:List Field} {cs:List D} (h:zX4 P r (f::fs) cs):∃c cs',cs=c++cs'∧r f.type c∧zX4 P r fs cs':=h
theorem wa {r:TypeId→List D→Prop} {cs:List D} (h:zX4 P r [] cs):cs= []:=h
end
section
variable {P:Program}
theorem zh {t:TypeId} {id off:Nat} {cs:List D} {x:D} {h:Heap} (hi:h.at' id=some (.row cs)) (hs:szT P t=1) (ho:off<cs.length) (hc:x.cells= [x]) (hf:x.flat=true):zW P t (.ptr id off) x h=some (h.set id (.row (cs.set off x))):=by
 have hp:y8 cs [x] off=cs.set off x:=by
  simp only[y8,List.length_singleton];rw[List.set_eq_take_append_cons_drop,if_pos ho];simp
 simp only[zW,hi,hs,hc,hp];rw[if_pos];simp[hf];omega
end
attribute [go_sem] true_and and_true true_implies implies_true false_implies
theorem zEX {h:Heap} {i:Nat} {o:Obj} (hi:h.at' i=some o):h.set i o=h:=by
 cases h with
 |mk n a=>
  simp only[Heap.set,Heap.mk.injEq,true_and]
  funext j
  by_cases hj:j=i
  ·subst hj;rw[if_pos rfl];exact hi.symm
  ·rw[if_neg hj]
theorem zFI (h:Heap) (i:Nat) (o o':Obj):(h.new i o).set i o'=h.new i o':=by
 simp only[Heap.set,Heap.new,Heap.mk.injEq,true_and]
 funext j
 by_cases hj:j=i<;>simp[hj]
theorem zg {P:Program} {t:TypeId} {n id:Nat} {cs cs':List D} {h:Heap} (hs:szT P t=n) (hn:0<n) (hl:cs.length=n) (hl':cs'.length=n) (hf:cs'.all D.flat=true):zW P t (.ptr id 0) (.agg cs') (h.new id (.row cs))=some (h.new id (.row cs')):=by
 subst hl';rw[qQ (zQ _ _ _) hs hl hn hf,zFI]
def wm:D→Nat→Prop
 | .sl _ _ (.own t),i=>i=t
 |_,_=>False
theorem wI.app2 {P:Program} {h:Heap} {sz:Nat} {xs ys:List (List D)} {d:D} {tk:Tk} {t e:TypeId} {K:D→Heap→Prop} (ho:wI h sz xs d) (he:yr P t=some e) (hz:zGM P e=true) (hs:szT P e=sz) (h0:0<sz) (hys:∀y∈ys,y.length=sz) (hy0:ys≠[])
  (hb:(xs.length+ys.length)*yY P e≤lim) (hl:xs.length+ys.length≤lim) (hK:∀d' h',wI h' sz (xs++ys) d'→h.next≤h'.next→(∀i,i<h.next→¬wm d i→h'.at' i=h.at' i)→(∀i,wm d' i→h.next≤i)→d'.cells= [d']→d'.flat=true→K d' h'):onR (zZ P false h.next t d (.sl sz ys tk) h) K:=by
 have hlen:0<ys.length:=List.length_pos_iff.2 hy0;simp only[zZ,he,hz,hs,zKy,if_true,qR hys,Nat.mul_div_cancel _ h0];rcases ho with⟨rfl,rfl⟩ | ⟨q,rfl,h1,h2⟩
 ·simp only[yk];rw[if_neg (by omega),if_pos (by simp only[Bool.and_eq_true,decide_eq_true_eq];simp only[List.length_nil,Nat.zero_add] at hb hl;exact⟨hb,hl⟩)];simp only[Bool.false_eq_true,if_false,zAN hys,zGV];refine hK _ _ (.inr ⟨h.next,by simp,zQ _ _ _,Nat.lt_of_lt_of_le (Nat.lt_succ_self _) (Nat.le_max_right _ _)⟩) (qd _ _ _) (fun i hi _=>zM (by omega)) (fun i hi=> ?_) rfl rfl;simp only[wm] at hi;omega
 ·simp only[yk];rw[if_pos (by simp only[Bool.and_eq_true,decide_eq_true_eq];exact⟨⟨trivial,hb⟩,hl⟩)];simp only[h1,Bool.false_eq_true,if_false,zAN hys,zGV];refine hK _ _ (.inr ⟨h.next,rfl,zQ _ _ _,Nat.lt_of_lt_of_le (Nat.lt_succ_self _) (Nat.le_max_right _ _)⟩) (qd (h.del q) _ _) (fun i hi hne=> ?_) (fun i hi=> ?_) rfl rfl
  ·simp only[wm] at hne;rw[zM (by omega),qP hne]
  ·simp only[wm] at hi;omega
def zbD (n0 sz:Nat) (L:LRec) (ps:List (List D)) (k:Nat) (S:Nat→Prop) (h:Heap):Prop:=
 n0+1<h.next∧h.at' (n0+1)=some (.loop L)∧∃d,h.at' n0=some (.row [d])∧wI h sz (ps.take k) d∧∀i,S i↔(i=n0∨i=n0+1∨wm d i)
theorem wI.tok {h:Heap} {sz:Nat} {xs:List (List D)} {d:D} (ho:wI h sz xs d) {i:Nat} (hi:wm d i):i<h.next∧h.at' i=some .tok:=by
 rcases ho with⟨rfl,_⟩ | ⟨t,rfl,h1,h2⟩
 ·exact hi.elim
 ·simp only[wm] at hi;subst hi;exact⟨h2,h1⟩
theorem wI.loc {h h':Heap} {sz:Nat} {xs:List (List D)} {d:D} (ho:wI h sz xs d) (hn:h.next≤h'.next) (hk:∀i,wm d i→h'.at' i=h.at' i):wI h' sz xs d:=by
 rcases ho with h1| ⟨t,rfl,h1,h2⟩
 ·exact .inl h1
 ·exact .inr ⟨t,rfl,by rw[hk t rfl];exact h1,by omega⟩
theorem zbD.here {n0 sz:Nat} {L:LRec} {ps:List (List D)} {k:Nat} {S:Nat→Prop} {h:Heap} (y:zbD n0 sz L ps k S h) (i:Nat) (hi:S i):i<h.next:=by
 obtain⟨h1,_,d,_,h3,h4⟩:=y;rcases(h4 i).1 hi with rfl|rfl|ht
 ·omega
 ·omega
 ·exact(h3.tok ht).1
theorem zbD.loc {n0 sz:Nat} {L:LRec} {ps:List (List D)} {k:Nat} {S:Nat→Prop} {h h':Heap} (y:zbD n0 sz L ps k S h) (hn:h.next≤h'.next) (hk:∀i,S i→h'.at' i=h.at' i):zbD n0 sz L ps k S h':=by
 obtain⟨h1,h2,d,h3,h4,h5⟩:=y;exact⟨by omega,by rw[hk _ ((h5 _).2 (.inr (.inl rfl)))];exact h2,d,by rw[hk _ ((h5 _).2 (.inl rfl))];exact h3,h4.loc hn fun i hi=>hk i ((h5 i).2 (.inr (.inr hi))),h5⟩
theorem Ext.of_but {S:Nat→Prop} {h h1 h2:Heap} (a:Ext h h1) (b:But S h1 h2) (hs:∀i,S i→h.next≤i):Ext h h2:=
 ⟨Nat.le_trans a.1 b.1,fun i hi=>by rw[b.2 i (by have:=a.1;omega) fun e=>by have:=hs i e;omega,a.2 i hi]⟩
def Fin (sz:Nat) (xs:List (List D)) (d:D):Prop:=(d= .nilsl∧xs= [])∨d= .sl sz xs .no
theorem Fin.isSl {sz:Nat} {xs:List (List D)} {d:D} (hf:Fin sz xs d):zX sz xs d:=by
 rcases hf with⟨rfl,rfl⟩ |rfl
 ·exact zX.nil
 ·exact zX.mk _
theorem wI.fin {h:Heap} {sz:Nat} {xs:List (List D)} {d:D} (ho:wI h sz xs d) (hx:∀x∈xs,zCj x):below 0 (yC d)∧Fin sz xs (yC d):=by
 rcases ho with⟨rfl,rfl⟩ | ⟨t,rfl,_⟩
 ·exact⟨trivial, .inl ⟨rfl,rfl⟩⟩
 ·rw[(yN hx _).1];exact⟨(yN hx .no).2, .inr rfl⟩
@[go_sem ↓] theorem zdd (a:Oper) (l m:List Oper):List.append (a::l) m=a::List.append l m:=(rfl)
@[go_sem ↓] theorem zeq (m:List Oper):List.append [] m=m:=(rfl)
@[go_sem ↓] theorem zer (a:Oper) (l:List Oper):(a::l)[0]? =some a:=(rfl)
@[go_sem ↓] theorem zes (a:Oper) (l:List Oper) (n:Nat):(a::l)[n+1]? =l[n]? :=(rfl)
def gdB:D→Bool→Bool
 | .bool x,b=>x==b
 |_,_=>false
def zde:Option Oper→Frm→Bool→Bool
 |some o,fr,b=>match o.dst with
  |some t=>gdB (fr t) b
  |none=>false
 |none,_,_=>false
@[go_sem ↓] theorem zZX (l:List Oper) (fr:Frm) (j:Nat) (b:Bool):y9 l.toArray fr (some (j,b))=zde l[j]? fr b:=by
 unfold y9 zde;simp only[List.getElem?_toArray];cases l[j]? with
 |none=>rfl
 |some o=>
  simp only[Option.bind_some];cases o.dst with
  |none=>rfl
  |some t=>
   simp only;cases fr t<;>rfl
@[congr] theorem zbE {o o':Option Oper} {fr:Frm} {b:Bool} (h:o=o'):zde o fr b=zde o' fr b:=by rw[h]
@[go_sem ↓] theorem zdf (t:Tmp) (op:Op) (ty:TypeId) (pos:String) (after:Array Edge) (gd:Option (Nat×Bool)) (fr:Frm) (b:Bool):zde (some ⟨some t,op,ty,pos,after,gd⟩) fr b=gdB (fr t) b:=(rfl)
@[go_sem ↓] theorem zet (x b:Bool):gdB (.bool x) b=(x==b):=(rfl)
@[go_sem ↓] theorem zdg (b:Bool):gdB wA b=false:=(rfl)
@[go_sem] theorem zi6:(true==true)=true:=(rfl)
@[go_sem] theorem zi7:(true==false)=false:=(rfl)
@[go_sem] theorem zi8:(false==true)=false:=(rfl)
@[go_sem] theorem zi9:(false==false)=true:=(rfl)
theorem zBG {P:Program} {g:Cfg} {n:Nat} {ro:Option Nat} {c:Code} {K:Frm→Heap→Prop} {Q:Exit→Frm→Heap→Prop} {fr:Frm} {h:Heap} (R:Frm→Heap→Prop) (h1:vwp P g n ro c (zDf R fun _ _ _=>False) fr h) (h2:∀fr h,R fr h→K fr h):vwp P g n ro c (zDf K Q) fr h:=
 qy c (fun e fr h hx=>by
  cases e with
  |normal=>exact h2 fr h hx
  |_=>exact hx.elim) fr h h1
end Go.V
