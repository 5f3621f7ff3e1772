/- Rules of the machine of abstract values, part 4. No condition. -/
import Derived.Test.YtalepjdbhjinhaaGreatDoorW22
import Derived.Test.YtalepjdbhjinhaaGreatDoorW17
import Derived.Test.YtalepjdbhjinhaaGreatDoorW18
import Derived.Test.YtalepjdbhjinhaaGreatDoorW21
set_option linter.all false
namespace Go.V
structure HidS (k:D→Prop) where
def zg8 (o:Option D) (k:D→Prop) (_:HidS k):Prop:=onS o k
@[go_sem ↓] theorem zc6 (o:Option D) (k:D→Prop):onS o k=zg8 o k ⟨⟩:=(rfl)
@[go_sem ↓] theorem zbs (d:D) (k:D→Prop) (w:HidS k):zg8 (some d) k w=k d:=(rfl)
structure HidR (k:D→Heap→Prop) where
def zXp (o:VR) (k:D→Heap→Prop) (_:HidR k):Prop:=onR o k
@[go_sem ↓] theorem zc7 (o:VR) (k:D→Heap→Prop):onR o k=zXp o k ⟨⟩:=(rfl)
@[go_sem ↓] theorem zbt (d:D) (h:Heap) (k:D→Heap→Prop) (w:HidR k):zXp (some (d,h)) k w=k d h:=(rfl)
structure HidH (k:Heap→Prop) where
def zg9 (o:Option Heap) (k:Heap→Prop) (_:HidH k):Prop:=onH o k
@[go_sem ↓] theorem zc8 (o:Option Heap) (k:Heap→Prop):onH o k=zg9 o k ⟨⟩:=(rfl)
@[go_sem ↓] theorem zbu (h:Heap) (k:Heap→Prop) (w:HidH k):zg9 (some h) k w=k h:=(rfl)
structure HidP (x y:Prop) where
def zbv (g:Bool) (x y:Prop) (_:HidP x y):Prop:=gif g x y
@[go_sem ↓] theorem zc9 (g:Bool) (x y:Prop):gif g x y=zbv g x y ⟨⟩:=(rfl)
@[go_sem ↓] theorem zbw (x y:Prop) (w:HidP x y):zbv true x y w=x:=(rfl)
@[go_sem ↓] theorem zZL (x y:Prop) (w:HidP x y):zbv false x y w=y:=(rfl)
def zTx (d:D) (x y:Prop) (_:HidP x y):Prop:=onB d x y
@[go_sem ↓] theorem zdA (d:D) (x y:Prop):onB d x y=zTx d x y ⟨⟩:=(rfl)
@[go_sem ↓] theorem zbx (x y:Prop) (w:HidP x y):zTx (.bool true) x y w=x:=(rfl)
@[go_sem ↓] theorem zZM (x y:Prop) (w:HidP x y):zTx (.bool false) x y w=y:=(rfl)
theorem zRq {b:Bool} {x y:Prop} {w:HidP x y} (h1:b=true→x) (h2:b=false→y):zTx (.bool b) x y w:=by
 cases b
 ·exact h2 rfl
 ·exact h1 rfl
@[go_sem] theorem zfP (b:Bool):vun .not (.bool b)=some (.bool (!b)):=(rfl)
section
variable {P:Program} {g:Cfg} {n:Nat} {ro:Option Nat} {c:Code} {Q:Exit→Frm→Heap→Prop} {fr:Frm} {h:Heap}
theorem zE (J:Nat→Frm→Heap→Prop) (len:Nat) (hlen:len≤1073741824) (hJ0:J 0 fr h)
  (step:∀i fr h,i<len→decide ((i:Int)<(len:Int))=true→IntKind.i64.wrap ((i:Int)+1)=((i+1:Nat):Int)→J i fr h→vwp P g n ro c (zDC (J (i+1)) Q) fr h)
  (last:∀fr h,decide ((len:Int)<(len:Int))=false→J len fr h→vwp P g n ro c (zDC (fun _ _=>False) Q) fr h):vwp P g n ro (.loop c) Q fr h:=by
 refine yM J len hJ0 fun i fr h hi hJ=> ?_;by_cases hlt:i<len
 ·refine qd c ?_ fr h (step i fr h hlt (decide_eq_true (by omega)) (ze (by unfold lim;omega)) hJ);intro e fr' h' hq;cases e with
  |normal=>exact⟨hlt,hq⟩
  |_=>exact hq
 ·have he:i=len:=by omega
  subst he;refine qd c ?_ fr h (last fr h (decide_eq_false (by omega)) hJ);intro e fr' h' hq;cases e with
  |normal=>exact hq.elim
  |_=>exact hq
end
section
variable {P:Program} {t e:TypeId} {s:List UInt8} {h:Heap}
theorem zHg (ha:zJ5 P t=none) (hu:P.underlying t=some .string) {k k':IntKind} {m n:Nat} (hm:m≤n) (hn:n≤s.length):yX P t (.str s) (some (.int k (m:Int))) (some (.int k' (n:Int))) none h=some (.str ((s.take n).drop m)):=by
 simp[yX,ha,zB8,hu,qW,zHr,zJ6,hn,hm]
@[go_sem ↓] theorem zdB (a b:List UInt8):zKD .geq a b=some (.bool (!zHW a b)):=(rfl)
@[go_sem ↓] theorem zdC (a b:List UInt8):zKD .gtr a b=some (.bool !(zHW a b||a==b)):=(rfl)
end
def Own (h0 h:Heap) (sz:Nat) (xs:List (List D)) (d:D):Prop:=Ext h0 h∧wM h sz xs d∧∀i,wX d i→h0.next≤i
section
variable {h0 h h':Heap} {sz:Nat} {xs:List (List D)} {d:D}
theorem Own.start (he:Ext h0 h) (sz:Nat):Own h0 h sz [] .nilsl:=⟨he, .inl ⟨rfl,rfl⟩,fun _ hi=>hi.elim⟩
theorem Own.isSl (ho:Own h0 h sz xs d):zX sz xs d:=ho.2.1.isSl
theorem Own.fin (ho:Own h0 h sz xs d) (hx:∀x∈xs,qy x):Ext h0 h∧below h0.next (yH d)∧Fin sz xs (yH d):=
 ⟨ho.1,zt (Nat.zero_le _) _ (ho.2.1.fin hx).1,(ho.2.1.fin hx).2⟩
theorem Own.ext (ho:Own h0 h sz xs d) (he:Ext h h'):Own h0 h' sz xs d:=
 ⟨ho.1.trans he,ho.2.1.keep he.2 he.1,ho.2.2⟩
theorem Own.flat (ho:Own h0 h sz xs d):d.flat=true∧d.cells= [d]∧d.notTuple=true:=by
 rcases ho.2.1 with⟨rfl,_⟩ | ⟨t,rfl,_⟩ <;>exact⟨rfl,rfl,rfl⟩
theorem Own.app {P:Program} {ys:List (List D)} {tk:Tk} {t e:TypeId} {K:D→Heap→Prop} (ho:Own h0 h sz xs d) (he:yj P t=some e) (hz:zGA P e=true) (hs:szT P e=sz) (hp:0<sz) (hys:∀y∈ys,y.length=sz) (hy0:ys≠[])
  (hb:(xs.length+ys.length)*yO P e≤lim) (hl:xs.length+ys.length≤lim) (hK:∀d' h',Own h0 h' sz (xs++ys) d'→K d' h'):onR (zj P false h.next t d (.sl sz ys tk) h) K:=
 ho.2.1.app2 he hz hs hp hys hy0 hb hl fun d' h' o n keep tk c f=>hK d' h' ⟨⟨Nat.le_trans ho.1.1 n,fun i hi=>by rw[keep i (Nat.lt_of_lt_of_le hi ho.1.1) (fun q=>by have:=ho.2.2 i q;omega)];exact ho.1.2 i hi⟩,o,fun i hi=>Nat.le_trans ho.1.1 (tk i hi)⟩
theorem Own.appH {P:Program} {ys:List (List D)} {tk:Tk} {t e:TypeId} {K:D→Heap→Prop} {w:HidR K} (ho:Own h0 h sz xs d) (he:yj P t=some e) (hz:zGA P e=true) (hs:szT P e=sz) (hp:0<sz) (hys:∀y∈ys,y.length=sz) (hy0:ys≠[])
  (hb:(xs.length+ys.length)*yO P e≤lim) (hl:xs.length+ys.length≤lim) (hK:∀d' h',Own h0 h' sz (xs++ys) d'→K d' h'):zXp (zj P false h.next t d (.sl sz ys tk) h) K w:=ho.app he hz hs hp hys hy0 hb hl hK
end
theorem zfQ (b c:UInt8):((b.toNat:Int)==(c.toNat:Int))=(b==c):=by
 by_cases e:b=c
 ·simp[e]
 ·rw[beq_eq_false_iff_ne.2 e,beq_eq_false_iff_ne.2 (fun h=>e (UInt8.toNat_inj.1 (by omega)))]
theorem zXq (a b:Nat):decide ((a:Int)>(b:Int))=decide (a>b):=by
 by_cases e:a>b
 ·rw[decide_eq_true e,decide_eq_true (by omega)]
 ·rw[decide_eq_false e,decide_eq_false (by omega)]
theorem zRr {α:Type} {p:α→Bool} {l:List α} {i:Nat} (hi:i<l.length) (hp:p l[i]=true):l.any p=true:=List.any_eq_true.2 ⟨_,List.getElem_mem hi,hp⟩
theorem zIR {α:Type} {p:α→Bool} {l:List α} (h:∀j (hj:j<l.length),j<l.length→p l[j]=false):l.any p=false:=by
 rw[List.any_eq_false];intro x hx;obtain⟨j,hj,rfl⟩:=List.mem_iff_getElem.1 hx;rw[h j hj hj];exact Bool.false_ne_true
theorem qQ {α:Type} {p:α→Bool} {l:List α} {i:Nat} (hi:i<l.length) (hj:∀j (hj:j<l.length),j<i→p l[j]=false) (hp:p l[i]=false):∀j (hj:j<l.length),j<i+1→p l[j]=false:=fun j hjl hji=>by
 rcases Nat.lt_succ_iff_lt_or_eq.1 hji with hji|rfl
 ·exact hj j hjl hji
 ·exact hp
open Go.Proofs
set_option maxRecDepth 100000
@[go_sem] theorem zfR (s:List UInt8) (h:Heap):zBe Tryz.prog 9 (.str s) h=some (.int .i64 s.length):=zy Tryz.underlying9
theorem zVr {s:List UInt8} {i:Nat} (hi:i<s.length):zAf Tryz.prog 9 (.str s) (.int .i64 (i:Int))=some (.int .u8 (s[i].toNat:Int)):=wS Tryz.underlying9 (List.getElem?_eq_getElem hi)
theorem zXr {s:List UInt8} {m n:Nat} (hm:m≤n) (hn:n≤s.length) (h:Heap):yX Tryz.prog 9 (.str s) (some (.int .i64 (m:Int))) (some (.int .i64 (n:Int))) none h=some (.str ((s.take n).drop m)):=zHg zNN Tryz.underlying9 hm hn
theorem zby {s:List UInt8} {n:Nat} (hn:n≤s.length) (h:Heap):yX Tryz.prog 9 (.str s) (some (.int .i64 (n:Int))) none none h=some (.str (s.drop n)):=zD4 zNN Tryz.underlying9 hn
theorem yG {l:List (List UInt8)} {d:D} (hd:zX 1 (zx l) d) (h:Heap):zBe Tryz.prog 31 d h=some (.int .i64 l.length):=by rw[zQ hd Tryz.underlying31,zH]
theorem qZ {l:List (List UInt8)} {d:D} (hd:zX 1 (zx l) d) {i:Nat} (hi:i<l.length):zN Tryz.prog 31 d (.int .i64 (i:Int))=some (.iptr [.str l[i]] 0):=zG hd zm qF (qe hi)
theorem zCN (s:List UInt8) (nid:Nat) (h:Heap):zV Tryz.prog false nid 31 1 [(0, .str s)] h=some (.sl 1 [[.str s]] .full,h):=yR zm zGc qF rfl rfl (by omega) (by omega) rfl rfl
theorem zN0 (l m:List (List UInt8)):zx (l++m)=zx l++zx m:=by simp[zx]
theorem Own.str {h0 h:Heap} {l:List (List UInt8)} {d:D} {x:List UInt8} {K:D→Heap→Prop} {w:HidR K} (ho:Own h0 h 1 (zx l) d) (hl:l.length≤16777216) (hK:∀d' h',Own h0 h' 1 (zx (l++ [x])) d'→K d' h'):zXp (zj Tryz.prog false h.next 31 d (.sl 1 [[.str x]] .full) h) K w:=
 ho.appH zm zCz qF (by omega) (by simp) (by simp) (by simp only[zH,w9,List.length_cons,List.length_nil];unfold lim;omega) (by simp only[zH,List.length_cons,List.length_nil];unfold lim;omega) fun d' h' o=>hK d' h' (by rw[zN0];exact o)
end Go.V
