/- Rules of the machine of abstract values, part 4. No condition. -/
import Derived.Test.YtalepjdbhjinhaaGreatDoorW22
import Derived.Test.YtalepjdbhjinhaaGreatDoorW17
import Derived.Test.YtalepjdbhjinhaaGreatDoorW18
import Derived.Test.YtalepjdbhjinhaaGreatDoorW21
set_option linter.all false
namespace Go.V
structure HidS (k:D→Prop) where
def zgm (o:Option D) (k:D→Prop) (_:HidS k):Prop:=onS o k
@[go_sem ↓] theorem zch (o:Option D) (k:D→Prop):onS o k=zgm o k ⟨⟩:=(rfl)
@[go_sem ↓] theorem zbU (d:D) (k:D→Prop) (w:HidS k):zgm (some d) k w=k d:=(rfl)
structure HidR (k:D→Heap→Prop) where
def zXR (o:VR) (k:D→Heap→Prop) (_:HidR k):Prop:=onR o k
@[go_sem ↓] theorem zci (o:VR) (k:D→Heap→Prop):onR o k=zXR o k ⟨⟩:=(rfl)
@[go_sem ↓] theorem zbV (d:D) (h:Heap) (k:D→Heap→Prop) (w:HidR k):zXR (some (d,h)) k w=k d h:=(rfl)
structure HidH (k:Heap→Prop) where
def zgn (o:Option Heap) (k:Heap→Prop) (_:HidH k):Prop:=onH o k
@[go_sem ↓] theorem zcj (o:Option Heap) (k:Heap→Prop):onH o k=zgn o k ⟨⟩:=(rfl)
@[go_sem ↓] theorem zbW (h:Heap) (k:Heap→Prop) (w:HidH k):zgn (some h) k w=k h:=(rfl)
structure HidP (x y:Prop) where
def zbX (g:Bool) (x y:Prop) (_:HidP x y):Prop:=gif g x y
@[go_sem ↓] theorem zck (g:Bool) (x y:Prop):gif g x y=zbX g x y ⟨⟩:=(rfl)
@[go_sem ↓] theorem zbY (x y:Prop) (w:HidP x y):zbX true x y w=x:=(rfl)
@[go_sem ↓] theorem zYx (x y:Prop) (w:HidP x y):zbX false x y w=y:=(rfl)
def zTP (d:D) (x y:Prop) (_:HidP x y):Prop:=onB d x y
@[go_sem ↓] theorem zcl (d:D) (x y:Prop):onB d x y=zTP d x y ⟨⟩:=(rfl)
@[go_sem ↓] theorem zbZ (x y:Prop) (w:HidP x y):zTP (.bool true) x y w=x:=(rfl)
@[go_sem ↓] theorem zYy (x y:Prop) (w:HidP x y):zTP (.bool false) x y w=y:=(rfl)
theorem zRM {b:Bool} {x y:Prop} {w:HidP x y} (h1:b=true→x) (h2:b=false→y):zTP (.bool b) x y w:=by
 cases b
 ·exact h2 rfl
 ·exact h1 rfl
@[go_sem] theorem ze1 (b:Bool):vun .not (.bool b)=some (.bool (!b)):=(rfl)
section
variable {P:Program} {g:Cfg} {n:Nat} {ro:Option Nat} {c:Code} {Q:Exit→Frm→Heap→Prop} {fr:Frm} {h:Heap}
theorem zC (J:Nat→Frm→Heap→Prop) (len:Nat) (hlen:len≤1073741824) (hJ0:J 0 fr h)
  (step:∀i fr h,i<len→decide ((i:Int)<(len:Int))=true→IntKind.i64.wrap ((i:Int)+1)=((i+1:Nat):Int)→J i fr h→vwp P g n ro c (zC1 (J (i+1)) Q) fr h)
  (last:∀fr h,decide ((len:Int)<(len:Int))=false→J len fr h→vwp P g n ro c (zC1 (fun _ _=>False) Q) fr h):vwp P g n ro (.loop c) Q fr h:=by
 refine yJ J len hJ0 fun i fr h hi hJ=> ?_;by_cases hlt:i<len
 ·refine qX c ?_ fr h (step i fr h hlt (decide_eq_true (by omega)) (zh (by unfold lim;omega)) hJ);intro e fr' h' hq;cases e with
  |normal=>exact⟨hlt,hq⟩
  |_=>exact hq
 ·have he:i=len:=by omega
  subst he;refine qX c ?_ fr h (last fr h (decide_eq_false (by omega)) hJ);intro e fr' h' hq;cases e with
  |normal=>exact hq.elim
  |_=>exact hq
end
section
variable {P:Program} {t e:TypeId} {s:List UInt8} {h:Heap}
theorem zHL (ha:zJf P t=none) (hu:P.underlying t=some .string) {k k':IntKind} {m n:Nat} (hm:m≤n) (hn:n≤s.length):yR P t (.str s) (some (.int k (m:Int))) (some (.int k' (n:Int))) none h=some (.str ((s.take n).drop m)):=by
 simp[yR,ha,zB0,hu,qU,zHV,zJg,hn,hm]
@[go_sem ↓] theorem zcm (a b:List UInt8):zN0 .geq a b=some (.bool (!zHB a b)):=(rfl)
@[go_sem ↓] theorem zcn (a b:List UInt8):zN0 .gtr a b=some (.bool !(zHB a b||a==b)):=(rfl)
end
def Own (h0 h:Heap) (sz:Nat) (xs:List (List D)) (d:D):Prop:=Ext h0 h∧wH h sz xs d∧∀i,wS d i→h0.next≤i
section
variable {h0 h h':Heap} {sz:Nat} {xs:List (List D)} {d:D}
theorem Own.start (he:Ext h0 h) (sz:Nat):Own h0 h sz [] .nilsl:=⟨he, .inl ⟨rfl,rfl⟩,fun _ hi=>hi.elim⟩
theorem Own.isSl (ho:Own h0 h sz xs d):zV sz xs d:=ho.2.1.isSl
theorem Own.fin (ho:Own h0 h sz xs d) (hx:∀x∈xs,zCD x):Ext h0 h∧below h0.next (yI d)∧Fin sz xs (yI d):=
 ⟨ho.1,zo (Nat.zero_le _) _ (ho.2.1.fin hx).1,(ho.2.1.fin hx).2⟩
theorem Own.ext (ho:Own h0 h sz xs d) (he:Ext h h'):Own h0 h' sz xs d:=
 ⟨ho.1.trans he,ho.2.1.keep he.2 he.1,ho.2.2⟩
theorem Own.flat (ho:Own h0 h sz xs d):d.flat=true∧d.cells= [d]∧d.notTuple=true:=by
 rcases ho.2.1 with⟨rfl,_⟩ | ⟨t,rfl,_⟩ <;>exact⟨rfl,rfl,rfl⟩
theorem Own.app {P:Program} {ys:List (List D)} {tk:Tk} {t e:TypeId} {K:D→Heap→Prop} (ho:Own h0 h sz xs d) (he:ye P t=some e) (hz:zFm P e=true) (hs:szT P e=sz) (hp:0<sz) (hys:∀y∈ys,y.length=sz) (hy0:ys≠[])
  (hb:(xs.length+ys.length)*yL P e≤lim) (hl:xs.length+ys.length≤lim) (hK:∀d' h',Own h0 h' sz (xs++ys) d'→K d' h'):onR (ze P false h.next t d (.sl sz ys tk) h) K:=
 ho.2.1.app2 he hz hs hp hys hy0 hb hl fun d' h' o n keep tk c f=>hK d' h' ⟨⟨Nat.le_trans ho.1.1 n,fun i hi=>by rw[keep i (Nat.lt_of_lt_of_le hi ho.1.1) (fun q=>by have:=ho.2.2 i q;omega)];exact ho.1.2 i hi⟩,o,fun i hi=>Nat.le_trans ho.1.1 (tk i hi)⟩
theorem Own.appH {P:Program} {ys:List (List D)} {tk:Tk} {t e:TypeId} {K:D→Heap→Prop} {w:HidR K} (ho:Own h0 h sz xs d) (he:ye P t=some e) (hz:zFm P e=true) (hs:szT P e=sz) (hp:0<sz) (hys:∀y∈ys,y.length=sz) (hy0:ys≠[])
  (hb:(xs.length+ys.length)*yL P e≤lim) (hl:xs.length+ys.length≤lim) (hK:∀d' h',Own h0 h' sz (xs++ys) d'→K d' h'):zXR (ze P false h.next t d (.sl sz ys tk) h) K w:=ho.app he hz hs hp hys hy0 hb hl hK
end
theorem ze2 (b c:UInt8):((b.toNat:Int)==(c.toNat:Int))=(b==c):=by
 by_cases e:b=c
 ·simp[e]
 ·rw[beq_eq_false_iff_ne.2 e,beq_eq_false_iff_ne.2 (fun h=>e (UInt8.toNat_inj.1 (by omega)))]
theorem zXS (a b:Nat):decide ((a:Int)>(b:Int))=decide (a>b):=by
 by_cases e:a>b
 ·rw[decide_eq_true e,decide_eq_true (by omega)]
 ·rw[decide_eq_false e,decide_eq_false (by omega)]
theorem zRN {α:Type} {p:α→Bool} {l:List α} {i:Nat} (hi:i<l.length) (hp:p l[i]=true):l.any p=true:=List.any_eq_true.2 ⟨_,List.getElem_mem hi,hp⟩
theorem zH4 {α:Type} {p:α→Bool} {l:List α} (h:∀j (hj:j<l.length),j<l.length→p l[j]=false):l.any p=false:=by
 rw[List.any_eq_false];intro x hx;obtain⟨j,hj,rfl⟩:=List.mem_iff_getElem.1 hx;rw[h j hj hj];exact Bool.false_ne_true
theorem qF {α:Type} {p:α→Bool} {l:List α} {i:Nat} (hi:i<l.length) (hj:∀j (hj:j<l.length),j<i→p l[j]=false) (hp:p l[i]=false):∀j (hj:j<l.length),j<i+1→p l[j]=false:=fun j hjl hji=>by
 rcases Nat.lt_succ_iff_lt_or_eq.1 hji with hji|rfl
 ·exact hj j hjl hji
 ·exact hp
open Go.Proofs
set_option maxRecDepth 100000
@[go_sem] theorem ze3 (s:List UInt8) (h:Heap):zBU Tryz.prog 9 (.str s) h=some (.int .i64 s.length):=zu Tryz.underlying9
theorem zVK {s:List UInt8} {i:Nat} (hi:i<s.length):zAX Tryz.prog 9 (.str s) (.int .i64 (i:Int))=some (.int .u8 (s[i].toNat:Int)):=wN Tryz.underlying9 (List.getElem?_eq_getElem hi)
theorem zXT {s:List UInt8} {m n:Nat} (hm:m≤n) (hn:n≤s.length) (h:Heap):yR Tryz.prog 9 (.str s) (some (.int .i64 (m:Int))) (some (.int .i64 (n:Int))) none h=some (.str ((s.take n).drop m)):=zHL zMw Tryz.underlying9 hm hn
theorem zba {s:List UInt8} {n:Nat} (hn:n≤s.length) (h:Heap):yR Tryz.prog 9 (.str s) (some (.int .i64 (n:Int))) none none h=some (.str (s.drop n)):=zDo zMw Tryz.underlying9 hn
theorem yE {l:List (List UInt8)} {d:D} (hd:zV 1 (zy l) d) (h:Heap):zBU Tryz.prog 31 d h=some (.int .i64 l.length):=by rw[zP hd Tryz.underlying31,zH]
theorem qI {l:List (List UInt8)} {d:D} (hd:zV 1 (zy l) d) {i:Nat} (hi:i<l.length):zQ Tryz.prog 31 d (.int .i64 (i:Int))=some (.iptr [.str l[i]] 0):=zF hd zi qH (qY hi)
theorem zCG (s:List UInt8) (nid:Nat) (h:Heap):zU Tryz.prog false nid 31 1 [(0, .str s)] h=some (.sl 1 [[.str s]] .full,h):=yU zi zGG qH rfl rfl (by omega) (by omega) rfl rfl
theorem zNZ (l m:List (List UInt8)):zy (l++m)=zy l++zy m:=by simp[zy]
theorem Own.str {h0 h:Heap} {l:List (List UInt8)} {d:D} {x:List UInt8} {K:D→Heap→Prop} {w:HidR K} (ho:Own h0 h 1 (zy l) d) (hl:l.length≤16777216) (hK:∀d' h',Own h0 h' 1 (zy (l++ [x])) d'→K d' h'):zXR (ze Tryz.prog false h.next 31 d (.sl 1 [[.str x]] .full) h) K w:=
 ho.appH zi zCp qH (by omega) (by simp) (by simp) (by simp only[zH,wv,List.length_cons,List.length_nil];unfold lim;omega) (by simp only[zH,List.length_cons,List.length_nil];unfold lim;omega) fun d' h' o=>hK d' h' (by rw[zNZ];exact o)
end Go.V
