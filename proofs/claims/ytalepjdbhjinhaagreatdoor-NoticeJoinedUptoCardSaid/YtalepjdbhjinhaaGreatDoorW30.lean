/- Rules of the machine of abstract values, part 4. No condition. -/
import Derived.Test.YtalepjdbhjinhaaGreatDoorW22
import Derived.Test.YtalepjdbhjinhaaGreatDoorW17
import Derived.Test.YtalepjdbhjinhaaGreatDoorW18
import Derived.Test.YtalepjdbhjinhaaGreatDoorW21
set_option linter.all false
namespace Go.V
structure HidS (k:D→Prop) where
def zjA (o:Option D) (k:D→Prop) (_:HidS k):Prop:=onS o k
@[go_sem ↓] theorem zex (o:Option D) (k:D→Prop):onS o k=zjA o k ⟨⟩:=(rfl)
@[go_sem ↓] theorem zdk (d:D) (k:D→Prop) (w:HidS k):zjA (some d) k w=k d:=(rfl)
structure HidR (k:D→Heap→Prop) where
def zZj (o:VR) (k:D→Heap→Prop) (_:HidR k):Prop:=onR o k
@[go_sem ↓] theorem zey (o:VR) (k:D→Heap→Prop):onR o k=zZj o k ⟨⟩:=(rfl)
@[go_sem ↓] theorem zdl (d:D) (h:Heap) (k:D→Heap→Prop) (w:HidR k):zZj (some (d,h)) k w=k d h:=(rfl)
structure HidH (k:Heap→Prop) where
def zjB (o:Option Heap) (k:Heap→Prop) (_:HidH k):Prop:=onH o k
@[go_sem ↓] theorem zez (o:Option Heap) (k:Heap→Prop):onH o k=zjB o k ⟨⟩:=(rfl)
@[go_sem ↓] theorem zdm (h:Heap) (k:Heap→Prop) (w:HidH k):zjB (some h) k w=k h:=(rfl)
structure HidP (x y:Prop) where
def zVT (g:Bool) (x y:Prop) (_:HidP x y):Prop:=gif g x y
@[go_sem ↓] theorem ze0 (g:Bool) (x y:Prop):gif g x y=zVT g x y ⟨⟩:=(rfl)
@[go_sem ↓] theorem zdn (x y:Prop) (w:HidP x y):zVT true x y w=x:=(rfl)
@[go_sem ↓] theorem zbG (x y:Prop) (w:HidP x y):zVT false x y w=y:=(rfl)
def zUG (d:D) (x y:Prop) (_:HidP x y):Prop:=onB d x y
@[go_sem ↓] theorem ze1 (d:D) (x y:Prop):onB d x y=zUG d x y ⟨⟩:=(rfl)
@[go_sem ↓] theorem zdo (x y:Prop) (w:HidP x y):zUG (.bool true) x y w=x:=(rfl)
@[go_sem ↓] theorem zbH (x y:Prop) (w:HidP x y):zUG (.bool false) x y w=y:=(rfl)
theorem yf {b:Bool} {x y:Prop} {w:HidP x y} (h1:b=true→x) (h2:b=false→y):zUG (.bool b) x y w:=by
 cases b
 ·exact h2 rfl
 ·exact h1 rfl
theorem yO {b:Bool} {x y:Prop} {w:HidP x y} (h1:b=false→x) (h2:b=true→y):zUG (.bool (!b)) x y w:=by
 cases b
 ·exact h1 rfl
 ·exact h2 rfl
theorem yP {b:Bool} {x y:Prop} {w:HidP x y} (h1:b=true→x) (h2:b=false→y):zVT (b==true) x y w:=by
 cases b
 ·exact h2 rfl
 ·exact h1 rfl
theorem yQ {b:Bool} {x y:Prop} {w:HidP x y} (h1:b=false→x) (h2:b=true→y):zVT (b==false) x y w:=by
 cases b
 ·exact h1 rfl
 ·exact h2 rfl
theorem yE {b:Bool} {x y:Prop} {w:HidP x y} (h1:b=false→x) (h2:b=true→y):zVT ((!b)==true) x y w:=by
 cases b
 ·exact h1 rfl
 ·exact h2 rfl
theorem yF {b:Bool} {x y:Prop} {w:HidP x y} (h1:b=true→x) (h2:b=false→y):zVT ((!b)==false) x y w:=by
 cases b
 ·exact h2 rfl
 ·exact h1 rfl
@[go_sem] theorem zhK (b:Bool):vun .not (.bool b)=some (.bool (!b)):=(rfl)
section
variable {P:Program} {g:Cfg} {n:Nat} {ro:Option Nat} {c:Code} {Q:Exit→Frm→Heap→Prop} {fr:Frm} {h:Heap}
theorem zD (J:Nat→Frm→Heap→Prop) (len:Nat) (hlen:len≤1073741824) (hJ0:J 0 fr h)
  (step:∀i fr h,i<len→decide ((i:Int)<(len:Int))=true→IntKind.i64.wrap ((i:Int)+1)=((i+1:Nat):Int)→J i fr h→vwp P g n ro c (zDf (J (i+1)) Q) fr h)
  (last:∀fr h,decide ((len:Int)<(len:Int))=false→J len fr h→vwp P g n ro c (zDf (fun _ _=>False) Q) fr h):vwp P g n ro (.loop c) Q fr h:=by
 refine yG J len hJ0 fun i fr h hi hJ=> ?_;by_cases hlt:i<len
 ·refine qy c ?_ fr h (step i fr h hlt (decide_eq_true (by omega)) (zf (by unfold lim;omega)) hJ);intro e fr' h' hq;cases e with
  |normal=>exact⟨hlt,hq⟩
  |_=>exact hq
 ·have he:i=len:=by omega
  subst he;refine qy c ?_ fr h (last fr h (decide_eq_false (by omega)) hJ);intro e fr' h' hq;cases e with
  |normal=>exact hq.elim
  |_=>exact hq
end
section
variable {P:Program} {t e:TypeId} {s:List UInt8} {h:Heap}
theorem zIQ (ha:zKx P t=none) (hu:P.underlying t=some .string) {k k':IntKind} {m n:Nat} (hm:m≤n) (hn:n≤s.length):yZ P t (.str s) (some (.int k (m:Int))) (some (.int k' (n:Int))) none h=some (.str ((s.take n).drop m)):=by
 simp[yZ,ha,zCN,hu,qj,zIC,zJa,hn,hm]
theorem zAu {a b:List UInt8} (hl:a.length+b.length≤1073741824):zF3 .add a b=some (.str (a++b)):=by
 simp only[zF3];rw[if_pos (by unfold lim;omega)]
@[go_sem ↓] theorem ze2 (a b:List UInt8):zF3 .geq a b=some (.bool (!zIB a b)):=(rfl)
@[go_sem ↓] theorem ze3 (a b:List UInt8):zF3 .gtr a b=some (.bool !(zIB a b||a==b)):=(rfl)
end
def Own (h0 h:Heap) (sz:Nat) (xs:List (List D)) (d:D):Prop:=Ext h0 h∧wI h sz xs d∧∀i,wm d i→h0.next≤i
section
variable {h0 h h':Heap} {sz:Nat} {xs:List (List D)} {d:D}
theorem Own.start (he:Ext h0 h) (sz:Nat):Own h0 h sz [] .nilsl:=⟨he, .inl ⟨rfl,rfl⟩,fun _ hi=>hi.elim⟩
theorem Own.isSl (ho:Own h0 h sz xs d):zX sz xs d:=ho.2.1.isSl
theorem Own.fin (ho:Own h0 h sz xs d) (hx:∀x∈xs,zCj x):Ext h0 h∧below h0.next (yC d)∧Fin sz xs (yC d):=
 ⟨ho.1,zu (Nat.zero_le _) _ (ho.2.1.fin hx).1,(ho.2.1.fin hx).2⟩
theorem Own.ext (ho:Own h0 h sz xs d) (he:Ext h h'):Own h0 h' sz xs d:=
 ⟨ho.1.trans he,ho.2.1.keep he.2 he.1,ho.2.2⟩
theorem Own.flat (ho:Own h0 h sz xs d):d.flat=true∧d.cells= [d]∧d.notTuple=true:=by
 rcases ho.2.1 with⟨rfl,_⟩ | ⟨t,rfl,_⟩ <;>exact⟨rfl,rfl,rfl⟩
theorem Own.app {P:Program} {ys:List (List D)} {tk:Tk} {t e:TypeId} {K:D→Heap→Prop} (ho:Own h0 h sz xs d) (he:yr P t=some e) (hz:zGM P e=true) (hs:szT P e=sz) (hp:0<sz) (hys:∀y∈ys,y.length=sz) (hy0:ys≠[])
  (hb:(xs.length+ys.length)*yY P e≤lim) (hl:xs.length+ys.length≤lim) (hK:∀d' h',Own h0 h' sz (xs++ys) d'→K d' h'):onR (zZ P false h.next t d (.sl sz ys tk) h) K:=
 ho.2.1.app2 he hz hs hp hys hy0 hb hl fun d' h' o n keep tk c f=>hK d' h' ⟨⟨Nat.le_trans ho.1.1 n,fun i hi=>by rw[keep i (Nat.lt_of_lt_of_le hi ho.1.1) (fun q=>by have:=ho.2.2 i q;omega)];exact ho.1.2 i hi⟩,o,fun i hi=>Nat.le_trans ho.1.1 (tk i hi)⟩
theorem Own.appH {P:Program} {ys:List (List D)} {tk:Tk} {t e:TypeId} {K:D→Heap→Prop} {w:HidR K} (ho:Own h0 h sz xs d) (he:yr P t=some e) (hz:zGM P e=true) (hs:szT P e=sz) (hp:0<sz) (hys:∀y∈ys,y.length=sz) (hy0:ys≠[])
  (hb:(xs.length+ys.length)*yY P e≤lim) (hl:xs.length+ys.length≤lim) (hK:∀d' h',Own h0 h' sz (xs++ys) d'→K d' h'):zZj (zZ P false h.next t d (.sl sz ys tk) h) K w:=ho.app he hz hs hp hys hy0 hb hl hK
end
theorem zhL (b c:UInt8):((b.toNat:Int)==(c.toNat:Int))=(b==c):=by
 by_cases e:b=c
 ·simp[e]
 ·rw[beq_eq_false_iff_ne.2 e,beq_eq_false_iff_ne.2 (fun h=>e (UInt8.toNat_inj.1 (by omega)))]
theorem zZk (a b:Nat):decide ((a:Int)>(b:Int))=decide (a>b):=by
 by_cases e:a>b
 ·rw[decide_eq_true e,decide_eq_true (by omega)]
 ·rw[decide_eq_false e,decide_eq_false (by omega)]
theorem zTB {α:Type} {p:α→Bool} {l:List α} {i:Nat} (hi:i<l.length) (hp:p l[i]=true):l.any p=true:=List.any_eq_true.2 ⟨_,List.getElem_mem hi,hp⟩
theorem zJA {α:Type} {p:α→Bool} {l:List α} (h:∀j (hj:j<l.length),j<l.length→p l[j]=false):l.any p=false:=by
 rw[List.any_eq_false];intro x hx;obtain⟨j,hj,rfl⟩:=List.mem_iff_getElem.1 hx;rw[h j hj hj];exact Bool.false_ne_true
theorem ql {α:Type} {p:α→Bool} {l:List α} {i:Nat} (hi:i<l.length) (hj:∀j (hj:j<l.length),j<i→p l[j]=false) (hp:p l[i]=false):∀j (hj:j<l.length),j<i+1→p l[j]=false:=fun j hjl hji=>by
 rcases Nat.lt_succ_iff_lt_or_eq.1 hji with hji|rfl
 ·exact hj j hjl hji
 ·exact hp
open Go.Proofs
set_option maxRecDepth 100000
@[go_sem] theorem zhM (s:List UInt8) (h:Heap):zAd Tryz.prog 9 (.str s) h=some (.int .i64 s.length):=z7 Tryz.underlying9
theorem zXc {s:List UInt8} {i:Nat} (hi:i<s.length):zA2 Tryz.prog 9 (.str s) (.int .i64 (i:Int))=some (.int .u8 (s[i].toNat:Int)):=wj Tryz.underlying9 (List.getElem?_eq_getElem hi)
theorem zZl {s:List UInt8} {m n:Nat} (hm:m≤n) (hn:n≤s.length) (h:Heap):yZ Tryz.prog 9 (.str s) (some (.int .i64 (m:Int))) (some (.int .i64 (n:Int))) none h=some (.str ((s.take n).drop m)):=zIQ zOT Tryz.underlying9 hm hn
theorem zdp {s:List UInt8} {n:Nat} (hn:n≤s.length) (h:Heap):yZ Tryz.prog 9 (.str s) (some (.int .i64 (n:Int))) none none h=some (.str (s.drop n)):=zEY zOT Tryz.underlying9 hn
theorem yA {l:List (List UInt8)} {d:D} (hd:zX 1 (zt l) d) (h:Heap):zAd Tryz.prog 31 d h=some (.int .i64 l.length):=by rw[zP hd Tryz.underlying31,zJ]
theorem yz {l:List (List UInt8)} {d:D} (hd:zX 1 (zt l) d) {i:Nat} (hi:i<l.length):zR Tryz.prog 31 d (.int .i64 (i:Int))=some (.iptr [.str l[i]] 0):=zE hd zd yu (yy hi)
theorem zCq (s:List UInt8) (nid:Nat) (h:Heap):zS Tryz.prog false nid 31 1 [(0, .str s)] h=some (.sl 1 [[.str s]] .full,h):=yR zd zCA yu rfl rfl (by omega) (by omega) rfl rfl
theorem zO7 (l m:List (List UInt8)):zt (l++m)=zt l++zt m:=by simp[zt]
theorem Own.str {h0 h:Heap} {l:List (List UInt8)} {d:D} {x:List UInt8} {K:D→Heap→Prop} {w:HidR K} (ho:Own h0 h 1 (zt l) d) (hl:l.length≤16777216) (hK:∀d' h',Own h0 h' 1 (zt (l++ [x])) d'→K d' h'):zZj (zZ Tryz.prog false h.next 31 d (.sl 1 [[.str x]] .full) h) K w:=
 ho.appH zd zBq yu (by omega) (by simp) (by simp) (by simp only[zJ,wO,List.length_cons,List.length_nil];unfold lim;omega) (by simp only[zJ,List.length_cons,List.length_nil];unfold lim;omega) fun d' h' o=>hK d' h' (by rw[zO7];exact o)
end Go.V
