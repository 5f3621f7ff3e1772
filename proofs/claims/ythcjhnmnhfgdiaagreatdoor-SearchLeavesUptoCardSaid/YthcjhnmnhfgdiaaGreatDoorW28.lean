/- Rules of the machine of abstract values, part 5. No condition. -/
import Derived.Test.YthcjhnmnhfgdiaaGreatDoorW21
set_option linter.all false
set_option maxHeartbeats 8000000
namespace Go.V
structure HidS (k:D->Prop) where
def zGz (o:Option D) (k:D->Prop) (_:HidS k):Prop:=onS o k
@[go_sem ↓] theorem zB7 (o:Option D) (k:D->Prop):onS o k=zGz o k ⟨⟩:=(rfl)
@[go_sem ↓] theorem zAb (d:D) (k:D->Prop) (w:HidS k):zGz (some d) k w=k d:=(rfl)
structure HidR (k:D->Heap->Prop) where
def L4 (o:VR) (k:D->Heap->Prop) (_:HidR k):Prop:=onR o k
@[go_sem ↓] theorem zB8 (o:VR) (k:D->Heap->Prop):onR o k=L4 o k ⟨⟩:=(rfl)
@[go_sem ↓] theorem zAc (d:D) (h:Heap) (k:D->Heap->Prop) (w:HidR k):L4 (some (d,h)) k w=k d h:=(rfl)
structure HidH (k:Heap->Prop) where
def zG0 (o:Option Heap) (k:Heap->Prop) (_:HidH k):Prop:=onH o k
@[go_sem ↓] theorem zB9 (o:Option Heap) (k:Heap->Prop):onH o k=zG0 o k ⟨⟩:=(rfl)
@[go_sem ↓] theorem zAd (h:Heap) (k:Heap->Prop) (w:HidH k):zG0 (some h) k w=k h:=(rfl)
structure HidP (x y:Prop) where
def zAe (g:Bool) (x y:Prop) (_:HidP x y):Prop:=gif g x y
@[go_sem ↓] theorem zCA (g:Bool) (x y:Prop):gif g x y=zAe g x y ⟨⟩:=(rfl)
@[go_sem ↓] theorem zAf (x y:Prop) (w:HidP x y):zAe true x y w=x:=(rfl)
@[go_sem ↓] theorem CL (x y:Prop) (w:HidP x y):zAe false x y w=y:=(rfl)
def JQ (d:D) (x y:Prop) (_:HidP x y):Prop:=onB d x y
@[go_sem ↓] theorem zCB (d:D) (x y:Prop):onB d x y=JQ d x y ⟨⟩:=(rfl)
@[go_sem ↓] theorem zAg (x y:Prop) (w:HidP x y):JQ (.bool true) x y w=x:=(rfl)
@[go_sem ↓] theorem CM (x y:Prop) (w:HidP x y):JQ (.bool false) x y w=y:=(rfl)
variable {b:Bool}{P:Program}{ys:List (List D)}{tk:Tk}{K:D->Heap->Prop}{α:Type}{i n:Nat}{s:List UInt8}{d:D}{h0 h:Heap}
def MA {x y:Prop} {w:HidP x y} (h1:b=true->x) (a:b=false->y):JQ (.bool b) x y w:=by
 cases b
 ·exact a rfl
 ·exact h1 rfl
@[go_sem] theorem zFH (b:Bool):vun .not (.bool b)=some (.bool (!b)):=(rfl)
section
variable {P:Program} {g:Cfg} {n:Nat} {ro:Option Nat} {c:Code} {Q:Exit->Frm->Heap->Prop} {fr:Frm} {h:Heap}
def zD (J:Nat->Frm->Heap->Prop) (len:Nat) (k:len<=1073741824) (f:J 0 fr h)
  (step:∀i fr h,i<len->decide ((i:Int)<(len:Int))=true->IntKind.i64.wrap ((i:Int)+1)=((i+1:Nat):Int)->J i fr h->vwp P g n ro c (nO (J (i+1)) Q) fr h)
  (last:∀fr h,decide ((len:Int)<(len:Int))=false->J len fr h->vwp P g n ro c (nO (λ_ _=>False) Q) fr h):vwp P g n ro (.loop c) Q fr h:=by
 refine yF J len f λi fr h m j=> ?_;by_cases a:i<len
 ·refine wP c ?_ fr h (step i fr h a (decide_eq_true ow) (zw (by unfold lim;omega)) j);intro e d h' b;cases e with
  |normal=>exact⟨a,b⟩
  |_=>exact b
 ·have l:i=len:=ow;subst l;refine wP c ?_ fr h (last fr h (decide_eq_false ow) j);intro e d h' b;cases e with
  |normal=>exact b.elim
  |_=>exact b
end
section
variable {P:Program} {t e:TypeId} {s:List UInt8} {h:Heap}
def dz (a:cJ P t=none) (d:P.underlying t=some .string) {k k':IntKind} {m n:Nat} (b:m<=n) (c:n<=s.length):yh P t (.str s) (some (.int k (m:Int))) (some (.int k' (n:Int))) none h=some (.str ((s.take n).drop m)):=by
 simp[yh,a,pc,d,wM,cK,Zo,c,b]
@[go_sem ↓] theorem zCC (a b:List UInt8):Lo .geq a b=some (.bool (!dX a b)):=(rfl)
@[go_sem ↓] theorem zCD (a b:List UInt8):Lo .gtr a b=some (.bool !(dX a b||a==b)):=(rfl)
end
def Own (h0 h:Heap) (sz:Nat) (xs:List (List D)) (d:D):Prop:=Ext h0 h/\wW h sz xs d/\∀i,wX d i->h0.next<=i
section
variable {h0 h h':Heap} {sz:Nat} {xs:List (List D)} {d:D}
def Own.start (a:Ext h0 h) (sz:Nat):Own h0 h sz [] .nilsl:=⟨a, .inl ⟨rfl,rfl⟩,λ_ b=>b.elim⟩
def Own.isSl (a:Own h0 h sz xs d):zZ sz xs d:=a.2.1.isSl
def Own.fin (a:Own h0 h sz xs d) (b:∀x∈xs,yf x):Ext h0 h/\below h0.next (zi d)/\Fin sz xs (zi d):=
 ⟨a.1,zx (Nat.zero_le _) _ (a.2.1.fin b).1,(a.2.1.fin b).2⟩
def Own.ext (b:Own h0 h sz xs d) (a:Ext h h'):Own h0 h' sz xs d:=
 ⟨b.1.trans a,b.2.1.keep a.2 a.1,b.2.2⟩
variable {P:Program}
def Own.app {t e:TypeId} (a:Own h0 h sz xs d) (r:qO P t=some e) (w:gB P e=true) (v:szT P e=sz) (u:0<sz) (l:∀y∈ys,y.length=sz) (k:ys≠[])
  (p:(xs.length+ys.length)*ye P e<=lim) (s:xs.length+ys.length<=lim) (m:∀g h',Own h0 h' sz (xs++ys) g->K g h'):onR (zu P false h.next t d (.sl sz ys tk) h) K:=
 a.2.1.app2 r w v u l k p s λg h' o n b tk c f=>m g h' ⟨⟨Nat.le_trans a.1.1 n,λi j=>by rw[b i (Nat.lt_of_lt_of_le j a.1.1) (λq=>by have:=a.2.2 i q;omega)];exact a.1.2 i j⟩,o,λi j=>Nat.le_trans a.1.1 (tk i j)⟩
def Own.appH {t e:TypeId} {w:HidR K} (k:Own h0 h sz xs d) (i:qO P t=some e) (n:gB P e=true) (m:szT P e=sz) (l:0<sz) (b:∀y∈ys,y.length=sz) (a:ys≠[])
  (g:(xs.length+ys.length)*ye P e<=lim) (j:xs.length+ys.length<=lim) (f:∀c h',Own h0 h' sz (xs++ys) c->K c h'):L4 (zu P false h.next t d (.sl sz ys tk) h) K w:=k.app i n m l b a g j f
end
def zFI (b c:UInt8):((b.toNat:Int)==(c.toNat:Int))=(b==c):=by
 by_cases e:b=c
 ·simp[e]
 ·rw[beq_eq_false_iff_ne.2 e,beq_eq_false_iff_ne.2 (λh=>e (UInt8.toNat_inj.1 ow))]
def ED (a b:Nat):decide ((a:Int)>(b:Int))=decide (a>b):=by
 by_cases e:a>b
 ·rw[decide_eq_true e,decide_eq_true ow]
 ·rw[decide_eq_false e,decide_eq_false ow]
def fS {p:α->Bool} {l:List α} (a:i<l.length) (b:p l[i]=true):l.any p=true:=List.any_eq_true.2 ⟨_,List.getElem_mem a,b⟩
def nF {p:α->Bool} {l:List α} (h:∀j (a:j<l.length),j<l.length->p l[j]=false):l.any p=false:=by
 rw[List.any_eq_false];intro x b;obtain⟨j,a,rfl⟩:=List.mem_iff_getElem.1 b;rw[h j a a];exact Bool.false_ne_true
def qM {p:α->Bool} {l:List α} (e:i<l.length) (b:∀j (b:j<l.length),j<i->p l[j]=false) (d:p l[i]=false):∀j (b:j<l.length),j<i+1->p l[j]=false:=λj c a=>by
 rcases Nat.lt_succ_iff_lt_or_eq.1 a with a|rfl
 ·exact b j c a
 ·exact d
open Go.Proofs.Tryz
open Go.Proofs
set_option maxRecDepth 100000
@[go_sem] theorem zFJ (s:List UInt8) (h:Heap):tU prog 9 (.str s) h=some (.int .i64 s.length):=qh underlying9
variable {s:List UInt8}{P:Program}{n:Nat}{d:D}{h0 h:Heap}
def H8 (a:i<s.length):tF prog 9 (.str s) (.int .i64 (i:Int))=some (.int .u8 (s[i].toNat:Int)):=wJ underlying9 (List.getElem?_eq_getElem a)
def MB {m n:Nat} (a:m<=n) (b:n<=s.length) (h:Heap):yh prog 9 (.str s) (some (.int .i64 (m:Int))) (some (.int .i64 (n:Int))) none h=some (.str ((s.take n).drop m)):=dz V2 underlying9 a b
def H9 (a:n<=s.length) (h:Heap):yh prog 9 (.str s) (some (.int .i64 (n:Int))) none none h=some (.str (s.drop n)):=md V2 underlying9 a
def yK {l:List (List UInt8)} (a:zZ 1 (yR l) d) (h:Heap):tU prog 31 d h=some (.int .i64 l.length):=by rw[yc a underlying31,z7]
def wN {l:List (List UInt8)} (a:zZ 1 (yR l) d) (b:i<l.length):zQ prog 31 d (.int .i64 (i:Int))=some (.iptr [.str l[i]] 0):=zb a yq uY (jr b)
def pz (s:List UInt8) (nid:Nat) (h:Heap):zI prog false nid 31 1 [(0, .str s)] h=some (.sl 1 [[.str s]] .full,h):=zz yq nR uY rfl rfl ow ow rfl rfl
def U8 (l m:List (List UInt8)):yR (l++m)=yR l++yR m:=by simp[yR]
def Own.str {l:List (List UInt8)} {x:List UInt8} {w:HidR K} (c:Own h0 h 1 (yR l) d) (e:l.length<=16777216) (b:∀a h',Own h0 h' 1 (yR (l++ [x])) a->K a h'):L4 (zu prog false h.next 31 d (.sl 1 [[.str x]] .full) h) K w:=
 c.appH yq km uY ow (by simp) (by simp) (by simp only[z7,tB,List.length_cons,List.length_nil];unfold lim;omega) (by simp only[z7,List.length_cons,List.length_nil];unfold lim;omega) λa h' o=>b a h' (by rw[U8];exact o)
end Go.V
