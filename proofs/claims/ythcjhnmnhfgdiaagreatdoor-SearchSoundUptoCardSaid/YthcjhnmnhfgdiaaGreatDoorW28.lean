/- Rules of the machine of abstract values, part 5. No condition. -/
import Derived.Test.YthcjhnmnhfgdiaaGreatDoorW21
set_option linter.all false
set_option maxHeartbeats 8000000
namespace Go.V
structure HidS (k:D->Prop) where
def zH7 (o:Option D) (k:D->Prop) (_:HidS k):Prop:=onS o k
@[go_sem ↓] theorem zDG (o:Option D) (k:D->Prop):onS o k=zH7 o k ⟨⟩:=(rfl)
@[go_sem ↓] theorem zBd (d:D) (k:D->Prop) (w:HidS k):zH7 (some d) k w=k d:=(rfl)
structure HidR (k:D->Heap->Prop) where
def K5 (o:VR) (k:D->Heap->Prop) (_:HidR k):Prop:=onR o k
@[go_sem ↓] theorem zDH (o:VR) (k:D->Heap->Prop):onR o k=K5 o k ⟨⟩:=(rfl)
@[go_sem ↓] theorem zBe (d:D) (h:Heap) (k:D->Heap->Prop) (w:HidR k):K5 (some (d,h)) k w=k d h:=(rfl)
structure HidH (k:Heap->Prop) where
def zH8 (o:Option Heap) (k:Heap->Prop) (_:HidH k):Prop:=onH o k
@[go_sem ↓] theorem zDI (o:Option Heap) (k:Heap->Prop):onH o k=zH8 o k ⟨⟩:=(rfl)
@[go_sem ↓] theorem zBf (h:Heap) (k:Heap->Prop) (w:HidH k):zH8 (some h) k w=k h:=(rfl)
structure HidP (x y:Prop) where
def zBg (g:Bool) (x y:Prop) (_:HidP x y):Prop:=gif g x y
@[go_sem ↓] theorem zDJ (g:Bool) (x y:Prop):gif g x y=zBg g x y ⟨⟩:=(rfl)
@[go_sem ↓] theorem zBh (x y:Prop) (w:HidP x y):zBg true x y w=x:=(rfl)
@[go_sem ↓] theorem BK (x y:Prop) (w:HidP x y):zBg false x y w=y:=(rfl)
def IP (d:D) (x y:Prop) (_:HidP x y):Prop:=onB d x y
@[go_sem ↓] theorem zDK (d:D) (x y:Prop):onB d x y=IP d x y ⟨⟩:=(rfl)
@[go_sem ↓] theorem zBi (x y:Prop) (w:HidP x y):IP (.bool true) x y w=x:=(rfl)
@[go_sem ↓] theorem BL (x y:Prop) (w:HidP x y):IP (.bool false) x y w=y:=(rfl)
variable {b:Bool}{P:Program}{ys:List (List D)}{tk:Tk}{K:D->Heap->Prop}{α:Type}{i n:Nat}{s:List UInt8}{d:D}{h0 h:Heap}
def M5 {x y:Prop} {w:HidP x y} (h1:b=true->x) (a:b=false->y):IP (.bool b) x y w:=by
 cases b
 ·exact a rfl
 ·exact h1 rfl
@[go_sem] theorem zGQ (b:Bool):vun .not (.bool b)=some (.bool (!b)):=(rfl)
section
variable {P:Program} {g:Cfg} {n:Nat} {ro:Option Nat} {c:Code} {Q:Exit->Frm->Heap->Prop} {fr:Frm} {h:Heap}
def zC (J:Nat->Frm->Heap->Prop) (len:Nat) (k:len<=1073741824) (f:J 0 fr h)
  (step:∀i fr h,i<len->decide ((i:Int)<(len:Int))=true->IntKind.i64.wrap ((i:Int)+1)=((i+1:Nat):Int)->J i fr h->vwp P g n ro c (ng (J (i+1)) Q) fr h)
  (last:∀fr h,decide ((len:Int)<(len:Int))=false->J len fr h->vwp P g n ro c (ng (λ_ _=>False) Q) fr h):vwp P g n ro (.loop c) Q fr h:=by
 refine yF J len f λi fr h m j=> ?_;by_cases a:i<len
 ·refine wT c ?_ fr h (step i fr h a (decide_eq_true ow) (zq (by unfold lim;omega)) j);intro e d h' b;cases e with
  |normal=>exact⟨a,b⟩
  |_=>exact b
 ·have l:i=len:=ow;subst l;refine wT c ?_ fr h (last fr h (decide_eq_false ow) j);intro e d h' b;cases e with
  |normal=>exact b.elim
  |_=>exact b
end
section
variable {P:Program} {t e:TypeId} {s:List UInt8} {h:Heap}
def cR (a:cd P t=none) (d:P.underlying t=some .string) {k k':IntKind} {m n:Nat} (b:m<=n) (c:n<=s.length):yi P t (.str s) (some (.int k (m:Int))) (some (.int k' (n:Int))) none h=some (.str ((s.take n).drop m)):=by
 simp[yi,a,pk,d,wR,cj,YD,c,b]
@[go_sem ↓] theorem zDL (a b:List UInt8):Kw .geq a b=some (.bool (!cC a b)):=(rfl)
@[go_sem ↓] theorem zDM (a b:List UInt8):Kw .gtr a b=some (.bool !(cC a b||a==b)):=(rfl)
end
def Own (h0 h:Heap) (sz:Nat) (xs:List (List D)) (d:D):Prop:=Ext h0 h/\wd h sz xs d/\∀i,wB d i->h0.next<=i
section
variable {h0 h h':Heap} {sz:Nat} {xs:List (List D)} {d:D}
def Own.start (a:Ext h0 h) (sz:Nat):Own h0 h sz [] .nilsl:=⟨a, .inl ⟨rfl,rfl⟩,λ_ b=>b.elim⟩
def Own.isSl (a:Own h0 h sz xs d):zd sz xs d:=a.2.1.isSl
def Own.fin (a:Own h0 h sz xs d) (b:∀x∈xs,yh x):Ext h0 h/\below h0.next (z8 d)/\Fin sz xs (z8 d):=
 ⟨a.1,z7 (Nat.zero_le _) _ (a.2.1.fin b).1,(a.2.1.fin b).2⟩
def Own.ext (b:Own h0 h sz xs d) (a:Ext h h'):Own h0 h' sz xs d:=
 ⟨b.1.trans a,b.2.1.keep a.2 a.1,b.2.2⟩
variable {P:Program}
def Own.app {t e:TypeId} (a:Own h0 h sz xs d) (r:qQ P t=some e) (w:gT P e=true) (v:szT P e=sz) (u:0<sz) (l:∀y∈ys,y.length=sz) (k:ys≠[])
  (p:(xs.length+ys.length)*yf P e<=lim) (s:xs.length+ys.length<=lim) (m:∀g h',Own h0 h' sz (xs++ys) g->K g h'):onR (zt P false h.next t d (.sl sz ys tk) h) K:=
 a.2.1.app2 r w v u l k p s λg h' o n b tk c f=>m g h' ⟨⟨Nat.le_trans a.1.1 n,λi j=>by rw[b i (Nat.lt_of_lt_of_le j a.1.1) (λq=>by have:=a.2.2 i q;omega)];exact a.1.2 i j⟩,o,λi j=>Nat.le_trans a.1.1 (tk i j)⟩
def Own.appH {t e:TypeId} {w:HidR K} (k:Own h0 h sz xs d) (i:qQ P t=some e) (n:gT P e=true) (m:szT P e=sz) (l:0<sz) (b:∀y∈ys,y.length=sz) (a:ys≠[])
  (g:(xs.length+ys.length)*yf P e<=lim) (j:xs.length+ys.length<=lim) (f:∀c h',Own h0 h' sz (xs++ys) c->K c h'):K5 (zt P false h.next t d (.sl sz ys tk) h) K w:=k.app i n m l b a g j f
end
def zGR (b c:UInt8):((b.toNat:Int)==(c.toNat:Int))=(b==c):=by
 by_cases e:b=c
 ·simp[e]
 ·rw[beq_eq_false_iff_ne.2 e,beq_eq_false_iff_ne.2 (λh=>e (UInt8.toNat_inj.1 ow))]
def DE (a b:Nat):decide ((a:Int)>(b:Int))=decide (a>b):=by
 by_cases e:a>b
 ·rw[decide_eq_true e,decide_eq_true ow]
 ·rw[decide_eq_false e,decide_eq_false ow]
def fq {p:α->Bool} {l:List α} (a:i<l.length) (b:p l[i]=true):l.any p=true:=List.any_eq_true.2 ⟨_,List.getElem_mem a,b⟩
def nS {p:α->Bool} {l:List α} (h:∀j (a:j<l.length),j<l.length->p l[j]=false):l.any p=false:=by
 rw[List.any_eq_false];intro x b;obtain⟨j,a,rfl⟩:=List.mem_iff_getElem.1 b;rw[h j a a];exact Bool.false_ne_true
def qG {p:α->Bool} {l:List α} (e:i<l.length) (b:∀j (b:j<l.length),j<i->p l[j]=false) (d:p l[i]=false):∀j (b:j<l.length),j<i+1->p l[j]=false:=λj c a=>by
 rcases Nat.lt_succ_iff_lt_or_eq.1 a with a|rfl
 ·exact b j c a
 ·exact d
open Go.Proofs.Tryz
open Go.Proofs
set_option maxRecDepth 100000
@[go_sem] theorem zGS (s:List UInt8) (h:Heap):sD prog 9 (.str s) h=some (.int .i64 s.length):=qj underlying9
variable {s:List UInt8}{P:Program}{n:Nat}{d:D}{h0 h:Heap}
def G6 (a:i<s.length):tJ prog 9 (.str s) (.int .i64 (i:Int))=some (.int .u8 (s[i].toNat:Int)):=wO underlying9 (List.getElem?_eq_getElem a)
def M6 {m n:Nat} (a:m<=n) (b:n<=s.length) (h:Heap):yi prog 9 (.str s) (some (.int .i64 (m:Int))) (some (.int .i64 (n:Int))) none h=some (.str ((s.take n).drop m)):=cR Uf underlying9 a b
def G7 (a:n<=s.length) (h:Heap):yi prog 9 (.str s) (some (.int .i64 (n:Int))) none none h=some (.str (s.drop n)):=lC Uf underlying9 a
def yL {l:List (List UInt8)} (a:zd 1 (yS l) d) (h:Heap):sD prog 31 d h=some (.int .i64 l.length):=by rw[ye a underlying31,zz]
def wD {l:List (List UInt8)} (a:zd 1 (yS l) d) (b:i<l.length):zP prog 31 d (.int .i64 (i:Int))=some (.iptr [.str l[i]] 0):=zW a yv uW (gA b)
def p8 (s:List UInt8) (nid:Nat) (h:Heap):zJ prog false nid 31 1 [(0, .str s)] h=some (.sl 1 [[.str s]] .full,h):=zy yv nj uW rfl rfl ow ow rfl rfl
def Ts (l m:List (List UInt8)):yS (l++m)=yS l++yS m:=by simp[yS]
def Own.str {l:List (List UInt8)} {x:List UInt8} {w:HidR K} (c:Own h0 h 1 (yS l) d) (e:l.length<=16777216) (b:∀a h',Own h0 h' 1 (yS (l++ [x])) a->K a h'):K5 (zt prog false h.next 31 d (.sl 1 [[.str x]] .full) h) K w:=
 c.appH yv jN uW ow (by simp) (by simp) (by simp only[zz,tF,List.length_cons,List.length_nil];unfold lim;omega) (by simp only[zz,List.length_cons,List.length_nil];unfold lim;omega) λa h' o=>b a h' (by rw[Ts];exact o)
end Go.V
