/- Rules of the machine of abstract values, part 5. No condition. -/
import Derived.Test.YthcjhnmnhfgdiaaGreatDoorW21
set_option linter.all false
set_option maxHeartbeats 8000000
namespace Go.V
structure HidS (k:D->Prop) where
def zHX (o:Option D) (k:D->Prop) (_:HidS k):Prop:=onS o k
@[go_sem ↓] theorem zCm (o:Option D) (k:D->Prop):onS o k=zHX o k ⟨⟩:=(rfl)
@[go_sem ↓] theorem zBB (d:D) (k:D->Prop) (w:HidS k):zHX (some d) k w=k d:=(rfl)
structure HidR (k:D->Heap->Prop) where
def Km (o:VR) (k:D->Heap->Prop) (_:HidR k):Prop:=onR o k
@[go_sem ↓] theorem zCn (o:VR) (k:D->Heap->Prop):onR o k=Km o k ⟨⟩:=(rfl)
@[go_sem ↓] theorem zBC (d:D) (h:Heap) (k:D->Heap->Prop) (w:HidR k):Km (some (d,h)) k w=k d h:=(rfl)
structure HidH (k:Heap->Prop) where
def zHY (o:Option Heap) (k:Heap->Prop) (_:HidH k):Prop:=onH o k
@[go_sem ↓] theorem zCo (o:Option Heap) (k:Heap->Prop):onH o k=zHY o k ⟨⟩:=(rfl)
@[go_sem ↓] theorem zBD (h:Heap) (k:Heap->Prop) (w:HidH k):zHY (some h) k w=k h:=(rfl)
structure HidP (x y:Prop) where
def zBE (g:Bool) (x y:Prop) (_:HidP x y):Prop:=gif g x y
@[go_sem ↓] theorem zCp (g:Bool) (x y:Prop):gif g x y=zBE g x y ⟨⟩:=(rfl)
@[go_sem ↓] theorem zBF (x y:Prop) (w:HidP x y):zBE true x y w=x:=(rfl)
@[go_sem ↓] theorem Cv (x y:Prop) (w:HidP x y):zBE false x y w=y:=(rfl)
def Jz (d:D) (x y:Prop) (_:HidP x y):Prop:=onB d x y
@[go_sem ↓] theorem zCq (d:D) (x y:Prop):onB d x y=Jz d x y ⟨⟩:=(rfl)
@[go_sem ↓] theorem zBG (x y:Prop) (w:HidP x y):Jz (.bool true) x y w=x:=(rfl)
@[go_sem ↓] theorem Cw (x y:Prop) (w:HidP x y):Jz (.bool false) x y w=y:=(rfl)
variable {b:Bool}{P:Program}{ys:List (List D)}{tk:Tk}{K:D->Heap->Prop}{α:Type}{i n:Nat}{s:List UInt8}{d:D}{h0 h:Heap}
def Mk {x y:Prop} {w:HidP x y} (h1:b=true->x) (a:b=false->y):Jz (.bool b) x y w:=by
 cases b
 ·exact a rfl
 ·exact h1 rfl
@[go_sem] theorem zFw (b:Bool):vun .not (.bool b)=some (.bool (!b)):=(rfl)
section
variable {P:Program} {g:Cfg} {n:Nat} {ro:Option Nat} {c:Code} {Q:Exit->Frm->Heap->Prop} {fr:Frm} {h:Heap}
def zD (J:Nat->Frm->Heap->Prop) (len:Nat) (k:len<=1073741824) (f:J 0 fr h)
  (step:∀i fr h,i<len->decide ((i:Int)<(len:Int))=true->IntKind.i64.wrap ((i:Int)+1)=((i+1:Nat):Int)->J i fr h->vwp P g n ro c (nv (J (i+1)) Q) fr h)
  (last:∀fr h,decide ((len:Int)<(len:Int))=false->J len fr h->vwp P g n ro c (nv (λ_ _=>False) Q) fr h):vwp P g n ro (.loop c) Q fr h:=by
 refine yG J len f λi fr h m j=> ?_;by_cases a:i<len
 ·refine wT c ?_ fr h (step i fr h a (decide_eq_true ow) (zx (by unfold lim;omega)) j);intro e d h' b;cases e with
  |normal=>exact⟨a,b⟩
  |_=>exact b
 ·have l:i=len:=ow;subst l;refine wT c ?_ fr h (last fr h (decide_eq_false ow) j);intro e d h' b;cases e with
  |normal=>exact b.elim
  |_=>exact b
end
section
variable {P:Program} {t e:TypeId} {s:List UInt8} {h:Heap}
def cS (a:cn P t=none) (d:P.underlying t=some .string) {k k':IntKind} {m n:Nat} (b:m<=n) (c:n<=s.length):yj P t (.str s) (some (.int k (m:Int))) (some (.int k' (n:Int))) none h=some (.str ((s.take n).drop m)):=by
 simp[yj,a,p5,d,wQ,cq,YD,c,b]
@[go_sem ↓] theorem zCr (a b:List UInt8):Ke .geq a b=some (.bool (!cE a b)):=(rfl)
@[go_sem ↓] theorem zCs (a b:List UInt8):Ke .gtr a b=some (.bool !(cE a b||a==b)):=(rfl)
end
def Own (h0 h:Heap) (sz:Nat) (xs:List (List D)) (d:D):Prop:=Ext h0 h/\wb h sz xs d/\∀i,wc d i->h0.next<=i
section
variable {h0 h h':Heap} {sz:Nat} {xs:List (List D)} {d:D}
def Own.start (a:Ext h0 h) (sz:Nat):Own h0 h sz [] .nilsl:=⟨a, .inl ⟨rfl,rfl⟩,λ_ b=>b.elim⟩
def Own.isSl (a:Own h0 h sz xs d):za sz xs d:=a.2.1.isSl
def Own.fin (a:Own h0 h sz xs d) (b:∀x∈xs,yi x):Ext h0 h/\below h0.next (zh d)/\Fin sz xs (zh d):=
 ⟨a.1,zz (Nat.zero_le _) _ (a.2.1.fin b).1,(a.2.1.fin b).2⟩
def Own.ext (b:Own h0 h sz xs d) (a:Ext h h'):Own h0 h' sz xs d:=
 ⟨b.1.trans a,b.2.1.keep a.2 a.1,b.2.2⟩
variable {P:Program}
def Own.app {t e:TypeId} (a:Own h0 h sz xs d) (r:qS P t=some e) (w:j9 P e=true) (v:szT P e=sz) (u:0<sz) (l:∀y∈ys,y.length=sz) (k:ys≠[])
  (p:(xs.length+ys.length)*yZ P e<=lim) (s:xs.length+ys.length<=lim) (m:∀g h',Own h0 h' sz (xs++ys) g->K g h'):onR (zw P false h.next t d (.sl sz ys tk) h) K:=
 a.2.1.app2 r w v u l k p s λg h' o n b tk c f=>m g h' ⟨⟨Nat.le_trans a.1.1 n,λi j=>by rw[b i (Nat.lt_of_lt_of_le j a.1.1) (λq=>by have:=a.2.2 i q;omega)];exact a.1.2 i j⟩,o,λi j=>Nat.le_trans a.1.1 (tk i j)⟩
def Own.appH {t e:TypeId} {w:HidR K} (k:Own h0 h sz xs d) (i:qS P t=some e) (n:j9 P e=true) (m:szT P e=sz) (l:0<sz) (b:∀y∈ys,y.length=sz) (a:ys≠[])
  (g:(xs.length+ys.length)*yZ P e<=lim) (j:xs.length+ys.length<=lim) (f:∀c h',Own h0 h' sz (xs++ys) c->K c h'):Km (zw P false h.next t d (.sl sz ys tk) h) K w:=k.app i n m l b a g j f
end
def zFx (b c:UInt8):((b.toNat:Int)==(c.toNat:Int))=(b==c):=by
 by_cases e:b=c
 ·simp[e]
 ·rw[beq_eq_false_iff_ne.2 e,beq_eq_false_iff_ne.2 (λh=>e (UInt8.toNat_inj.1 ow))]
def El (a b:Nat):decide ((a:Int)>(b:Int))=decide (a>b):=by
 by_cases e:a>b
 ·rw[decide_eq_true e,decide_eq_true ow]
 ·rw[decide_eq_false e,decide_eq_false ow]
def dG {p:α->Bool} {l:List α} (a:i<l.length) (b:p l[i]=true):l.any p=true:=List.any_eq_true.2 ⟨_,List.getElem_mem a,b⟩
def nc {p:α->Bool} {l:List α} (h:∀j (a:j<l.length),j<l.length->p l[j]=false):l.any p=false:=by
 rw[List.any_eq_false];intro x b;obtain⟨j,a,rfl⟩:=List.mem_iff_getElem.1 b;rw[h j a a];exact Bool.false_ne_true
def qQ {p:α->Bool} {l:List α} (e:i<l.length) (b:∀j (b:j<l.length),j<i->p l[j]=false) (d:p l[i]=false):∀j (b:j<l.length),j<i+1->p l[j]=false:=λj c a=>by
 rcases Nat.lt_succ_iff_lt_or_eq.1 a with a|rfl
 ·exact b j c a
 ·exact d
open Go.Proofs.Tryz
open Go.Proofs
set_option maxRecDepth 100000
@[go_sem] theorem zFy (s:List UInt8) (h:Heap):sD prog 9 (.str s) h=some (.int .i64 s.length):=qn underlying9
variable {s:List UInt8}{P:Program}{n:Nat}{d:D}{h0 h:Heap}
def Gd (a:i<s.length):tR prog 9 (.str s) (.int .i64 (i:Int))=some (.int .u8 (s[i].toNat:Int)):=wM underlying9 (List.getElem?_eq_getElem a)
def Ml {m n:Nat} (a:m<=n) (b:n<=s.length) (h:Heap):yj prog 9 (.str s) (some (.int .i64 (m:Int))) (some (.int .i64 (n:Int))) none h=some (.str ((s.take n).drop m)):=cS UZ underlying9 a b
def Ge (a:n<=s.length) (h:Heap):yj prog 9 (.str s) (some (.int .i64 (n:Int))) none none h=some (.str (s.drop n)):=lL UZ underlying9 a
def yQ {l:List (List UInt8)} (a:za 1 (yV l) d) (h:Heap):sD prog 31 d h=some (.int .i64 l.length):=by rw[yo a underlying31,z8]
def wR {l:List (List UInt8)} (a:za 1 (yV l) d) (b:i<l.length):zT prog 31 d (.int .i64 (i:Int))=some (.iptr [.str l[i]] 0):=zd a yu ui (gP b)
def oN (s:List UInt8) (nid:Nat) (h:Heap):zI prog false nid 31 1 [(0, .str s)] h=some (.sl 1 [[.str s]] .full,h):=zy yu nz ui rfl rfl ow ow rfl rfl
def Th (l m:List (List UInt8)):yV (l++m)=yV l++yV m:=by simp[yV]
def Own.str {l:List (List UInt8)} {x:List UInt8} {w:HidR K} (c:Own h0 h 1 (yV l) d) (e:l.length<=16777216) (b:∀a h',Own h0 h' 1 (yV (l++ [x])) a->K a h'):Km (zw prog false h.next 31 d (.sl 1 [[.str x]] .full) h) K w:=
 c.appH yu jV ui ow (by simp) (by simp) (by simp only[z8,tM,List.length_cons,List.length_nil];unfold lim;omega) (by simp only[z8,List.length_cons,List.length_nil];unfold lim;omega) λa h' o=>b a h' (by rw[Th];exact o)
end Go.V
