/- Rules of the machine of abstract values, part 4. No condition. -/
import Derived.Test.YtkenagjlanhnmaaGreatDoorW21
set_option linter.all false
set_option maxHeartbeats 8000000
namespace Go.V
structure HidS(k:D->Prop) where
def zNI(o:Option D)(k:D->Prop)(_:HidS k):Prop:=onS o k
@[go_sem ↓] theorem zHp(o:Option D)(k:D->Prop):onS o k=zNI o k ⟨⟩:=(rfl)
@[go_sem ↓] theorem zGW(d:D)(k:D->Prop)(w:HidS k):zNI (some d) k w=k d:=(rfl)
structure HidR(k:D->Heap->Prop) where
def IE(o:VR)(k:D->Heap->Prop)(_:HidR k):Prop:=onR o k
@[go_sem ↓] theorem zHo(o:VR)(k:D->Heap->Prop):onR o k=IE o k ⟨⟩:=(rfl)
@[go_sem ↓] theorem zGU(d:D)(h:Heap)(k:D->Heap->Prop)(w:HidR k):IE (some (d,h)) k w=k d h:=(rfl)
structure HidH(k:Heap->Prop) where
def zNH(o:Option Heap)(k:Heap->Prop)(_:HidH k):Prop:=onH o k
@[go_sem ↓] theorem zHl(o:Option Heap)(k:Heap->Prop):onH o k=zNH o k ⟨⟩:=(rfl)
@[go_sem ↓] theorem zGQ(h:Heap)(k:Heap->Prop)(w:HidH k):zNH (some h) k w=k h:=(rfl)
structure HidP(x y:Prop) where
def zEb(g:Bool)(x y:Prop)(_:HidP x y):Prop:=gif g x y
@[go_sem ↓] theorem zHZ(g:Bool)(x y:Prop):gif g x y=zEb g x y ⟨⟩:=(rfl)
@[go_sem ↓] theorem zEc(x y:Prop)(w:HidP x y):zEb true x y w=x:=(rfl)
@[go_sem ↓] theorem zBP(x y:Prop)(w:HidP x y):zEb false x y w=y:=(rfl)
def G5(d:D)(x y:Prop)(_:HidP x y):Prop:=onB d x y
@[go_sem ↓] theorem zHj(d:D)(x y:Prop):onB d x y=G5 d x y ⟨⟩:=(rfl)
@[go_sem ↓] theorem zGN(x y:Prop)(w:HidP x y):G5 (.bool true) x y w=x:=(rfl)
@[go_sem ↓] theorem zBU(x y:Prop)(w:HidP x y):G5 (.bool false) x y w=y:=(rfl)
variable{b:Bool}{P:Program}{ys:List (List D)}{tk:Tk}{K:D->Heap->Prop}{α:Type}{i n:Nat}{s:List UInt8}{d:D}{h0 h:Heap}
def IC{x y:Prop}{w:HidP x y}(h1:b=true->x)(a:b=false->y):G5 (.bool b) x y w:=by
 cases b
 ·exact a rfl
 ·exact h1 rfl
@[go_sem] theorem zMC(b:Bool):vun .not (.bool b)=some (.bool (!b)):=(rfl)
section
variable{P:Program}{g:Cfg}{n:Nat}{ro:Option Nat}{c:Code}{Q:Exit->Frm->Heap->Prop}{fr:Frm}{h:Heap}
def zd(J:Nat->Frm->Heap->Prop)(len:Nat)(k:len<=1073741824)(f:J 0 fr h)
  (step:∀i fr h,i<len->decide ((i:Int)<(len:Int))=true->IntKind.i64.wrap ((i:Int)+1)=((i+1:Nat):Int)->J i fr h->vwp P g n ro c (cW (J (i+1)) Q) fr h)
  (last:∀fr h,decide ((len:Int)<(len:Int))=false->J len fr h->vwp P g n ro c (cW (λ_ _=>False) Q) fr h):vwp P g n ro (.loop c) Q fr h:=by
 refine qx J len f λi fr h m j=> ?_;by_cases a:i<len
 ·refine rT c ?_ fr h (step i fr h a (zS ow) (qR (by unfold lim;omega)) j);intro e d h' b;cases e with
  |normal=>exact⟨a,b⟩
  |_=>exact b
 ·have l:i=len:=ow;subst l;refine rT c ?_ fr h (last fr h (zP ow) j);intro e d h' b;cases e with
  |normal=>exact b.elim
  |_=>exact b
end
section
variable{P:Program}{t e:TypeId}{s:List UInt8}{h:Heap}
def Wl(a:Wt P t=none)(d:P.underlying t=some .string){k k':IntKind}{m n:Nat}(b:m<=n)(c:n<=s.length):uZ P t (.str s) (some (.int k (m:Int))) (some (.int k' (n:Int))) none h=some (.str ((s.take n).drop m)):=by
 simp[uZ,a,fR,d,rR,VA,Td,c,b]
@[go_sem ↓] theorem zH8(a b:List UInt8):Hm .geq a b=some (.bool (!WS a b)):=(rfl)
@[go_sem ↓] theorem zH9(a b:List UInt8):Hm .gtr a b=some (.bool !(WS a b||a==b)):=(rfl)
end
def Own(h0 h:Heap)(sz:Nat)(xs:List (List D))(d:D):Prop:=Ext h0 h/\rY h sz xs d/\∀i,sr d i->h0.next<=i
section
variable{h0 h h':Heap}{sz:Nat}{xs:List (List D)}{d:D}
def Own.start(a:Ext h0 h)(sz:Nat):Own h0 h sz [] .nilsl:=⟨a,.inl ⟨rfl,rfl⟩,λ_ b=>b.elim⟩
def Own.isSl(a:Own h0 h sz xs d):yi sz xs d:=a.2.1.isSl
def Own.fin(a:Own h0 h sz xs d)(b:∀x∈xs,wr x):Ext h0 h/\below h0.next (qD d)/\Fin sz xs (qD d):=
 ⟨a.1,qF (yC _) _ (a.2.1.fin b).1,(a.2.1.fin b).2⟩
def Own.ext(b:Own h0 h sz xs d)(a:Ext h h'):Own h0 h' sz xs d:=
 ⟨b.1.trans a,b.2.1.keep a.2 a.1,b.2.2⟩
def Own.flat(a:Own h0 h sz xs d):d.flat=true/\d.cells= [d]/\d.notTuple=true:=by
 rcases a.2.1 with⟨rfl,_⟩ | ⟨t,rfl,_⟩ <;>exact⟨rfl,rfl,rfl⟩
variable{P:Program}
def Own.app{t e:TypeId}(a:Own h0 h sz xs d)(r:tG P t=some e)(w:ZW P e=true)(v:szT P e=sz)(u:0<sz)(l:∀y∈ys,y.length=sz)(k:ys≠[])
  (p:(xs.length+ys.length)*uE P e<=lim) (s:xs.length+ys.length<=lim) (m:∀g h',Own h0 h' sz (xs++ys) g->K g h'):onR (qg P false h.next t d (.sl sz ys tk) h) K:=
 a.2.1.app2 r w v u l k p s λg h' o n b tk c f=>m g h' ⟨⟨zf a.1.1 n,λi j=>by rw[b i (zq j a.1.1) (λq=>by have:=a.2.2 i q;omega)];exact a.1.2 i j⟩,o,λi j=>zf a.1.1 (tk i j)⟩
def Own.appH{t e:TypeId}{w:HidR K}(k:Own h0 h sz xs d)(i:tG P t=some e)(n:ZW P e=true)(m:szT P e=sz)(l:0<sz)(b:∀y∈ys,y.length=sz)(a:ys≠[])
  (g:(xs.length+ys.length)*uE P e<=lim) (j:xs.length+ys.length<=lim) (f:∀c h',Own h0 h' sz (xs++ys) c->K c h'):IE (qg P false h.next t d (.sl sz ys tk) h) K w:=k.app i n m l b a g j f
end
def zLz(b c:UInt8):((b.toNat:Int)==(c.toNat:Int))=(b==c):=by
 by_cases e:b=c
 ·simp[e]
 ·rw[yr.2 e,yr.2 (λh=>e (gS.1 ow))]
def AL(a b:Nat):decide ((a:Int)>(b:Int))=decide (a>b):=by
 by_cases e:a>b
 ·rw[zS e,zS ow]
 ·rw[zP e,zP ow]
def Yl{p:α->Bool}{l:List α}(a:i<l.length)(b:p l[i]=true):l.any p=true:=yu.2 ⟨_,zH a,b⟩
def dT{p:α->Bool}{l:List α}(h:∀j (a:j<l.length),j<l.length->p l[j]=false):l.any p=false:=by
 rw[pC];intro x b;obtain⟨j,a,rfl⟩:=yD.1 b;rw[h j a a];exact zZ
def tB{p:α->Bool}{l:List α}(e:i<l.length)(b:∀j (b:j<l.length),j<i->p l[j]=false)(d:p l[i]=false):∀j (b:j<l.length),j<i+1->p l[j]=false:=λj c a=>by
 rcases z7.1 a with a|rfl
 ·exact b j c a
 ·exact d
open Go.Proofs.Tryz
open Go.Proofs
set_option maxRecDepth 100000
@[go_sem] theorem zJB(s:List UInt8)(h:Heap):mC prog 9 (.str s) h=some (.int .i64 s.length):=sJ underlying9
variable{s:List UInt8}{P:Program}{n:Nat}{d:D}{h0 h:Heap}
def Fs(a:i<s.length):nn prog 9 (.str s) (.int .i64 (i:Int))=some (.int .u8 (s[i].toNat:Int)):=rK underlying9 (zB a)
def JW{m n:Nat}(a:m<=n)(b:n<=s.length)(h:Heap):uZ prog 9 (.str s) (some (.int .i64 (m:Int))) (some (.int .i64 (n:Int))) none h=some (.str ((s.take n).drop m)):=Wl NO underlying9 a b
def Cx(a:n<=s.length)(h:Heap):uZ prog 9 (.str s) (some (.int .i64 (n:Int))) none none h=some (.str (s.drop n)):=aP NO underlying9 a
def wh{l:List (List UInt8)}(a:yi 1 (wn l) d)(h:Heap):mC prog 45 d h=some (.int .i64 l.length):=by rw[wa a underlying45,qw]
def rP{l:List (List UInt8)}(a:yi 1 (wn l) d)(b:i<l.length):yt prog 45 d (.int .i64 (i:Int))=some (.iptr [.str l[i]] 0):=yn a uK pz (Yc b)
def gu(s:List UInt8)(nid:Nat)(h:Heap):yB prog false nid 45 1 [(0,.str s)] h=some (.sl 1 [[.str s]] .full,h):=qW uK fV pz rfl rfl ow ow rfl rfl
def Me(l m:List (List UInt8)):wn (l++m)=wn l++wn m:=by simp[wn]
def Own.str{l:List (List UInt8)}{x:List UInt8}{w:HidR K}(c:Own h0 h 1 (wn l) d)(e:l.length<=16777216)(b:∀a h',Own h0 h' 1 (wn (l++ [x])) a->K a h'):IE (qg prog false h.next 45 d (.sl 1 [[.str x]] .full) h) K w:=
 c.appH uK aU pz ow (by simp) (by simp) (by simp only[qw,oP,zm,yo];unfold lim;omega) (by simp only[qw,zm,yo];unfold lim;omega) λa h' o=>b a h' (by rw[Me];exact o)
end Go.V
