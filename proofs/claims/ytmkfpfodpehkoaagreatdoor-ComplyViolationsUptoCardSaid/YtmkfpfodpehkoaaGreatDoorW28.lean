/- Rules of the machine of abstract values, part 5. No condition. -/
import Derived.Test.YtmkfpfodpehkoaaGreatDoorW21
set_option linter.all false
set_option maxHeartbeats 8000000
namespace Go.V
structure HidS(k:D->Prop) where
def zJf(o:Option D)(k:D->Prop)(_:HidS k):Prop:=onS o k
@[go_sem ↓] theorem zFJ(o:Option D)(k:D->Prop):onS o k=zJf o k ⟨⟩:=(rfl)
@[go_sem ↓] theorem zD7(d:D)(k:D->Prop)(w:HidS k):zJf (some d) k w=k d:=(rfl)
structure HidR(k:D->Heap->Prop) where
def Ei(o:VR)(k:D->Heap->Prop)(_:HidR k):Prop:=onR o k
@[go_sem ↓] theorem zFI(o:VR)(k:D->Heap->Prop):onR o k=Ei o k ⟨⟩:=(rfl)
@[go_sem ↓] theorem zD5(d:D)(h:Heap)(k:D->Heap->Prop)(w:HidR k):Ei (some (d,h)) k w=k d h:=(rfl)
structure HidH(k:Heap->Prop) where
def zJe(o:Option Heap)(k:Heap->Prop)(_:HidH k):Prop:=onH o k
@[go_sem ↓] theorem zFF(o:Option Heap)(k:Heap->Prop):onH o k=zJe o k ⟨⟩:=(rfl)
@[go_sem ↓] theorem zD1(h:Heap)(k:Heap->Prop)(w:HidH k):zJe (some h) k w=k h:=(rfl)
structure HidP(x y:Prop) where
def zCV(g:Bool)(x y:Prop)(_:HidP x y):Prop:=gif g x y
@[go_sem ↓] theorem zE5(g:Bool)(x y:Prop):gif g x y=zCV g x y ⟨⟩:=(rfl)
@[go_sem ↓] theorem zCW(x y:Prop)(w:HidP x y):zCV true x y w=x:=(rfl)
@[go_sem ↓] theorem By(x y:Prop)(w:HidP x y):zCV false x y w=y:=(rfl)
def Hw(d:D)(x y:Prop)(_:HidP x y):Prop:=onB d x y
@[go_sem ↓] theorem zFD(d:D)(x y:Prop):onB d x y=Hw d x y ⟨⟩:=(rfl)
@[go_sem ↓] theorem zDy(x y:Prop)(w:HidP x y):Hw (.bool true) x y w=x:=(rfl)
@[go_sem ↓] theorem B4(x y:Prop)(w:HidP x y):Hw (.bool false) x y w=y:=(rfl)
variable{b:Bool}{P:Program}{ys:List (List D)}{tk:Tk}{K:D->Heap->Prop}{α:Type}{i n:Nat}{s:List UInt8}{d:D}{h0 h:Heap}
def JF{x y:Prop}{w:HidP x y}(h1:b=true->x)(a:b=false->y):Hw (.bool b) x y w:=by
 cases b
 ·exact a rfl
 ·exact h1 rfl
@[go_sem] theorem zIP(b:Bool):vun .not (.bool b)=some (.bool (!b)):=(rfl)
section
variable{P:Program}{g:Cfg}{n:Nat}{ro:Option Nat}{c:Code}{Q:Exit->Frm->Heap->Prop}{fr:Frm}{h:Heap}
def zV(J:Nat->Frm->Heap->Prop)(len:Nat)(k:len<=1073741824)(f:J 0 fr h)
  (step:∀i fr h,i<len->decide ((i:Int)<(len:Int))=true->IntKind.i64.wrap ((i:Int)+1)=((i+1:Nat):Int)->J i fr h->vwp P g n ro c (gm (J (i+1)) Q) fr h)
  (last:∀fr h,decide ((len:Int)<(len:Int))=false->J len fr h->vwp P g n ro c (gm (λ_ _=>False) Q) fr h):vwp P g n ro (.loop c) Q fr h:=by
 refine qx J len f λi fr h m j=> ?_;by_cases a:i<len
 ·refine rH c ?_ fr h (step i fr h a (zN ow) (qT (by unfold lim;omega)) j);intro e d h' b;cases e with
  |normal=>exact⟨a,b⟩
  |_=>exact b
 ·have l:i=len:=ow;subst l;refine rH c ?_ fr h (last fr h (zO ow) j);intro e d h' b;cases e with
  |normal=>exact b.elim
  |_=>exact b
end
section
variable{P:Program}{t e:TypeId}{s:List UInt8}{h:Heap}
def WR(a:X5 P t=none)(d:P.underlying t=some .string){k k':IntKind}{m n:Nat}(b:m<=n)(c:n<=s.length):wi P t (.str s) (some (.int k (m:Int))) (some (.int k' (n:Int))) none h=some (.str ((s.take n).drop m)):=by
 simp[wi,a,mj,d,to,Zo,Xy,c,b]
@[go_sem ↓] theorem zFZ(a b:List UInt8):Ia .geq a b=some (.bool (!l8 a b)):=(rfl)
@[go_sem ↓] theorem zFa(a b:List UInt8):Ia .gtr a b=some (.bool !(l8 a b||a==b)):=(rfl)
end
def Own(h0 h:Heap)(sz:Nat)(xs:List (List D))(d:D):Prop:=Ext h0 h/\rc h sz xs d/\∀i,pT d i->h0.next<=i
section
variable{h0 h h':Heap}{sz:Nat}{xs:List (List D)}{d:D}
def Own.start(a:Ext h0 h)(sz:Nat):Own h0 h sz [] .nilsl:=⟨a,.inl ⟨rfl,rfl⟩,λ_ b=>b.elim⟩
def Own.isSl(a:Own h0 h sz xs d):ye sz xs d:=a.2.1.isSl
def Own.fin(a:Own h0 h sz xs d)(b:∀x∈xs,sH x):Ext h0 h/\below h0.next (wD d)/\Fin sz xs (wD d):=
 ⟨a.1,qw (yg _) _ (a.2.1.fin b).1,(a.2.1.fin b).2⟩
def Own.ext(b:Own h0 h sz xs d)(a:Ext h h'):Own h0 h' sz xs d:=
 ⟨b.1.trans a,b.2.1.keep a.2 a.1,b.2.2⟩
variable{P:Program}
def Own.app{t e:TypeId}(a:Own h0 h sz xs d)(r:tQ P t=some e)(w:X0 P e=true)(v:szT P e=sz)(u:0<sz)(l:∀y∈ys,y.length=sz)(k:ys≠[])
  (p:(xs.length+ys.length)*uW P e<=lim) (s:xs.length+ys.length<=lim) (m:∀g h',Own h0 h' sz (xs++ys) g->K g h'):onR (qh P false h.next t d (.sl sz ys tk) h) K:=
 a.2.1.app2 r w v u l k p s λg h' o n b tk c f=>m g h' ⟨⟨za a.1.1 n,λi j=>by rw[b i (zy j a.1.1) (λq=>by have:=a.2.2 i q;omega)];exact a.1.2 i j⟩,o,λi j=>za a.1.1 (tk i j)⟩
def Own.appH{t e:TypeId}{w:HidR K}(k:Own h0 h sz xs d)(i:tQ P t=some e)(n:X0 P e=true)(m:szT P e=sz)(l:0<sz)(b:∀y∈ys,y.length=sz)(a:ys≠[])
  (g:(xs.length+ys.length)*uW P e<=lim) (j:xs.length+ys.length<=lim) (f:∀c h',Own h0 h' sz (xs++ys) c->K c h'):Ei (qh P false h.next t d (.sl sz ys tk) h) K w:=k.app i n m l b a g j f
end
def GS(b c:UInt8):((b.toNat:Int)==(c.toNat:Int))=(b==c):=by
 by_cases e:b=c
 ·simp[e]
 ·rw[qv.2 e,qv.2 (λh=>e (j8.1 ow))]
theorem Qi(a b:Nat):decide ((a:Int)>(b:Int))=decide (a>b):=by
 by_cases e:a>b
 ·rw[zN e,zN ow]
 ·rw[zO e,zO ow]
def pW{p:α->Bool}{l:List α}(a:i<l.length)(b:p l[i]=true):l.any p=true:=yZ.2 ⟨_,zG a,b⟩
def rO{p:α->Bool}{l:List α}(h:∀j (a:j<l.length),j<l.length->p l[j]=false):l.any p=false:=by
 rw[rZ];intro x b;obtain⟨j,a,rfl⟩:=yH.1 b;rw[h j a a];exact zf
def qp{p:α->Bool}{l:List α}(e:i<l.length)(b:∀j (b:j<l.length),j<i->p l[j]=false)(d:p l[i]=false):∀j (b:j<l.length),j<i+1->p l[j]=false:=λj c a=>by
 rcases zo.1 a with a|rfl
 ·exact b j c a
 ·exact d
open Go.Proofs.Tryz
open Go.Proofs
set_option maxRecDepth 100000
@[go_sem] theorem zGb(s:List UInt8)(h:Heap):js prog 9 (.str s) h=some (.int .i64 s.length):=pN underlying9
variable{s:List UInt8}{P:Program}{n:Nat}{d:D}{h0 h:Heap}
def dF(a:i<s.length):kV prog 9 (.str s) (.int .i64 (i:Int))=some (.int .u8 (s[i].toNat:Int)):=mA underlying9 (zE a)
def KS{m n:Nat}(a:m<=n)(b:n<=s.length)(h:Heap):wi prog 9 (.str s) (some (.int .i64 (m:Int))) (some (.int .i64 (n:Int))) none h=some (.str ((s.take n).drop m)):=WR Pm underlying9 a b
def Ee(a:n<=s.length)(h:Heap):wi prog 9 (.str s) (some (.int .i64 (n:Int))) none none h=some (.str (s.drop n)):=bf Pm underlying9 a
def wd{l:List (List UInt8)}(a:ye 1 (uH l) d)(h:Heap):js prog 31 d h=some (.int .i64 l.length):=by rw[uV a underlying31,wK]
def t9{l:List (List UInt8)}(a:ye 1 (uH l) d)(b:i<l.length):yP prog 31 d (.int .i64 (i:Int))=some (.iptr [.str l[i]] 0):=qA a t5 md (Z6 b)
def jN(s:List UInt8)(nid:Nat)(h:Heap):yB prog false nid 31 1 [(0,.str s)] h=some (.sl 1 [[.str s]] .full,h):=wP t5 Xx md rfl rfl ow ow rfl rfl
def Nq(l m:List (List UInt8)):uH (l++m)=uH l++uH m:=by simp[uH]
def Own.str{l:List (List UInt8)}{x:List UInt8}{w:HidR K}(c:Own h0 h 1 (uH l) d)(e:l.length<=16777216)(b:∀a h',Own h0 h' 1 (uH (l++ [x])) a->K a h'):Ei (qh prog false h.next 31 d (.sl 1 [[.str x]] .full) h) K w:=
 c.appH t5 VN md ow (by simp) (by simp) (by simp only[wK,kw,zm,yw];unfold lim;omega) (by simp only[wK,zm,yw];unfold lim;omega) λa h' o=>b a h' (by rw[Nq];exact o)
end Go.V
