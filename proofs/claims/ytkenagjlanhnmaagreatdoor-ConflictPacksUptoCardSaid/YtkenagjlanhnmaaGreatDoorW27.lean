/- Rules of the machine of abstract values, part 4. No condition. -/
import Derived.Test.YtkenagjlanhnmaaGreatDoorW19
set_option linter.all false
set_option maxHeartbeats 8000000
namespace Go.V
structure HidS(k:D->Prop) where
def zPg(o:Option D)(k:D->Prop)(_:HidS k):Prop:=onS o k
def zJz(o:Option D)(k:D->Prop):onS o k=zPg o k ⟨⟩:=(rfl)
def zIT(d:D)(k:D->Prop)(w:HidS k):zPg (some d) k w=k d:=(rfl)
structure HidR(k:D->Heap->Prop) where
def Hs(o:VR)(k:D->Heap->Prop)(_:HidR k):Prop:=onR o k
def zJy(o:VR)(k:D->Heap->Prop):onR o k=Hs o k ⟨⟩:=(rfl)
def zIR(d:D)(h:Heap)(k:D->Heap->Prop)(w:HidR k):Hs (some (d,h)) k w=k d h:=(rfl)
structure HidH(k:Heap->Prop) where
def zPf(o:Option Heap)(k:Heap->Prop)(_:HidH k):Prop:=onH o k
def zJv(o:Option Heap)(k:Heap->Prop):onH o k=zPf o k ⟨⟩:=(rfl)
def zIM(h:Heap)(k:Heap->Prop)(w:HidH k):zPf (some h) k w=k h:=(rfl)
structure HidP(x y:Prop) where
def zGR(g:Bool)(x y:Prop)(_:HidP x y):Prop:=gif g x y
def zJd(g:Bool)(x y:Prop):gif g x y=zGR g x y ⟨⟩:=(rfl)
def zGS(x y:Prop)(w:HidP x y):zGR true x y w=x:=(rfl)
def zC4(x y:Prop)(w:HidP x y):zGR false x y w=y:=(rfl)
def E8(d:D)(x y:Prop)(_:HidP x y):Prop:=onB d x y
def zJt(d:D)(x y:Prop):onB d x y=E8 d x y ⟨⟩:=(rfl)
def zIJ(x y:Prop)(w:HidP x y):E8 (.bool true) x y w=x:=(rfl)
def zC9(x y:Prop)(w:HidP x y):E8 (.bool false) x y w=y:=(rfl)
attribute[go_sem ↓] zJz zIT zJy zIR zJv zIM zJd zGS zC4 zJt zIJ zC9
variable{b:Bool}{P:Program}{ys:List (List D)}{tk:Tk}{K:D->Heap->Prop}{α:Type}{i n:Nat}{s:List UInt8}{d:D}{h0 h:Heap}
def Hq{x y:Prop}{w:HidP x y}(h1:b=true->x)(a:b=false->y):E8 (.bool b) x y w:=by
 cases b
 .exact a rfl
 .exact h1 rfl
@[go_sem] def zNZ(b:Bool):vun .not (.bool b)=some (.bool (!b)):=(rfl)
section
variable{P:Program}{g:Cfg}{n:Nat}{ro:Option Nat}{c:Code}{Q:Exit->Frm->Heap->Prop}{fr:Frm}{h:Heap}
def zZ(J:Nat->Frm->Heap->Prop)(len:Nat)(k:len<=1073741824)(f:J 0 fr h)
  (step:∀i fr h,i<len->decide ((i:Int)<(len:Int))=true->IntKind.i64.wrap ((i:Int)+1)=((i+1:Nat):Int)->J i fr h->vwp P g n ro c (bX (J (i+1)) Q) fr h)
  (last:∀fr h,decide ((len:Int)<(len:Int))=false->J len fr h->vwp P g n ro c (bX (λ_ _=>False) Q) fr h):vwp P g n ro (.loop c) Q fr h:=by
 refine ql J len f λi fr h m j=> ?_;by_cases a:i<len
 .refine rW c ?_ fr h (step i fr h a (zR ow) (qR jL) j)
  intro e d h' b;cases e with
  |normal=>exact⟨a,b⟩
  |_=>exact b
 .have l:i=len:=ow
  subst l;refine rW c ?_ fr h (last fr h (zO ow) j);intro e d h' b;cases e with
  |normal=>exact b.elim
  |_=>exact b
end
section
variable{P:Program}{t e:TypeId}{s:List UInt8}{h:Heap}
def Vm(a:Vt P t=none)(d:P.underlying t=some .string){k k':IntKind}{m n:Nat}(b:m<=n)(c:n<=s.length):ww P t (.str s) (some (.int k (m:Int))) (some (.int k' (n:Int))) none h=some (.str ((s.take n).drop m)):=by
 simp[ww,a,dC,d,rT,V8,Ri,c,b]
@[go_sem ↓] def zKJ(a b:List UInt8):Fa .geq a b=some (.bool (!VN a b)):=(rfl)
@[go_sem ↓] def zKK(a b:List UInt8):Fa .gtr a b=some (.bool !(VN a b||a==b)):=(rfl)
end
def Own(h0 h:Heap)(sz:Nat)(xs:List (List D))(d:D):Prop:=Ext h0 h/\rY h sz xs d/\∀i,sQ d i->h0.next<=i
section
variable{h0 h h':Heap}{sz:Nat}{xs:List (List D)}{d:D}
def Own.start(a:Ext h0 h)(sz:Nat):Own h0 h sz [] .nilsl:=⟨a,.inl ⟨rfl,rfl⟩,λ_ b=>b.elim⟩
def Own.isSl(a:Own h0 h sz xs d):yg sz xs d:=a.2.1.isSl
def Own.fin(a:Own h0 h sz xs d)(b:∀x∈xs,wl x):Ext h0 h/\below h0.next (qC d)/\Fin sz xs (qC d):=
 ⟨a.1,yw (yD _) _ (a.2.1.fin b).1,(a.2.1.fin b).2⟩
def Own.ext(b:Own h0 h sz xs d)(a:Ext h h'):Own h0 h' sz xs d:=
 ⟨b.1.trans a,b.2.1.keep a.2 a.1,b.2.2⟩
def Own.flat(a:Own h0 h sz xs d):d.flat=true/\d.cells= [d]/\d.notTuple=true:=by
 rcases a.2.1 with⟨rfl,_⟩ | ⟨t,rfl,_⟩ <;>exact⟨rfl,rfl,rfl⟩
variable{P:Program}
def Own.app{t e:TypeId}(a:Own h0 h sz xs d)(r:ur P t=some e)(w:ZU P e=true)(v:szT P e=sz)(u:0<sz)(l:∀y∈ys,y.length=sz)(k:ys≠[])
  (p:(xs.length+ys.length)*wr P e<=lim) (s:xs.length+ys.length<=lim) (m:∀g h',Own h0 h' sz (xs++ys) g->K g h'):onR (qg P false h.next t d (.sl sz ys tk) h) K:=
 a.2.1.app2 r w v u l k p s λg h' o n b tk c f=>m g h' ⟨⟨zY a.1.1 n,λi j=>by rw[b i (zl j a.1.1) (λq=>by have:=a.2.2 i q;omega)];exact a.1.2 i j⟩,o,λi j=>zY a.1.1 (tk i j)⟩
def Own.appH{t e:TypeId}{w:HidR K}(k:Own h0 h sz xs d)(i:ur P t=some e)(n:ZU P e=true)(m:szT P e=sz)(l:0<sz)(b:∀y∈ys,y.length=sz)(a:ys≠[])
  (g:(xs.length+ys.length)*wr P e<=lim) (j:xs.length+ys.length<=lim) (f:∀c h',Own h0 h' sz (xs++ys) c->K c h'):Hs (qg P false h.next t d (.sl sz ys tk) h) K w:=k.app i n m l b a g j f
end
def zNN(b c:UInt8):((b.toNat:Int)==(c.toNat:Int))=(b==c):=by
 by_cases e:b=c
 .simp[e]
 .rw[yf.2 e,yf.2 (λh=>e (gu.1 ow))]
def zA3(a b:Nat):decide ((a:Int)>(b:Int))=decide (a>b):=by
 by_cases e:a>b
 .rw[zR e,zR ow]
 .rw[zO e,zO ow]
def Xa{p:α->Bool}{l:List α}(a:i<l.length)(b:p l[i]=true):l.any p=true:=qF.2 ⟨_,zI a,b⟩
def cL{p:α->Bool}{l:List α}(h:∀j (a:j<l.length),j<l.length->p l[j]=false):l.any p=false:=by
 rw[nF];intro x b;obtain⟨j,a,rfl⟩:=zy.1 b;rw[h j a a];exact zV
def uq{p:α->Bool}{l:List α}(e:i<l.length)(b:∀j (b:j<l.length),j<i->p l[j]=false)(d:p l[i]=false):∀j (b:j<l.length),j<i+1->p l[j]=false:=λj c a=>by
 rcases zx.1 a with a|rfl
 .exact b j c a
 .exact d
open Go.Proofs.Tryz
open Go.Proofs
set_option maxRecDepth 100000
@[go_sem] def zLS(s:List UInt8)(h:Heap):o5 prog 9 (.str s) h=some (.int .i64 s.length):=sL underlying9
variable{s:List UInt8}{P:Program}{n:Nat}{d:D}{h0 h:Heap}
def Dq(a:i<s.length):mG prog 9 (.str s) (.int .i64 (i:Int))=some (.int .u8 (s[i].toNat:Int)):=rP underlying9 (zB a)
def I5{m n:Nat}(a:m<=n)(b:n<=s.length)(h:Heap):ww prog 9 (.str s) (some (.int .i64 (m:Int))) (some (.int .i64 (n:Int))) none h=some (.str ((s.take n).drop m)):=Vm Mf underlying9 a b
def An(a:n<=s.length)(h:Heap):ww prog 9 (.str s) (some (.int .i64 (n:Int))) none none h=some (.str (s.drop n)):=ZM Mf underlying9 a
def wU{l:List (List UInt8)}(a:yg 1 (wh l) d)(h:Heap):o5 prog 45 d h=some (.int .i64 l.length):=by rw[wL a underlying45,qv]
def sw{l:List (List UInt8)}(a:yg 1 (wh l) d)(b:i<l.length):yj prog 45 d (.int .i64 (i:Int))=some (.iptr [.str l[i]] 0):=yW a uI p9 (XO b)
def fS(s:List UInt8)(nid:Nat)(h:Heap):yA prog false nid 45 1 [(0,.str s)] h=some (.sl 1 [[.str s]] .full,h):=qD uI dG p9 rfl rfl ow ow rfl rfl
def KB(l m:List (List UInt8)):wh (l++m)=wh l++wh m:=by simp[wh]
def Own.str{l:List (List UInt8)}{x:List UInt8}{w:HidR K}(c:Own h0 h 1 (wh l) d)(e:l.length<=16777216)(b:∀a h',Own h0 h' 1 (wh (l++ [x])) a->K a h'):Hs (qg prog false h.next 45 d (.sl 1 [[.str x]] .full) h) K w:=
 c.appH uI ZR p9 ow jS jS (by simp only[qv,oo,zu,qO];unfold lim;omega) (by simp only[qv,zu,qO];unfold lim;omega) λa h' o=>b a h' (by rw[KB];exact o)
end Go.V
