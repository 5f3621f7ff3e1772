/- Rules of the machine of abstract values, part 4. No condition. -/
import Derived.Test.YtkenagjlanhnmaaGreatDoorW19
set_option linter.all false
set_option maxHeartbeats 8000000
namespace Go.V
structure Hid(K:D->Heap->Prop) where
structure HidS(k:D->Prop) where
def zN1(o:Option D)(k:D->Prop)(_:HidS k):Prop:=onS o k
def zIO(o:Option D)(k:D->Prop):onS o k=zN1 o k ⟨⟩:=(rfl)
def zGn(d:D)(k:D->Prop)(w:HidS k):zN1 (some d) k w=k d:=(rfl)
structure HidR(k:D->Heap->Prop) where
def Hk(o:VR)(k:D->Heap->Prop)(_:HidR k):Prop:=onR o k
def zIN(o:VR)(k:D->Heap->Prop):onR o k=Hk o k ⟨⟩:=(rfl)
def zGl(d:D)(h:Heap)(k:D->Heap->Prop)(w:HidR k):Hk (some (d,h)) k w=k d h:=(rfl)
structure HidH(k:Heap->Prop) where
def zN0(o:Option Heap)(k:Heap->Prop)(_:HidH k):Prop:=onH o k
def zIK(o:Option Heap)(k:Heap->Prop):onH o k=zN0 o k ⟨⟩:=(rfl)
def zGg(h:Heap)(k:Heap->Prop)(w:HidH k):zN0 (some h) k w=k h:=(rfl)
structure HidP(x y:Prop) where
def zEh(g:Bool)(x y:Prop)(_:HidP x y):Prop:=gif g x y
def zH4(g:Bool)(x y:Prop):gif g x y=zEh g x y ⟨⟩:=(rfl)
def zEi(x y:Prop)(w:HidP x y):zEh true x y w=x:=(rfl)
def zBU(x y:Prop)(w:HidP x y):zEh false x y w=y:=(rfl)
def FF(d:D)(x y:Prop)(_:HidP x y):Prop:=onB d x y
def zII(d:D)(x y:Prop):onB d x y=FF d x y ⟨⟩:=(rfl)
def zGd(x y:Prop)(w:HidP x y):FF (.bool true) x y w=x:=(rfl)
def zBZ(x y:Prop)(w:HidP x y):FF (.bool false) x y w=y:=(rfl)
attribute[go_sem ↓] zIO zGn zIN zGl zIK zGg zH4 zEi zBU zII zGd zBZ
variable{b:Bool}{P:Program}{ys:List (List D)}{tk:Tk}{K:D->Heap->Prop}{α:Type}{i n:Nat}{s:List UInt8}{d:D}{h0 h:Heap}
def J9{x y:Prop}{w:HidP x y}(h1:b=true->x)(a:b=false->y):FF (.bool b) x y w:=by
 cases b
 .exact a rfl
 .exact h1 rfl
@[go_sem] def zLx(b:Bool):vun .not (.bool b)=some (.bool (!b)):=(rfl)
section
variable{P:Program}{g:Cfg}{n:Nat}{ro:Option Nat}{c:Code}{Q:Exit->Frm->Heap->Prop}{fr:Frm}{h:Heap}
def zY(J:Nat->Frm->Heap->Prop)(len:Nat)(k:len<=1073741824)(f:J 0 fr h)
  (step:∀i fr h,i<len->decide ((i:Int)<(len:Int))=true->IntKind.i64.wrap ((i:Int)+1)=((i+1:Nat):Int)->J i fr h->vwp P g n ro c (lr (J (i+1)) Q) fr h)
  (last:∀fr h,decide ((len:Int)<(len:Int))=false->J len fr h->vwp P g n ro c (lr (λ_ _=>False) Q) fr h):vwp P g n ro (.loop c) Q fr h:=by
 refine qn J len f λi fr h m j=> ?_;by_cases a:i<len
 .refine rH c ?_ fr h (step i fr h a (zR ow) (qH jL) j)
  intro e d h' b;cases e with
  |normal=>exact⟨a,b⟩
  |_=>exact b
 .have l:i=len:=ow
  subst l;refine rH c ?_ fr h (last fr h (zN ow) j);intro e d h' b;cases e with
  |normal=>exact b.elim
  |_=>exact b
end
section
variable{P:Program}{t e:TypeId}{s:List UInt8}{h:Heap}
def Wo(a:Wu P t=none)(d:P.underlying t=some .string){k k':IntKind}{m n:Nat}(b:m<=n)(c:n<=s.length):uN P t (.str s) (some (.int k (m:Int))) (some (.int k' (n:Int))) none h=some (.str ((s.take n).drop m)):=by
 simp[uN,a,fG,d,s8,VA,Te,c,b]
@[go_sem ↓] def zIi(a b:List UInt8):Ho .geq a b=some (.bool (!WS a b)):=(rfl)
@[go_sem ↓] def zIj(a b:List UInt8):Ho .gtr a b=some (.bool !(WS a b||a==b)):=(rfl)
end
def Own(h0 h:Heap)(sz:Nat)(xs:List (List D))(d:D):Prop:=Ext h0 h/\rJ h sz xs d/\∀i,tu d i->h0.next<=i
section
variable{h0 h h':Heap}{sz:Nat}{xs:List (List D)}{d:D}
def Own.start(a:Ext h0 h)(sz:Nat):Own h0 h sz [] .nilsl:=⟨a,.inl ⟨rfl,rfl⟩,λ_ b=>b.elim⟩
def Own.isSl(a:Own h0 h sz xs d):yZ sz xs d:=a.2.1.isSl
def Own.fin(a:Own h0 h sz xs d)(b:∀x∈xs,uA x):Ext h0 h/\below h0.next (qM d)/\Fin sz xs (qM d):=
 ⟨a.1,qQ (yM _) _ (a.2.1.fin b).1,(a.2.1.fin b).2⟩
def Own.ext(b:Own h0 h sz xs d)(a:Ext h h'):Own h0 h' sz xs d:=
 ⟨b.1.trans a,b.2.1.keep a.2 a.1,b.2.2⟩
variable{P:Program}
def Own.app{t e:TypeId}(a:Own h0 h sz xs d)(r:uu P t=some e)(w:YE P e=true)(v:szT P e=sz)(u:0<sz)(l:∀y∈ys,y.length=sz)(k:ys≠[])
  (p:(xs.length+ys.length)*uF P e<=lim) (s:xs.length+ys.length<=lim) (m:∀g h',Own h0 h' sz (xs++ys) g->K g h'):onR (qS P false h.next t d (.sl sz ys tk) h) K:=
 a.2.1.app2 r w v u l k p s λg h' o n b tk c f=>m g h' ⟨⟨zb a.1.1 n,λi j=>by rw[b i (zl j a.1.1) (λq=>by have:=a.2.2 i q;omega)];exact a.1.2 i j⟩,o,λi j=>zb a.1.1 (tk i j)⟩
def Own.appH{t e:TypeId}{w:HidR K}(k:Own h0 h sz xs d)(i:uu P t=some e)(n:YE P e=true)(m:szT P e=sz)(l:0<sz)(b:∀y∈ys,y.length=sz)(a:ys≠[])
  (g:(xs.length+ys.length)*uF P e<=lim) (j:xs.length+ys.length<=lim) (f:∀c h',Own h0 h' sz (xs++ys) c->K c h'):Hk (qS P false h.next t d (.sl sz ys tk) h) K w:=k.app i n m l b a g j f
end
def zLk(b c:UInt8):((b.toNat:Int)==(c.toNat:Int))=(b==c):=by
 by_cases e:b=c
 .simp[e]
 .rw[yv.2 e,yv.2 (λh=>e (gD.1 ow))]
def AQ(a b:Nat):decide ((a:Int)>(b:Int))=decide (a>b):=by
 by_cases e:a>b
 .rw[zR e,zR ow]
 .rw[zN e,zN ow]
def Yl{p:α->Bool}{l:List α}(a:i<l.length)(b:p l[i]=true):l.any p=true:=yu.2 ⟨_,zH a,b⟩
def dU{p:α->Bool}{l:List α}(h:∀j (a:j<l.length),j<l.length->p l[j]=false):l.any p=false:=by
 rw[oL];intro x b;obtain⟨j,a,rfl⟩:=zz.1 b;rw[h j a a];exact zd
def ug{p:α->Bool}{l:List α}(e:i<l.length)(b:∀j (b:j<l.length),j<i->p l[j]=false)(d:p l[i]=false):∀j (b:j<l.length),j<i+1->p l[j]=false:=λj c a=>by
 rcases zp.1 a with a|rfl
 .exact b j c a
 .exact d
open Go.Proofs.Tryz
open Go.Proofs
set_option maxRecDepth 100000
@[go_sem] def zJq(s:List UInt8)(h:Heap):o9 prog 9 (.str s) h=some (.int .i64 s.length):=tm underlying9
variable{s:List UInt8}{P:Program}{n:Nat}{d:D}{h0 h:Heap}
def F5(a:i<s.length):nS prog 9 (.str s) (.int .i64 (i:Int))=some (.int .u8 (s[i].toNat:Int)):=ss underlying9 (zB a)
def JU{m n:Nat}(a:m<=n)(b:n<=s.length)(h:Heap):uN prog 9 (.str s) (some (.int .i64 (m:Int))) (some (.int .i64 (n:Int))) none h=some (.str ((s.take n).drop m)):=Wo NT underlying9 a b
def C7(a:n<=s.length)(h:Heap):uN prog 9 (.str s) (some (.int .i64 (n:Int))) none none h=some (.str (s.drop n)):=aN NT underlying9 a
def wO{l:List (List UInt8)}(a:yZ 1 (wg l) d)(h:Heap):o9 prog 45 d h=some (.int .i64 l.length):=by rw[wL a underlying45,qm]
def sP{l:List (List UInt8)}(a:yZ 1 (wg l) d)(b:i<l.length):yc prog 45 d (.int .i64 (i:Int))=some (.iptr [.str l[i]] 0):=yR a ww pK (YY b)
def gb(s:List UInt8)(nid:Nat)(h:Heap):yD prog false nid 45 1 [(0,.str s)] h=some (.sl 1 [[.str s]] .full,h):=qd ww fM pK rfl rfl ow ow rfl rfl
def Md(l m:List (List UInt8)):wg (l++m)=wg l++wg m:=by simp[wg]
def Own.str{l:List (List UInt8)}{x:List UInt8}{w:HidR K}(c:Own h0 h 1 (wg l) d)(e:l.length<=16777216)(b:∀a h',Own h0 h' 1 (wg (l++ [x])) a->K a h'):Hk (qS prog false h.next 45 d (.sl 1 [[.str x]] .full) h) K w:=
 c.appH ww aR pK ow jS jS (by simp only[qm,p6,zx,qD];unfold lim;omega) (by simp only[qm,zx,qD];unfold lim;omega) λa h' o=>b a h' (by rw[Md];exact o)
end Go.V
