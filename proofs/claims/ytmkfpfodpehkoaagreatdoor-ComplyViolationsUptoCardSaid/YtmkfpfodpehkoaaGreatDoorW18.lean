/- A machine of abstract values for programs of the model, and its soundness, part 6. No condition. -/
import Derived.Shelf.Strings.Search1
import Derived.Shelf.Strings.Count
import Derived.Shelf.Strings.SlTrimAscii
import Derived.Test.YtmkfpfodpehkoaaGreatDoorW16
import Derived.Test.YtmkfpfodpehkoaaGreatDoorW17
import Derived.Shelf.SlGeneric
import Derived.Shelf.Strings.Builder1
import Derived.Shelf.Strconv.Atoi
import Derived.Shelf.Strings.Search2
import Derived.Shelf.Strings.Search3
import Derived.Shelf.Sort.Plain
set_option linter.all false
set_option maxHeartbeats 8000000
namespace Go.V
abbrev kn:=List (Nat× (List D×D))
def Kz:kn->Nat->List D->Option D
 | [],_,_=>none
 |(k,x)::l,g,args=>match Nat.beq k g with
  |true=>match HY x.1 args with
   |true=>some x.2
   |false=>Kz l g args
  |false=>Kz l g args
def gI(lib:FuncId->List D->(Nat->Option Obj)->IR)(m:kn)(g:FuncId)(args:List D)(hp:Nat->Option Obj):IR:=
 match lib g args hp with
 |some d=>some d
 |none=>RH (Kz m g args)
def Ic(P:Program)(lib:FuncId->List D->(Nat->Option Obj)->IR):Prop:=∀g args (h:Heap) r,lib g args h.at'=some r->zB P g args h λa b=>a=r.1/\b=zFR r.2 h
def qN(P:Program):kn->Prop
 | []=>True
 |(k,x)::l=>(∀h,zB P k x.1 h λa b=>a=x.2/\b=h)/\qN P l
variable{P:Program}{args ds cs:List D}{h h':Heap}{f:FuncId}{d z x:D}{M:Imm}{ρ:Ren}{va:Array Value}{s:List UInt8}{fr:Frm}{i id n nid sz:Nat}{t:TypeId}{xs:List (List D)}
theorem V2:∀{m:kn},qN P m->∀g args h d,Kz m g args=some d->zB P g args h λa b=>a=d/\b=h
 | [],_,_,_,_,_,c=>by cases c
 |(k,x)::l,e,g,args,h,d,c=>by
  simp only[Kz]at c;split at c
  ·rename_i i;split at c
   ·rename_i f;cases c;rw[<-yq i,<-bw _ _ f];exact e.1 h
   ·exact V2 e.2 g args h d c
  ·exact V2 e.2 g args h d c
def D3{b:FuncId->List D->(Nat->Option Obj)->IR}{m:kn}(e:Ic P b)(f:qN P m):Ic P (gI b m):=λg args h r a=>by
 unfold gI at a;split at a
 ·rename_i i c;cases a;exact e g args h _ c
 ·unfold RH at a;split at a
  ·rename_i d c;cases a;exact V2 f g args h d c
  ·cases a
def Z1{g:FuncId}{o:Option D}{r:D×Option (Nat×Obj)}(hr:RH o=some r)(c:∀d,o=some d->zB P g args h λa b=>a=d/\b=h):zB P g args h λa b=>a=r.1/\b=zFR r.2 h:=by
 unfold RH at hr;split at hr
 ·rename_i d;cases hr;exact c d rfl
 ·cases hr
def qN.add(e:P.follows .mixedOrders=true){tab:List (Nat× (Func×Cfg))}(g:bm P tab){j:FuncId->Bool}{i:FuncId->List D->(Nat->Option Obj)->IR}(p:Ic P i){m:kn}(l:qN P m)
  {fuel k:Nat} (n:oF args=true) (o:dG d=true)
  (q:(jZ P tab j (gI i m) fuel k [] (.fn (.func f) [] []) args HT.emp).map (λr=>wN r.1 r.2.heap)=some d):qN P ((f,(args,d))::m):=
 ⟨λh=>(zB.of_run e g (D3 p l) n o q h).mono λa b c=>⟨c.2,c.1⟩,l⟩
open Go.RowKit (Below)
def zB.of_lib(l:pO P f=true)
  (k:∀(M:Imm)(ρ:Ren)(c:Array Value)(w:World),wL M ρ ds c.toList->Calls P f c w λe i=>∃v,e=.returned v/\Bel w.heap.size w i/\∀(M':Imm)(q:Ren),rel M' q d v) (h:Heap):
  zB P f ds h λa b=>a=d/\b=h:=by
 refine⟨l,λw0 G M ρ w c m o g hr=>(k M ρ c w hr).mono λe i n=> ?_⟩;obtain⟨v,rfl,j,p⟩:=n;exact⟨v,M,ρ,d,h,rfl,MLe.refl _,RLe.refl _,o.world j,g,p M ρ,rfl,rfl⟩
def UN{s t:List UInt8}(hr:wL M ρ [.str s,.str t] va.toList):∃b c:ByteArray,va= #[.string b,.string c]/\b.data.toList=s/\c.data.toList=t/\s.length<=lim/\t.length<=lim:=by
 simp only[wL,rel]at hr;obtain⟨v,vs,e,⟨b,rfl,h1,d⟩,h,g,a,⟨c,rfl,h3,f⟩,rfl⟩:=hr;subst a;exact⟨b,c,sr (by simpa using e),h1,h3,d,f⟩
def B0(n:Int):Option D:=if IntKind.i64.wrap n==n then some (.int .i64 n)else none
def NJ{n:Int}(h:B0 n=some d)(M:Imm)(ρ:Ren):rel M ρ d (.int .i64 n):=by
 unfold B0 at h;split at h
 ·rename_i a;cases h;exact uD (show fits _ _ from by unfold fits;simpa using a)
 ·cases h
def zFQ(s:List UInt8):Option D:=if decide (s.length<=lim)then some (.str s)else none
def GO(h:zFQ s=some d)(M:Imm)(ρ:Ren):rel M ρ d (.string ⟨s.toArray⟩):=by
 unfold zFQ at h;split at h
 ·rename_i a;cases h;simp only[rel];exact⟨_,rfl,by simp,by simpa using a⟩
 ·cases h
def ct:List D->Option D
 | [.str s,.str t]=>match t with
  | [c]=>B0 (Lib.indexByte s c)
  |_=>none
 |_=>none
def Zt:List D->Option D
 | [.str s,.str t]=>match t with
  | [c]=>B0 (Lib.countByte s c)
  |_=>none
 |_=>none
def Vy:List D->Option D
 | [.str s,.str c]=>if Nat.ble 2 c.length&&c.all (λb=>decide (b.toNat<128))&&Nat.blt c.length 4294967281 then zFQ (Lib.trimS s c)else none
 |_=>none
def U4{b:ByteArray}{c:UInt8}(h:b.data.toList= [c]):b= ⟨#[c]⟩:=by
 cases b with
 |mk a=>
  have:a= #[c]:=sr (by simpa using h);rw[this]
def dx(m:pO P f=true)(l:∀(s:ByteArray)(c:UInt8)(w:World),Calls P f #[.string s,.string ⟨#[c]⟩] w λe i=>e=.returned (.int .i64 (Lib.indexByte s.data.toList c))/\i=w)(g:ct args=some d)(h:Heap):zB P f args h λa b=>a=d/\b=h:=by
 unfold ct at g;split at g
 ·rename_i s t;split at g
  ·rename_i c;refine zB.of_lib m (λM ρ p w hr=> ?_) h;obtain⟨j,b2,rfl,rfl,k,_,_⟩:=UN hr;rw[U4 k];refine(l j c w).mono λe i n=> ?_;obtain⟨rfl,rfl⟩:=n;exact⟨_,rfl,Bel.refl _ _,λM' o=>NJ g M' o⟩
  ·cases g
 ·cases g
def Y4(m:pO P f=true)(l:∀(s:ByteArray)(c:UInt8)(w:World),Calls P f #[.string s,.string ⟨#[c]⟩] w λe i=>e=.returned (.int .i64 (Lib.countByte s.data.toList c))/\i=w)(g:Zt args=some d)(h:Heap):zB P f args h λa b=>a=d/\b=h:=by
 unfold Zt at g;split at g
 ·rename_i s t;split at g
  ·rename_i c;refine zB.of_lib m (λM ρ p w hr=> ?_) h;obtain⟨j,b2,rfl,rfl,k,_,_⟩:=UN hr;rw[U4 k];refine(l j c w).mono λe i n=> ?_;obtain⟨rfl,rfl⟩:=n;exact⟨_,rfl,Bel.refl _ _,λM' o=>NJ g M' o⟩
  ·cases g
 ·cases g
def Nu{ρ:Go.Shelf.Ren}(L:Go.Proofs.Lays.n160 P ρ)(d:(P.info? (ρ.t 116)).map (λi=>(i.zero,i.size))=some (some (.agg (Array.replicate 256 (.bool false))),256))(s a:ByteArray)(w:World)(g:2<=a.size)(n:s.size<=9223372036854775807)(k:a.size<4294967281)
  (c:∀(j:Nat) b,a.data.toList[j]? =some b->b.toNat<128):
  Calls P (ρ.f 160) #[.string s,.string a] w λe l=>e=.returned (.string ⟨(Lib.trimS s.data.toList a.data.toList).toArray⟩)/\Bel w.heap.size w l:=by
 by_cases h:s.size=0
 ·refine(Go.Proofs.Any.strings_Trim_empty L s a w (.inl h)).mono λe l ⟨h1,g⟩=>⟨?_,g▸Bel.refl _ _⟩;have m:s.data.toList= []:=yM (by rw[<-Lib.size_eq];exact h);rw[h1,m];congr 2;rw[<-Lib.mk_data s,m];rfl
 ·refine(Go.Proofs.Any.strings_Trim_set L (Go.zero_of_info d).1 (Go.zero_of_info d).2 s a w g ow n k c).mono λe l ⟨h1,g⟩=>⟨h1,?_⟩;obtain⟨q,rfl⟩:=g;exact⟨(((Below.refl _ _).alloc (zD _) _).alloc (by simp) _).trans ⟨rfl,rfl,rfl,zD _,λ_ _=>rfl⟩,Nat.le_add_right _ _⟩
def Wk{P : Program}{f : FuncId}(p : pO P f = true)(o : ∀(s c : ByteArray)(w : World), 2 <= c.size -> s.size <= 9223372036854775807 -> c.size < 4294967281 -> (∀(j : Nat) b, c.data.toList[j]? = some b -> b.toNat < 128) ->
      Calls P f #[.string s,.string c] w λe m => e =.returned (.string ⟨(Lib.trimS s.data.toList c.data.toList).toArray⟩) /\ Bel w.heap.size w m)
    {args : List D} {d : D} (i : Vy args = some d) (h : Heap) : zB P f args h λa b => a = d /\ b = h := by
  unfold Vy at i;split at i
  · rename_i s c
    split at i
    · rename_i g
      simp only [zC]at g;have l : c.length < 4294967281 := by rw [<- bn]; exact g.2
      refine zB.of_lib p (λM ρ t w hr => ?_) h;obtain ⟨k, b2, rfl, rfl, rfl, h3, _⟩ := UN hr;have e1 : k.size = k.data.toList.length := by rw [yJ]; rfl
      have e2 : b2.size = b2.data.toList.length := by rw [yJ]; rfl
      refine (o k b2 w (by rw [e2]; exact by have := g.1.1; rwa [Nat.ble_eq]at this) (by rw [e1]; unfold lim at h3; omega) (by rw [e2]; exact l) (Go.Proofs.ascii_of_all g.1.2)).mono λe m q => ?_;obtain ⟨rfl, n⟩ := q;exact ⟨_, rfl, n, λM' r => GO i M' r⟩
    · cases i
  · cases i
def gJ{α:Type _}(a b:α):(some a).getD b=a:=rfl
section
variable{P:Program}{g:Cfg}{n:Nat}{mu:Tmp->Bool}{h0:Heap}{bk:Nat->Bool}{ops:Array Oper}
theorem Xr:∀(l:List Oper){K c:Frm->Heap->Prop}(_:∀fr h,K fr h->c fr h)(fr:Frm)(h:Heap),Xz P mu ops l K fr h->Xz P mu ops l c fr h
 | [],_,_,b,fr,h,a=>b fr h a
 |o::rest,K,c,b,fr,h,a=>by
  simp only[Xz]at a⊢;cases e:uR ops fr o.guard with
  |true=>
   rw[e]at a;exact fB (λd h' f=>Xr rest b _ _ f) a
  |false=>
   rw[e]at a;exact Xr rest b _ _ a
theorem aY:∀(l:List (Nat×Fl)){K b:Frm->Heap->Prop}(_:∀fr h,K fr h->b fr h)(fl:Bool)(fr:Frm)(h:Heap),nA P mu h0 bk ops fl l K fr h->nA P mu h0 bk ops fl l b fr h
 | [],_,_,c,_,fr,h,a=>c fr h a
 |(i,st)::rest,K,b,c,fl,fr,h,a=>by
  simp only[nA]at a⊢;cases e:ops[i]? with
  |none=>rw[e]at a;exact a
  |some o=>
   rw[e]at a;exact cG (λd h' f=>⟨f.1,aY rest c _ _ _ f.2⟩) a
def PW{l:List (Nat×Fl)}{K b:Frm->Heap->Prop}(c:∀fr h,K fr h->b fr h){fl:Bool}(a:dR P mu h0 bk ops fl l K fr h):dR P mu h0 bk ops fl l b fr h:=by
 unfold dR at a⊢;split at a
 ·exact aY _ c _ _ _ a
 ·exact⟨a.1,aY _ c _ _ _ a.2⟩
theorem rH:∀(c:Code){ro:Option Nat}{Q p:Exit->Frm->Heap->Prop}(_:∀e fr h,Q e fr h->p e fr h)(fr:Frm)(h:Heap),vwp P g n ro c Q fr h->vwp P g n ro c p fr h
 |.skip,_,_,_,m,fr,h,j=>m _ _ _ j
 |.exit _,_,_,_,m,fr,h,j=>m _ _ _ j
 |.ret,_,_,_,m,fr,h,j=>m _ _ _ j
 |.region id ops s,_,_,_,m,fr,h,j=>by
  simp only[vwp]at j⊢;cases s with
  |false=>exact Xr _ (λfr h=>m _ fr h) _ _ j
  |true=>
   obtain⟨h0,h1,q⟩:=j;exact⟨h0,h1,PW (λfr h=>m _ fr h) q⟩
 |.seq a b,ro,Q,p,m,fr,h,j=>by
  simp only[vwp]at j⊢;refine rH a (λe fr h o=> ?_) fr h j;cases e with
  |normal=>exact rH b m fr h o
  |_=>exact m _ _ _ o
 |.cond c a b,ro,Q,p,m,fr,h,j=>by
  simp only[vwp]at j⊢;split at j
  ·split at j
   ·exact rH a m fr h j
   ·exact rH b m fr h j
  ·exact j
 |.block id c,ro,Q,p,m,fr,h,j=>by
  simp only[vwp]at j⊢;refine rH c (λe fr h o=> ?_) fr h j;cases e with
  |exit i=>
   simp only[cP]at o⊢;split at o
   ·rename_i t;rw[ip t];exact m _ _ _ o
   ·rename_i t;rw[iq t];exact m _ _ _ o
  |_=>exact m _ _ _ o
 |.loop c,ro,Q,p,m,fr,h,j=>by
  simp only[vwp]at j⊢;obtain⟨I,h1,q⟩:=j;refine⟨I,h1,λk fr h w=>rH c (λe fr h o=> ?_) fr h (q k fr h w)⟩;cases e with
  |normal=>exact o
  |_=>exact m _ _ _ o
 |.rangeFunc f x u body,ro,Q,p,m,fr,h,j=>by
  simp only[vwp]at j⊢;refine⟨j.1,?_⟩;have q:=j.2;cases hf:qt fr f<;>rw[hf]at q<;>simp only[VFn]at q⊢;rename_i v first cap
  cases v<;>simp only at q⊢;refine zB.mono q λd h' o=> ?_;obtain⟨r,r1,r2,r3⟩:=o;refine⟨r,r1,r2,?_⟩;unfold UI at r3⊢;split at r3
  ·exact m _ _ _ r3
  ·split at r3
   ·exact m _ _ _ r3
   ·exact m _ _ _ r3
   ·exact r3
 |.label _,_,_,_,m,fr,h,j=>m _ _ _ j
 |.goto _,_,_,_,_,_,_,j=>j
 |.scope c,ro,Q,p,m,fr,h,j=>by
  simp only[vwp]at j⊢;refine rH c (λe fr h o=> ?_) fr h j;cases e with
  |goto l=>exact o
  |_=>exact m _ _ _ o
 |.refuse ..,_,_,_,_,_,_,j=>j
end
section
variable{P:Program}{g:Cfg}{n:Nat}{ro:Option Nat}{c:Code}{Q:Exit->Frm->Heap->Prop}{fr:Frm}{h:Heap}
def xO(b:P.follows .mixedOrders=true){fn:Func}{co:Code}{R:D->Heap->Prop}(hf:P.funcs[f]? =some fn)(a:JE P g fn=true)(c:fn.body=some co)(d:Nat.ble args.length fn.ntmps=true)
  (e:vwp P g fn.ntmps none co (EB P fn.results.toList R) (V.Vm args) h):zB P f args h R:=by
 unfold JE at a;rw[c]at a;simp only[zC,qF]at a;exact zB.of_body b hf c a.2 a.1 (Nat.le_of_ble_eq_true d) e
@[go_sem] theorem zE0(m:List Nat)(d:List (Nat×List (Nat×Fl)))(t:Tmp):(zl m d).mu t=List.contains (α:=Nat) m t:=(rfl)
def qx(J:Nat->Frm->Heap->Prop)(len:Nat)(b:J 0 fr h)(step:∀i fr h,i<=len->J i fr h->vwp P g n ro c (gm (λfr h=>i<len/\J (i+1) fr h) Q) fr h):vwp P g n ro (.loop c) Q fr h:=by
 refine N5 (λk fr h=>∃i,k=len-i/\i<=len/\J i fr h) len ⟨0,by simp,yg _,b⟩ ?_;rintro k fr h ⟨i,rfl,j,f⟩;refine rH c ?_ fr h (step i fr h j f);intro e d h' a;cases e with
 |normal=>exact⟨len- (i+1),by have:=a.1;omega,i+1,rfl,a.1,a.2⟩
 |_=>exact a
end
def qE{x:Int}(h1: -9223372036854775808<=x)(a:x<9223372036854775808):IntKind.i64.wrap x=x:=by
 unfold IntKind.wrap;simp[IntKind.signed,IntKind.bits];split<;>omega
def qT(h:i<=lim):IntKind.i64.wrap ((i:Int)+1)=((i+1:Nat):Int):=by
 rw[qE ow (by unfold lim at h;omega)];norm_cast
@[go_sem] theorem zCo(mu:Tmp->Bool)(t:Tmp):bj mu (some t)=mu t:=(rfl)
attribute [go_sem] List.contains_nil List.map_cons List.map_nil List.nil_append List.append_nil List.cons_append Bool.false_eq_true Bool.or_false Bool.or_true Bool.true_or Bool.false_or Bool.not_true Bool.not_false List.getElem?_cons_zero List.getElem?_cons_succ
@[go_sem] theorem zGZ(t:Tmp):isC (.tmp t)=false:=(rfl)
@[go_sem] theorem zCb(v:Value):isC (.const v)=true:=(rfl)
@[go_sem] theorem Ct(h:Heap)(i:Nat)(o:Obj):(h.new i o).at' i=some o:=yQ h i o
@[go_sem] theorem zi(h:Heap)(i:Nat)(o:Obj):(h.set i o).at' i=some o:=by simp[Heap.set]
@[go_sem] theorem Bd(P:Program)(nid:Nat)(t:TypeId)(x:Operand)(fr:Frm)(h:Heap):vop P false nid (.box t x) (qt fr) h=if(qt fr x).notTuple then some (.iptr (qt fr x).cells 0,h)else none:=by
 simp[vop]
@[go_sem] theorem Be(P:Program)(nid:Nat)(t:TypeId)(x:Operand)(fr:Frm)(h:Heap):vop P true nid (.box t x) (qt fr) h=if(qt fr x).notTuple then some (.ptr nid 0,h.new nid (.row (qt fr x).cells))else none:=by
 simp[vop]
def YC(t:TypeId)(nid:Nat)(h:Heap):Option D->VR
 |some z=>if z.notTuple then some (.ptr nid 0,h.new nid (Za t z.cells))else none
 |none=>none
@[go_sem] theorem zEm(P:Program)(m:Bool)(nid:Nat)(t:TypeId)(fr:Frm)(h:Heap):vop P m nid (.alloc t) (qt fr) h=YC t nid h (sD P t):=by
 simp only[vop,YC];cases sD P t<;>rfl
@[go_sem] theorem Bq(t:TypeId)(nid:Nat)(h:Heap)(cs:List D):YC t nid h (some (.agg cs))=some (.ptr nid 0,h.new nid (Za t cs)):=(rfl)
@[go_sem] theorem Br(t:TypeId)(nid:Nat)(h:Heap)(k:IntKind)(n:Int):YC t nid h (some (.int k n))=some (.ptr nid 0,h.new nid (.row [.int k n])):=(rfl)
@[go_sem] theorem Bs(t:TypeId)(nid:Nat)(h:Heap)(s:List UInt8):YC t nid h (some (.str s))=some (.ptr nid 0,h.new nid (.row [.str s])):=(rfl)
@[go_sem] theorem Gg(t:TypeId)(nid:Nat)(h:Heap):YC t nid h (some .nilsl)=some (.ptr nid 0,h.new nid (.row [.nilsl])):=(rfl)
@[go_sem] theorem zCq(t:TypeId)(k:IntKind)(n:Int)(cs:List D):Za t (.int k n::cs)=.row (.int k n::cs):=(rfl)
@[go_sem] theorem zCr(t:TypeId)(s:List UInt8)(cs:List D):Za t (.str s::cs)=.row (.str s::cs):=(rfl)
@[go_sem] theorem B3(t:TypeId)(b:Bool)(cs:List D):Za t (.bool b::cs)=.row (.bool b::cs):=(rfl)
@[go_sem] theorem T8(s:List UInt8):(D.str s).notTuple=true:=(rfl)
@[go_sem] theorem KF(s:List UInt8):(D.str s).cells= [.str s]:=(rfl)
variable{P:Program}{h:Heap}{fr:Frm}{n:Nat}
def rU{cs cs':List D}(b:h.at' id=some (.row cs))(d:szT P t=cs'.length)(a:cs.length=cs'.length)(h0:0<cs'.length)(hf:cs'.all D.flat=true):qP P t (.ptr id 0) (.agg cs') h=some (h.set id (.row cs')):=by
 have c:uG cs cs' 0=cs':=by simp[uG,a]
 simp only[qP,b,D.cells,d,c];rw[ip];simp only[zC,zP,ne_eq,yo];exact⟨⟨⟨λe=>by omega,trivial⟩,Nat.le_of_eq a.symm⟩,hf⟩
def zJ(a:cs.length=n)(h0:0<n):yN true n cs 0=some (.agg cs):=by
 subst a;simp only[yN];rw[ip trivial,iq ow,ip ow];simp
def JZ(ag:Bool)(n off:Nat):Option Obj->Option D
 |some (.row cs)=>yN ag n cs off
 |some (.trow _ _ cs)=>yN ag n cs off
 |_=>none
@[go_sem ↓] theorem zEk(P:Program)(t:TypeId)(id off:Nat)(h:Heap):kW P t (.ptr id off) h=(match agT P t with
 |none=>none
 |some ag=>JZ ag (szT P t) off (h.at' id)):=by
 unfold kW;cases agT P t with
 |none=>rfl
 |some ag=>
  simp only;cases h.at' id with
  |none=>rfl
  |some o=>cases o<;>rfl
@[go_sem] theorem C4(ag:Bool)(n off:Nat)(cs:List D):JZ ag n off (some (.row cs))=yN ag n cs off:=(rfl)
def wP{t e:TypeId}(j:tQ P t=some e)(l:sD P e=some z)(k:szT P e=sz)(g:z.notTuple=true)(b:z.cells.length=sz)(h0:0<sz)(i:sz<=16777216)
  (f:x.notTuple=true) (a:x.cells.length=sz):yB P false nid t 1 [(0,x)] h=some (.sl sz [x.cells] .full,h):=by
 simp only[yB,j,l,k];have d:nz 1 z.cells=z.cells:=by simp[nz]
 have c:uG z.cells x.cells 0=x.cells:=by simp[uG,b,a]
 rw[ip (by simp[g,b,h0];omega)];simp only[tp,d];rw[ip (by simp[f,a,b])];simp only[pV,c];simp[wY,<-a]
def rc(h:Heap)(sz:Nat)(xs:List (List D))(d:D):Prop:=(d=.nilsl/\xs= [])\/∃t,d=.sl sz xs (.own t)/\h.at' t=some .tok/\t<h.next
def rc.isSl(a:rc h sz xs d):ye sz xs d:=by
 rcases a with⟨rfl,rfl⟩ | ⟨t,rfl,_⟩
 ·exact ye.nil
 ·exact ye.mk _
def rc.keep(c:rc h sz xs d)(b:∀i,i<h.next->h'.at' i=h.at' i)(e:h.next<=h'.next):rc h' sz xs d:=by
 rcases c with h1| ⟨t,h1,a,h3⟩
 ·exact .inl h1
 ·exact .inr ⟨t,h1,by rw[b t h3];exact a,by omega⟩
open Go.Proofs.Tryz
open Go.Proofs
set_option maxRecDepth 100000
noncomputable def tab:List (Nat× (Func×Cfg)):=[(5,(f5,zIu)),(7,(f7,zIv)),(9,(f9,zIw)),(12,(f12,zAR)),(14,(f14,zAU)),(16,(f16,zAa)),(17,(f17,zAi)),(18,(f18,zAj)),(21,(f21,zAu)),(22,(f22,zAv)),(23,(f23,Ds)),(26,(f26,Dt)),(28,(f28,zBH)),(29,(f29,zBI)),(30,(f30,zBR)),(31,(f31,zBU)),(32,(f32,zBV)),(33,(f33,zBb)),(34,(f34,zBf)),(35,(f35,zBg)),(36,(f36,zBh)),(38,(f38,zBk)),(40,(f40,zBl)),(42,(f42,zBm)),(43,(f43,zBn)),(44,(f44,zBo)),(45,(f45,zBp)),(49,(f49,zBq)),(50,(f50,zBr)),(51,(f51,zBs)),(52,(f52,zBt)),(53,(f53,zBu)),(54,(f54,zBv)),(55,(f55,zBw)),(56,(f56,zBx)),(68,(f68,zBy)),(69,(f69,zBz)),(70,(f70,zB0)),(71,(f71,zB1)),(72,(f72,zB2)),(73,(f73,zB3)),(75,(f75,zB4)),(77,(f77,zB5)),(78,(f78,zB6)),(79,(f79,zB7)),(80,(f80,zB8)),(81,(f81,zB9)),(82,(f82,zCA)),(83,(f83,zCB)),(84,(f84,zCC)),(85,(f85,zCD)),(87,(f87,zCE)),(89,(f89,zCF)),(90,(f90,zCG)),(91,(f91,zCH)),(95,(f95,zCI)),(96,(f96,zCJ)),(97,(f97,zCK)),(98,(f98,zCL)),(99,(f99,zCM)),(100,(f100,Gi)),(101,(f101,Gj)),(102,(f102,Gk)),(103,(f103,Gl)),(104,(f104,Gm)),(105,(f105,Gn)),(106,(f106,Gp)),(107,(f107,Gq)),(117,(f117,Gr)),(119,(f119,Gs)),(121,(f121,Gt)),(122,(f122,Gu)),(123,(f123,Gv)),(124,(f124,Gw)),(125,(f125,Gx)),(126,(f126,Gy)),(127,(f127,Gz)),(129,(f129,G5)),(131,(f131,G6)),(133,(f133,G7)),(134,(f134,G8)),(136,(f136,G9)),(137,(f137,FB)),(140,(f140,FC)),(142,(f142,FD)),(143,(f143,FE)),(146,(f146,FF)),(147,(f147,KG)),(148,(f148,FH)),(149,(f149,KH)),(150,(f150,KI)),(151,(f151,Pv)),(152,(f152,Pw)),(153,(f153,Px)),(154,(f154,KJ)),(155,(f155,FI)),(156,(f156,FJ)),(157,(f157,FK)),(172,(f172,FL)),(182,(f182,FM)),(183,(f183,FN)),(184,(f184,FP)),(185,(f185,FQ)),(186,(f186,KK)),(187,(f187,FR)),(188,(f188,FS)),(194,(f194,FT)),(195,(f195,FU)),(197,(f197,FV)),(198,(f198,FW)),(200,(f200,FX)),(201,(f201,FY)),(202,(f202,FZ)),(204,(f204,Fa)),(210,(f210,Fb)),(214,(f214,Fc)),(215,(f215,Fe)),(248,(f248,Ff)),(256,(f256,Fg)),(257,(f257,Fh)),(258,(f258,Fi)),(259,(f259,Fj)),(260,(f260,KL)),(261,(f261,Fk)),(262,(f262,Fm)),(263,(f263,Fp)),(264,(f264,Fq)),(265,(f265,Fs)),(278,(f278,Py)),(279,(f279,Fu)),(280,(f280,Fv)),(281,(f281,Fw)),(282,(f282,Fx)),(283,(f283,Fy)),(314,(f314,Fz)),(315,(f315,F0)),(316,(f316,F3)),(325,(f325,F4)),(326,(f326,F5)),(339,(f339,F6)),(365,(f365,F7)),(371,(f371,F8))]
def tO:bm prog tab:=⟨ok5,ok7,ok9,zI2,zI3,zKA,zKB,zKC,zI4,zI5,zI6,zI7,zI8,zI9,zJA,zJB,zKI,zKJ,zKK,zJC,zKL,zKM,zKO,zJD,zKQ,zKR,zKS,zJE,zJF,zJG,zJH,zJI,zJJ,zJK,zJL,zJN,zJO,zJP,zKf,zKg,zKh,zKi,zKj,zJQ,zKk,zKl,zJR,zJS,zKm,zJT,zJU,zJV,zKp,zJW,zJX,zJY,zJZ,zJa,zJb,zJc,zCv,zCw,zCx,zCy,zGd,zCz,zC0,Cw,zC1,zGn,zC2,zGo,zGp,zGq,zGr,zGs,zGt,zGu,zGv,zC3,zGw,zC4,zC5,zC6,zC7,zC8,zDA,zDB,Hv,zDC,zDD,zDE,zDF,zDG,zDH,zG1,zG2,zDI,zHB,zDK,zDL,zDM,zDN,zDO,zDP,zDQ,zDR,zDS,zDT,zDU,zDV,zDW,zDX,zHL,zHM,zHN,zDY,zHb,zDZ,zDa,zDb,zDc,zDd,zDe,zDf,zDg,zDh,zDi,zDj,zDk,zDl,zDm,zDn,zDo,zDp,zDq,zDr,zHy,zDs,zDu,zDv,zDw,trivial⟩
def mix:prog.follows .mixedOrders=true:=kr
def z5{fn:Func}{g:Cfg}{co:Code}{R:D->Heap->Prop}(e:Fo prog f fn g)(c:vwp prog g fn.ntmps none co (EB prog fn.results.toList R) (V.Vm args) h)(a:fn.body=some co:=by rfl)(b:Nat.ble args.length fn.ntmps=true:=by rfl):zB prog f args h R:=xO mix e.1 e.2 a b c
end Go.V
namespace Go.Proofs
def bears_k{P:Program}{i:Nat}{B:Func}(h1:(P.funcs[i]?).any (λf=> !(f.name== "runtime.NumGoroutine"))=true)(a:(P.funcs[i]?).map (λf=> { B with name:=f.name })=P.funcs[i]?):Bears P i B:=by
 cases h:P.funcs[i]? with
 |none=>rw[h]at h1;cases h1
 |some f=>
  rw[h]at h1 a;exact⟨f.name,by simpa using h1,h.trans a.symm⟩
def lay_k{p:Prop}(h:p:=by first|kernel_rfl|(show _=_;kernel_rfl)|(refine bears_k ?_ ?_<;>kernel_rfl)):p:=h
open Go.Shelf
def Tryz.lays160_ren:Go.Shelf.Ren:=⟨fun|160=>171|232=>242|231=>241|227=>243|234=>245|233=>244|236=>247|235=>246|228=>304|271=>306|151=>305|197=>168|120=>334|152=>333|260=>236|137=>366|119=>367|224=>239|225=>238|217=>237|266=>302|n=>n,fun|9=>9|4=>4|3=>3|5=>5|117=>291|116=>290|0=>0|124=>294|21=>21|105=>218|46=>210|119=>318|139=>321|138=>320|n=>n,fun|3=>1|4=>2|n=>n⟩
def Tryz.lays160:Go.Proofs.Lays.n160 Tryz.prog Tryz.lays160_ren:=by constructor<;>intros<;>exact lay_k
def Tryz.lays172_ren:Go.Shelf.Ren:=⟨fun|172=>172|244=>248|245=>249|247=>307|279=>308|280=>309|281=>310|282=>311|287=>335|316=>336|171=>338|205=>337|321=>368|322=>369|243=>370|246=>381|283=>385|284=>386|285=>387|286=>388|129=>214|317=>389|318=>390|319=>391|320=>392|337=>393|338=>394|n=>n,fun|9=>9|3=>3|75=>223|76=>224|4=>4|5=>5|167=>326|37=>198|0=>0|85=>327|2=>2|168=>329|53=>275|175=>353|46=>210|210=>357|127=>296|145=>381|143=>379|21=>21|171=>393|173=>395|212=>398|51=>273|20=>20|213=>399|232=>400|233=>401|80=>230|n=>n,fun|15=>3|16=>4|17=>5|18=>6|19=>7|n=>n⟩
def Tryz.lays172:Go.Proofs.Lays.n172 Tryz.prog Tryz.lays172_ren:=by constructor<;>intros<;>exact lay_k
open Go.RowKit in
def Tryz.strconv_Atoi(s:ByteArray)(n:Int)(a:s.size<=18)(h:Lib.atoi s.data.toList=some n)(w:World):
  Calls Tryz.prog 172 #[.string s] w λe b=>e=.returned (.tuple #[.int .i64 n,.nilIface])/\∃t,b=Lib.bytesWorld w 5 t:=Any.strconv_Atoi Tryz.lays172 s n a h w
def Tryz.laysM171_ren:Go.Shelf.Ren:=⟨fun|171=>338|243=>370|246=>381|283=>385|284=>386|285=>387|286=>388|129=>214|317=>389|318=>390|319=>391|320=>392|337=>393|338=>394|n=>n,fun|3=>3|9=>9|2=>2|4=>4|171=>393|0=>0|53=>275|37=>198|5=>5|173=>395|212=>398|51=>273|20=>20|213=>399|46=>210|232=>400|233=>401|n=>n,fun|17=>5|18=>6|19=>7|n=>n⟩
def Tryz.laysM171:Go.Proofs.LaysM.n171 Tryz.prog Tryz.laysM171_ren:=by constructor<;>intros<;>first|exact lay_k|(constructor<;>intros<;>exact lay_k)
def Tryz.lays219_ren:Go.Shelf.Ren:=⟨fun|219=>170|217=>237|225=>238|224=>239|267=>240|266=>302|314=>303|n=>n,fun|9=>9|3=>3|4=>4|5=>5|46=>210|146=>322|51=>273|n=>n,fun|1=>0|n=>n⟩
def Tryz.lays219:Go.Proofs.Lays.n219 Tryz.prog Tryz.lays219_ren:=by constructor<;>intros<;>exact lay_k
open Go.RowKit Go.Lib in
def Tryz.stringslite_Index_one(s:ByteArray)(c:UInt8)(w:World):
  Calls Tryz.prog 170 #[.string s,.string ⟨#[c]⟩] w λe a=>e=.returned (.int .i64 (Lib.indexByte s.data.toList c))/\a=w:=Any.stringslite_Index_one Tryz.lays219 s c w
def Tryz.lays143_ren:Go.Shelf.Ren:=⟨fun|143=>120|219=>170|217=>237|225=>238|224=>239|267=>240|266=>302|314=>303|n=>n,fun|9=>9|3=>3|4=>4|5=>5|46=>210|146=>322|51=>273|n=>n,fun|1=>0|n=>n⟩
def Tryz.lays143:Go.Proofs.Lays.n143 Tryz.prog Tryz.lays143_ren:=by constructor<;>intros<;>exact lay_k
open Go.RowKit Go.Lib in
def Tryz.strings_Index_one(s:ByteArray)(c:UInt8)(w:World):
  Calls Tryz.prog 120 #[.string s,.string ⟨#[c]⟩] w λe a=>e=.returned (.int .i64 (Lib.indexByte s.data.toList c))/\a=w:=Any.strings_Index_one Tryz.lays143 s c w
def Tryz.lays138_ren:Go.Shelf.Ren:=⟨fun|138=>119|195=>167|218=>169|143=>120|219=>170|217=>237|225=>238|224=>239|267=>240|266=>302|314=>303|n=>n,fun|9=>9|3=>3|4=>4|5=>5|0=>0|46=>210|146=>322|51=>273|n=>n,fun|1=>0|n=>n⟩
def Tryz.lays138:Go.Proofs.Lays.n138 Tryz.prog Tryz.lays138_ren:=by constructor<;>intros<;>exact lay_k
open Go.RowKit Go.Lib in
def Tryz.strings_Count_one(s:ByteArray)(c:UInt8)(w:World):
  Calls Tryz.prog 119 #[.string s,.string ⟨#[c]⟩] w λe a=>e=.returned (.int .i64 (Lib.countByte s.data.toList c))/\a=w:=Any.strings_Count_one Tryz.lays138 s c w
end Go.Proofs
