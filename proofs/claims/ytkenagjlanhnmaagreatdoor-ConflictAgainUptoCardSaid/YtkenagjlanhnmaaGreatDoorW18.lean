/- A machine of abstract values for programs of the model, and its soundness, part 6. No condition. -/
import Derived.Shelf.Strings.Search1
import Derived.Shelf.Strings.Count
import Derived.Shelf.Strings.SlTrimAscii
import Derived.Test.YtkenagjlanhnmaaGreatDoorW16
import Derived.Test.YtkenagjlanhnmaaGreatDoorW17
set_option linter.all false
set_option maxHeartbeats 8000000
namespace Go.V
abbrev wM:=List (Nat× (List D×D))
def Jw:wM->Nat->List D->Option D
 | [],_,_=>none
 |(k,x)::l,g,args=>match Nat.beq k g with
  |true=>match Gi x.1 args with
   |true=>some x.2
   |false=>Jw l g args
  |false=>Jw l g args
def wS(lib:FuncId->List D->(Nat->Option Obj)->Hc)(m:wM)(g:FuncId)(args:List D)(hp:Nat->Option Obj):Hc:=
 match lib g args hp with
 |some d=>some d
 |none=>Uv (Jw m g args)
def Hp(P:Program)(lib:FuncId->List D->(Nat->Option Obj)->Hc):Prop:=∀g args (h:Heap) r,lib g args h.at'=some r->zE P g args h λa b=>a=r.1/\b=zHx r.2 h
def zN(P:Program):wM->Prop
 | []=>True
 |(k,x)::l=>(∀h,zE P k x.1 h λa b=>a=x.2/\b=h)/\zN P l
variable{P:Program}{args ds cs:List D}{h h':Heap}{f:FuncId}{d z x:D}{M:Imm}{ρ:Ren}{va:Array Value}{s:List UInt8}{fr:Frm}{i id n nid sz:Nat}{t:TypeId}{xs:List (List D)}
theorem Ub:∀{m:wM},zN P m->∀g args h d,Jw m g args=some d->zE P g args h λa b=>a=d/\b=h
 | [],_,_,_,_,_,c=>by cases c
 |(k,x)::l,e,g,args,h,d,c=>by
  simp only[Jw]at c;split at c
  ·rename_i i;split at c
   ·rename_i f;cases c;rw[<-ye i,<-ac _ _ f];exact e.1 h
   ·exact Ub e.2 g args h d c
  ·exact Ub e.2 g args h d c
def AR{b:FuncId->List D->(Nat->Option Obj)->Hc}{m:wM}(e:Hp P b)(f:zN P m):Hp P (wS b m):=λg args h r a=>by
 unfold wS at a;split at a
 ·rename_i i c;cases a;exact e g args h _ c
 ·unfold Uv at a;split at a
  ·rename_i d c;cases a;exact Ub f g args h d c
  ·cases a
def bh{g:FuncId}{o:Option D}{r:D×Option (Nat×Obj)}(hr:Uv o=some r)(c:∀d,o=some d->zE P g args h λa b=>a=d/\b=h):zE P g args h λa b=>a=r.1/\b=zHx r.2 h:=by
 unfold Uv at hr;split at hr
 ·rename_i d;cases hr;exact c d rfl
 ·cases hr
def zN.add(e:P.follows .mixedOrders=true){tab:List (Nat× (Func×Cfg))}(g:aW P tab){j:FuncId->Bool}{i:FuncId->List D->(Nat->Option Obj)->Hc}(p:Hp P i){m:wM}(l:zN P m)
  {fuel k:Nat} (n:oy args=true) (o:dV d=true)
  (q:(wP P tab j (wS i m) fuel k [] (.fn (.func f) [] []) args HT.emp).map (λr=>zb r.1 r.2.heap)=some d):zN P ((f,(args,d))::m):=
 ⟨λh=>(zE.of_run e g (AR p l) n o q h).mono λa b c=>⟨c.2,c.1⟩,l⟩
open Go.RowKit (Below)
def zE.of_lib(l:pQ P f=true)
  (k:∀(M:Imm)(ρ:Ren)(c:Array Value)(w:World),wJ M ρ ds c.toList->Calls P f c w λe i=>∃v,e=.returned v/\Bel w.heap.size w i/\∀(M':Imm)(q:Ren),rel M' q d v) (h:Heap):
  zE P f ds h λa b=>a=d/\b=h:=by
 refine⟨l,λw0 G M ρ w c m o g hr=>(k M ρ c w hr).mono λe i n=> ?_⟩;obtain⟨v,rfl,j,p⟩:=n;exact⟨v,M,ρ,d,h,rfl,MLe.refl _,RLe.refl _,o.world j,g,p M ρ,rfl,rfl⟩
def Uz{s t:List UInt8}(hr:wJ M ρ [.str s,.str t] va.toList):∃b c:ByteArray,va= #[.string b,.string c]/\b.data.toList=s/\c.data.toList=t/\s.length<=lim/\t.length<=lim:=by
 simp only[wJ,rel]at hr;obtain⟨v,vs,e,⟨b,rfl,h1,d⟩,h,g,a,⟨c,rfl,h3,f⟩,rfl⟩:=hr;subst a;exact⟨b,c,sS (by simpa using e),h1,h3,d,f⟩
def zBR(n:Int):Option D:=if IntKind.i64.wrap n==n then some (.int .i64 n)else none
def Nz{n:Int}(h:zBR n=some d)(M:Imm)(ρ:Ren):rel M ρ d (.int .i64 n):=by
 unfold zBR at h;split at h
 ·rename_i a;cases h;exact uM (show fits _ _ from by unfold fits;simpa using a)
 ·cases h
def zHw(s:List UInt8):Option D:=if decide (s.length<=lim)then some (.str s)else none
def FV(h:zHw s=some d)(M:Imm)(ρ:Ren):rel M ρ d (.string ⟨s.toArray⟩):=by
 unfold zHw at h;split at h
 ·rename_i a;cases h;simp only[rel];exact⟨_,rfl,by simp,by simpa using a⟩
 ·cases h
def bU:List D->Option D
 | [.str s,.str t]=>match t with
  | [c]=>zBR (Lib.indexByte s c)
  |_=>none
 |_=>none
def YR:List D->Option D
 | [.str s,.str t]=>match t with
  | [c]=>zBR (Lib.countByte s c)
  |_=>none
 |_=>none
def UZ:List D->Option D
 | [.str s,.str c]=>if Nat.ble 2 c.length&&c.all (λb=>decide (b.toNat<128))&&Nat.blt c.length 4294967281 then zHw (Lib.trimS s c)else none
 |_=>none
def Tp{b:ByteArray}{c:UInt8}(h:b.data.toList= [c]):b= ⟨#[c]⟩:=by
 cases b with
 |mk a=>
  have:a= #[c]:=sS (by simpa using h);rw[this]
def cN(m:pQ P f=true)(l:∀(s:ByteArray)(c:UInt8)(w:World),Calls P f #[.string s,.string ⟨#[c]⟩] w λe i=>e=.returned (.int .i64 (Lib.indexByte s.data.toList c))/\i=w)(g:bU args=some d)(h:Heap):zE P f args h λa b=>a=d/\b=h:=by
 unfold bU at g;split at g
 ·rename_i s t;split at g
  ·rename_i c;refine zE.of_lib m (λM ρ q w hr=> ?_) h;obtain⟨j,p,rfl,rfl,k,_,_⟩:=Uz hr;rw[Tp k];refine(l j c w).mono λe i n=> ?_;obtain⟨rfl,rfl⟩:=n;exact⟨_,rfl,Bel.refl _ _,λM' o=>Nz g M' o⟩
  ·cases g
 ·cases g
def XY(m:pQ P f=true)(l:∀(s:ByteArray)(c:UInt8)(w:World),Calls P f #[.string s,.string ⟨#[c]⟩] w λe i=>e=.returned (.int .i64 (Lib.countByte s.data.toList c))/\i=w)(g:YR args=some d)(h:Heap):zE P f args h λa b=>a=d/\b=h:=by
 unfold YR at g;split at g
 ·rename_i s t;split at g
  ·rename_i c;refine zE.of_lib m (λM ρ q w hr=> ?_) h;obtain⟨j,p,rfl,rfl,k,_,_⟩:=Uz hr;rw[Tp k];refine(l j c w).mono λe i n=> ?_;obtain⟨rfl,rfl⟩:=n;exact⟨_,rfl,Bel.refl _ _,λM' o=>Nz g M' o⟩
  ·cases g
 ·cases g
def Mj{ρ:Go.Shelf.Ren}(L:Go.Proofs.Lays.n160 P ρ)(d:(P.info? (ρ.t 116)).map (λi=>(i.zero,i.size))=some (some (.agg (Array.replicate 256 (.bool false))),256))(s a:ByteArray)(w:World)(g:2<=a.size)(n:s.size<=9223372036854775807)(k:a.size<4294967281)
  (c:∀(j:Nat) b,a.data.toList[j]? =some b->b.toNat<128):
  Calls P (ρ.f 160) #[.string s,.string a] w λe l=>e=.returned (.string ⟨(Lib.trimS s.data.toList a.data.toList).toArray⟩)/\Bel w.heap.size w l:=by
 by_cases h:s.size=0
 ·refine(Go.Proofs.Any.strings_Trim_empty L s a w (.inl h)).mono λe l ⟨h1,g⟩=>⟨?_,g▸Bel.refl _ _⟩;have m:s.data.toList= []:=yY (by rw[<-Lib.size_eq];exact h);rw[h1,m];congr 2;rw[<-Lib.mk_data s,m];rfl
 ·refine(Go.Proofs.Any.strings_Trim_set L (Go.zero_of_info d).1 (Go.zero_of_info d).2 s a w g ow n k c).mono λe l ⟨h1,g⟩=>⟨h1,?_⟩;obtain⟨q,rfl⟩:=g;exact⟨(((Below.refl _ _).alloc (zD _) _).alloc (by simp) _).trans ⟨rfl,rfl,rfl,zD _,λ_ _=>rfl⟩,Nat.le_add_right _ _⟩
def VF{P : Program}{f : FuncId}(q : pQ P f = true)(p : ∀(s c : ByteArray)(w : World), 2 <= c.size -> s.size <= 9223372036854775807 -> c.size < 4294967281 -> (∀(j : Nat) b, c.data.toList[j]? = some b -> b.toNat < 128) ->
      Calls P f #[.string s,.string c] w λe n => e =.returned (.string ⟨(Lib.trimS s.data.toList c.data.toList).toArray⟩) /\ Bel w.heap.size w n)
    {args : List D} {d : D} (i : UZ args = some d) (h : Heap) : zE P f args h λa b => a = d /\ b = h := by
  unfold UZ at i;split at i
  · rename_i s c
    split at i
    · rename_i g
      simp only [zF]at g;have m : c.length < 4294967281 := by rw [<- kW]; exact g.2
      refine zE.of_lib q (λM ρ u w hr => ?_) h;obtain ⟨k, l, rfl, rfl, rfl, h3, _⟩ := Uz hr;have e1 : k.size = k.data.toList.length := by rw [yQ]; rfl
      have e2 : l.size = l.data.toList.length := by rw [yQ]; rfl
      refine (p k l w (by rw [e2]; exact by have := g.1.1; rwa [Nat.ble_eq]at this) (by rw [e1]; unfold lim at h3; omega) (by rw [e2]; exact m) (Go.Proofs.ascii_of_all g.1.2)).mono λe n r => ?_;obtain ⟨rfl, o⟩ := r;exact ⟨_, rfl, o, λM' t => FV i M' t⟩
    · cases i
  · cases i
def gJ{α:Type _}(a b:α):(some a).getD b=a:=rfl
section
variable{P:Program}{g:Cfg}{n:Nat}{mu:Tmp->Bool}{h0:Heap}{bk:Nat->Bool}{ops:Array Oper}
theorem WO:∀(l:List Oper){K c:Frm->Heap->Prop}(_:∀fr h,K fr h->c fr h)(fr:Frm)(h:Heap),WT P mu ops l K fr h->WT P mu ops l c fr h
 | [],_,_,b,fr,h,a=>b fr h a
 |o::rest,K,c,b,fr,h,a=>by
  simp only[WT]at a⊢;cases e:uk ops fr o.guard with
  |true=>
   rw[e]at a;exact fQ (λd h' f=>WO rest b _ _ f) a
  |false=>
   rw[e]at a;exact WO rest b _ _ a
theorem ZR:∀(l:List (Nat×Fl)){K b:Frm->Heap->Prop}(_:∀fr h,K fr h->b fr h)(fl:Bool)(fr:Frm)(h:Heap),nk P mu h0 bk ops fl l K fr h->nk P mu h0 bk ops fl l b fr h
 | [],_,_,c,_,fr,h,a=>c fr h a
 |(i,st)::rest,K,b,c,fl,fr,h,a=>by
  simp only[nk]at a⊢;cases e:ops[i]? with
  |none=>rw[e]at a;exact a
  |some o=>
   rw[e]at a;exact cY (λd h' f=>⟨f.1,ZR rest c _ _ _ f.2⟩) a
def P6{l:List (Nat×Fl)}{K b:Frm->Heap->Prop}(c:∀fr h,K fr h->b fr h){fl:Bool}(a:dq P mu h0 bk ops fl l K fr h):dq P mu h0 bk ops fl l b fr h:=by
 unfold dq at a⊢;split at a
 ·exact ZR _ c _ _ _ a
 ·exact⟨a.1,ZR _ c _ _ _ a.2⟩
theorem rT:∀(c:Code){ro:Option Nat}{Q p:Exit->Frm->Heap->Prop}(_:∀e fr h,Q e fr h->p e fr h)(fr:Frm)(h:Heap),vwp P g n ro c Q fr h->vwp P g n ro c p fr h
 |.skip,_,_,_,m,fr,h,j=>m _ _ _ j
 |.exit _,_,_,_,m,fr,h,j=>m _ _ _ j
 |.ret,_,_,_,m,fr,h,j=>m _ _ _ j
 |.region id ops s,_,_,_,m,fr,h,j=>by
  simp only[vwp]at j⊢;cases s with
  |false=>exact WO _ (λfr h=>m _ fr h) _ _ j
  |true=>
   obtain⟨h0,h1,q⟩:=j;exact⟨h0,h1,P6 (λfr h=>m _ fr h) q⟩
 |.seq a b,ro,Q,p,m,fr,h,j=>by
  simp only[vwp]at j⊢;refine rT a (λe fr h o=> ?_) fr h j;cases e with
  |normal=>exact rT b m fr h o
  |_=>exact m _ _ _ o
 |.cond c a b,ro,Q,p,m,fr,h,j=>by
  simp only[vwp]at j⊢;split at j
  ·split at j
   ·exact rT a m fr h j
   ·exact rT b m fr h j
  ·exact j
 |.block id c,ro,Q,p,m,fr,h,j=>by
  simp only[vwp]at j⊢;refine rT c (λe fr h o=> ?_) fr h j;cases e with
  |exit i=>
   simp only[bC]at o⊢;split at o
   ·rename_i t;rw[ip t];exact m _ _ _ o
   ·rename_i t;rw[iq t];exact m _ _ _ o
  |_=>exact m _ _ _ o
 |.loop c,ro,Q,p,m,fr,h,j=>by
  simp only[vwp]at j⊢;obtain⟨I,h1,q⟩:=j;refine⟨I,h1,λk fr h w=>rT c (λe fr h o=> ?_) fr h (q k fr h w)⟩;cases e with
  |normal=>exact o
  |_=>exact m _ _ _ o
 |.rangeFunc f x u body,ro,Q,p,m,fr,h,j=>by
  simp only[vwp]at j⊢;refine⟨j.1,?_⟩;have q:=j.2;cases hf:wE fr f<;>rw[hf]at q<;>simp only[VFn]at q⊢;rename_i v first cap
  cases v<;>simp only at q⊢;refine zE.mono q λd h' o=> ?_;obtain⟨r,r1,r2,r3⟩:=o;refine⟨r,r1,r2,?_⟩;unfold Wb at r3⊢;split at r3
  ·exact m _ _ _ r3
  ·split at r3
   ·exact m _ _ _ r3
   ·exact m _ _ _ r3
   ·exact r3
 |.label _,_,_,_,m,fr,h,j=>m _ _ _ j
 |.goto _,_,_,_,_,_,_,j=>j
 |.scope c,ro,Q,p,m,fr,h,j=>by
  simp only[vwp]at j⊢;refine rT c (λe fr h o=> ?_) fr h j;cases e with
  |goto l=>exact o
  |_=>exact m _ _ _ o
 |.refuse ..,_,_,_,_,_,_,j=>j
end
section
variable{P:Program}{g:Cfg}{n:Nat}{ro:Option Nat}{c:Code}{Q:Exit->Frm->Heap->Prop}{fr:Frm}{h:Heap}
def xO(b:P.follows .mixedOrders=true){fn:Func}{co:Code}{R:D->Heap->Prop}(hf:P.funcs[f]? =some fn)(a:Qg P g fn=true)(c:fn.body=some co)(d:Nat.ble args.length fn.ntmps=true)
  (e:vwp P g fn.ntmps none co (D7 P fn.results.toList R) (V.UR args) h):zE P f args h R:=by
 unfold Qg at a;rw[c]at a;simp only[zF,qM]at a;exact zE.of_body b hf c a.2 a.1 (nW d) e
@[go_sem] theorem zHS(m:List Nat)(d:List (Nat×List (Nat×Fl)))(t:Tmp):(zp m d).mu t=List.contains (α:=Nat) m t:=(rfl)
def qx(J:Nat->Frm->Heap->Prop)(len:Nat)(b:J 0 fr h)(step:∀i fr h,i<=len->J i fr h->vwp P g n ro c (cW (λfr h=>i<len/\J (i+1) fr h) Q) fr h):vwp P g n ro (.loop c) Q fr h:=by
 refine Ms (λk fr h=>∃i,k=len-i/\i<=len/\J i fr h) len ⟨0,by simp,yC _,b⟩ ?_;rintro k fr h ⟨i,rfl,j,f⟩;refine rT c ?_ fr h (step i fr h j f);intro e d h' a;cases e with
 |normal=>exact⟨len- (i+1),by have:=a.1;omega,i+1,rfl,a.1,a.2⟩
 |_=>exact a
end
def qU{x:Int}(h1: -9223372036854775808<=x)(a:x<9223372036854775808):IntKind.i64.wrap x=x:=by
 unfold IntKind.wrap;simp[IntKind.signed,IntKind.bits];split<;>omega
def qR(h:i<=lim):IntKind.i64.wrap ((i:Int)+1)=((i+1:Nat):Int):=by
 rw[qU ow (by unfold lim at h;omega)];norm_cast
@[go_sem] theorem zEr(mu:Tmp->Bool)(t:Tmp):ar mu (some t)=mu t:=(rfl)
attribute [go_sem] List.contains_nil List.map_cons List.map_nil List.nil_append List.append_nil List.cons_append Bool.false_eq_true Bool.or_false Bool.or_true Bool.true_or Bool.false_or Bool.not_true Bool.not_false List.getElem?_cons_zero List.getElem?_cons_succ
@[go_sem] theorem zI9(t:Tmp):isC (.tmp t)=false:=(rfl)
@[go_sem] theorem zEk(v:Value):isC (.const v)=true:=(rfl)
@[go_sem] theorem zAB(h:Heap)(i:Nat)(o:Obj):(h.new i o).at' i=some o:=z8 h i o
@[go_sem] theorem zW(h:Heap)(i:Nat)(o:Obj):(h.set i o).at' i=some o:=by simp[Heap.set]
@[go_sem] theorem zA6(P:Program)(nid:Nat)(t:TypeId)(x:Operand)(fr:Frm)(h:Heap):vop P false nid (.box t x) (wE fr) h=if(wE fr x).notTuple then some (.iptr (wE fr x).cells 0,h)else none:=by
 simp[vop]
@[go_sem] theorem zA7(P:Program)(nid:Nat)(t:TypeId)(x:Operand)(fr:Frm)(h:Heap):vop P true nid (.box t x) (wE fr) h=if(wE fr x).notTuple then some (.ptr nid 0,h.new nid (.row (wE fr x).cells))else none:=by
 simp[vop]
def Zb(t:TypeId)(nid:Nat)(h:Heap):Option D->VR
 |some z=>if z.notTuple then some (.ptr nid 0,h.new nid (ax t z.cells))else none
 |none=>none
@[go_sem] theorem zHC(P:Program)(m:Bool)(nid:Nat)(t:TypeId)(fr:Frm)(h:Heap):vop P m nid (.alloc t) (wE fr) h=Zb t nid h (tJ P t):=by
 simp only[vop,Zb];cases tJ P t<;>rfl
@[go_sem] theorem zBG(t:TypeId)(nid:Nat)(h:Heap)(cs:List D):Zb t nid h (some (.agg cs))=some (.ptr nid 0,h.new nid (ax t cs)):=(rfl)
@[go_sem] theorem zBH(t:TypeId)(nid:Nat)(h:Heap)(k:IntKind)(n:Int):Zb t nid h (some (.int k n))=some (.ptr nid 0,h.new nid (.row [.int k n])):=(rfl)
@[go_sem] theorem zBI(t:TypeId)(nid:Nat)(h:Heap)(s:List UInt8):Zb t nid h (some (.str s))=some (.ptr nid 0,h.new nid (.row [.str s])):=(rfl)
@[go_sem] theorem Fq(t:TypeId)(nid:Nat)(h:Heap):Zb t nid h (some .nilsl)=some (.ptr nid 0,h.new nid (.row [.nilsl])):=(rfl)
@[go_sem] theorem zEt(t:TypeId)(k:IntKind)(n:Int)(cs:List D):ax t (.int k n::cs)=.row (.int k n::cs):=(rfl)
@[go_sem] theorem zEu(t:TypeId)(s:List UInt8)(cs:List D):ax t (.str s::cs)=.row (.str s::cs):=(rfl)
@[go_sem] theorem zBT(t:TypeId)(b:Bool)(cs:List D):ax t (.bool b::cs)=.row (.bool b::cs):=(rfl)
@[go_sem] theorem zAD(t:TypeId)(cs:List D):ax t (.nilsl::cs)=.row (.nilsl::cs):=(rfl)
@[go_sem] theorem Zo(cs:List D):(D.agg cs).notTuple=true:=(rfl)
@[go_sem] theorem R3(s:List UInt8):(D.str s).notTuple=true:=(rfl)
@[go_sem] theorem RK(cs:List D):(D.agg cs).cells=cs:=(rfl)
@[go_sem] theorem JG(s:List UInt8):(D.str s).cells= [.str s]:=(rfl)
variable{P:Program}{h:Heap}{fr:Frm}{n:Nat}
def WM(b:h.at' id=some (.row cs))(a:agT P t=some true)(c:szT P t=cs.length)(h0:0<cs.length):lR P t (.ptr id 0) h=some (.agg cs):=by
 simp only[lR,a,b,yW,c];rw[ip trivial,iq ow,ip ow];simp
def qp{cs cs':List D}(b:h.at' id=some (.row cs))(d:szT P t=cs'.length)(a:cs.length=cs'.length)(h0:0<cs'.length)(hf:cs'.all D.flat=true):yX P t (.ptr id 0) (.agg cs') h=some (h.set id (.row cs')):=by
 have c:wo cs cs' 0=cs':=by simp[wo,a]
 simp only[yX,b,D.cells,d,c];rw[ip];simp only[zF,zO,ne_eq,yZ];exact⟨⟨⟨λe=>by omega,trivial⟩,Nat.le_of_eq a.symm⟩,hf⟩
def zJ(a:cs.length=n)(h0:0<n):yW true n cs 0=some (.agg cs):=by
 subst a;simp only[yW];rw[ip trivial,iq ow,ip ow];simp
def Ic(ag:Bool)(n off:Nat):Option Obj->Option D
 |some (.row cs)=>yW ag n cs off
 |some (.trow _ _ cs)=>yW ag n cs off
 |_=>none
@[go_sem ↓] theorem zG9(P:Program)(t:TypeId)(id off:Nat)(h:Heap):lR P t (.ptr id off) h=(match agT P t with
 |none=>none
 |some ag=>Ic ag (szT P t) off (h.at' id)):=by
 unfold lR;cases agT P t with
 |none=>rfl
 |some ag=>
  simp only;cases h.at' id with
  |none=>rfl
  |some o=>cases o<;>rfl
@[go_sem] theorem zAb(ag:Bool)(n off:Nat)(cs:List D):Ic ag n off (some (.row cs))=yW ag n cs off:=(rfl)
@[go_sem] theorem zBL:D.nilsl.flat=true:=(rfl)
def qW{t e:TypeId}(j:tG P t=some e)(l:tJ P e=some z)(k:szT P e=sz)(g:z.notTuple=true)(b:z.cells.length=sz)(h0:0<sz)(i:sz<=16777216)
  (f:x.notTuple=true) (a:x.cells.length=sz):yB P false nid t 1 [(0,x)] h=some (.sl sz [x.cells] .full,h):=by
 simp only[yB,j,l,k];have d:lV 1 z.cells=z.cells:=by simp[lV]
 have c:wo z.cells x.cells 0=x.cells:=by simp[wo,b,a]
 rw[ip (by simp[g,b,h0];omega)];simp only[ur,d];rw[ip (by simp[f,a,b])];simp only[sZ,c];simp[wR,<-a]
def rY(h:Heap)(sz:Nat)(xs:List (List D))(d:D):Prop:=(d=.nilsl/\xs= [])\/∃t,d=.sl sz xs (.own t)/\h.at' t=some .tok/\t<h.next
def rY.isSl(a:rY h sz xs d):yi sz xs d:=by
 rcases a with⟨rfl,rfl⟩ | ⟨t,rfl,_⟩
 ·exact yi.nil
 ·exact yi.mk _
def rY.keep(c:rY h sz xs d)(b:∀i,i<h.next->h'.at' i=h.at' i)(e:h.next<=h'.next):rY h' sz xs d:=by
 rcases c with h1| ⟨t,h1,a,h3⟩
 ·exact .inl h1
 ·exact .inr ⟨t,h1,by rw[b t h3];exact a,by omega⟩
open Go.Proofs.Tryz
open Go.Proofs
set_option maxRecDepth 100000
noncomputable def tab:List (Nat× (Func×Cfg)):=[(8,(f8,zMm)),(11,(f11,zCb)),(13,(f13,zCf)),(14,(f14,AC)),(18,(f18,zCk)),(19,(f19,zCo)),(20,(f20,zCp)),(21,(f21,zCs)),(26,(f26,zC5)),(27,(f27,zC6)),(32,(f32,zDN)),(33,(f33,zDQ)),(34,(f34,AD)),(40,(f40,zDp)),(41,(f41,zDq)),(42,(f42,zDr)),(43,(f43,zDu)),(47,(f47,zDv)),(48,(f48,zDw)),(49,(f49,zDx)),(50,(f50,zDy)),(51,(f51,zDz)),(52,(f52,zD0)),(53,(f53,zD1)),(58,(f58,zD2)),(59,(f59,zD3)),(60,(f60,zD4)),(61,(f61,zD5)),(62,(f62,zD6)),(63,(f63,zD7)),(65,(f65,zD8)),(67,(f67,zD9)),(69,(f69,zEA)),(73,(f73,zEB)),(74,(f74,zEC)),(75,(f75,zED)),(76,(f76,AE)),(77,(f77,zEE)),(79,(f79,zEF)),(86,(f86,zEG)),(87,(f87,zEH)),(88,(f88,zEI)),(89,(f89,zEJ)),(90,(f90,zEK)),(91,(f91,zEL)),(92,(f92,zEM)),(93,(f93,zEN)),(94,(f94,zEO)),(97,(f97,zEP)),(98,(f98,zEQ)),(101,(f101,Fw)),(102,(f102,Fx)),(103,(f103,Fy)),(104,(f104,Fz)),(106,(f106,F0)),(108,(f108,F5)),(109,(f109,F6)),(110,(f110,F7)),(111,(f111,F8)),(112,(f112,F9)),(113,(f113,EA)),(114,(f114,EB)),(115,(f115,EC)),(116,(f116,ED)),(118,(f118,EE)),(121,(f121,EF)),(122,(f122,EG)),(123,(f123,EI)),(124,(f124,EJ)),(125,(f125,EK)),(126,(f126,EL)),(127,(f127,EM)),(128,(f128,EN)),(129,(f129,EO)),(130,(f130,EP)),(131,(f131,EQ)),(132,(f132,ER)),(133,(f133,ES)),(148,(f148,ET)),(149,(f149,EU)),(150,(f150,EV)),(151,(f151,EW)),(152,(f152,EX)),(153,(f153,EY)),(155,(f155,EZ)),(158,(f158,Ea)),(160,(f160,Eb)),(161,(f161,Ec)),(162,(f162,Ed)),(163,(f163,Ee)),(164,(f164,Ef)),(165,(f165,Eg)),(166,(f166,Eh)),(167,(f167,Ei)),(169,(f169,Ej)),(171,(f171,Ek)),(173,(f173,El)),(174,(f174,Em)),(176,(f176,En)),(177,(f177,Eo)),(179,(f179,Ep)),(181,(f181,Er)),(184,(f184,Es)),(185,(f185,Et)),(186,(f186,Eu)),(187,(f187,Ev)),(188,(f188,Ew)),(189,(f189,Ey)),(190,(f190,Ez)),(191,(f191,E4)),(192,(f192,E5)),(193,(f193,E6)),(194,(f194,E7)),(195,(f195,E8)),(196,(f196,E9)),(197,(f197,DA)),(198,(f198,DB)),(199,(f199,DC)),(200,(f200,DD)),(207,(f207,DE)),(208,(f208,JH)),(209,(f209,DF)),(215,(f215,DG)),(226,(f226,DH)),(227,(f227,JI)),(228,(f228,JJ)),(229,(f229,Nb)),(230,(f230,Nc)),(231,(f231,Nf)),(232,(f232,JK)),(233,(f233,DI)),(234,(f234,DJ)),(235,(f235,DK)),(236,(f236,DL)),(243,(f243,DM)),(244,(f244,DN)),(245,(f245,DO)),(246,(f246,DP)),(247,(f247,JL)),(248,(f248,DQ)),(249,(f249,DR)),(267,(f267,DS)),(282,(f282,DT)),(283,(f283,DU)),(285,(f285,DV)),(286,(f286,DW)),(288,(f288,DX)),(289,(f289,DY)),(290,(f290,DZ)),(292,(f292,Da)),(298,(f298,Db)),(302,(f302,Dc)),(303,(f303,Dd)),(317,(f317,De)),(318,(f318,Df)),(319,(f319,Dg)),(320,(f320,Dh)),(321,(f321,JM)),(322,(f322,Di)),(323,(f323,Dj)),(324,(f324,Dk)),(325,(f325,Dl)),(326,(f326,Dm)),(361,(f361,Ng)),(362,(f362,Do)),(363,(f363,Dp)),(364,(f364,Dq)),(365,(f365,Dr)),(366,(f366,Ds)),(375,(f375,Dt)),(376,(f376,Du)),(377,(f377,Dv)),(396,(f396,Dw)),(399,(f399,Dx)),(430,(f430,Dy)),(431,(f431,Dz))]
def zz:aW prog tab:=⟨ok8,zOW,zMs,zKI,zFO,zMt,zOY,zOZ,zOd,zOe,zOh,zOi,zLP,zLh,zMu,zLi,zMv,zMw,zOn,zMx,zMy,zMz,zOo,zOp,zM0,zOr,zOs,zOt,zM1,zOu,zOv,zOx,zM2,zO1,zM3,zM4,zM5,zM6,zLl,zLm,zM7,zM8,zHh,zM9,zNA,zLn,zNB,zNC,zNE,zNF,zEy,zJ2,zJ3,zJ4,zJ5,zJ6,zEz,zJ7,zJ8,zE0,zE1,zJ9,zE2,zE3,zE4,zKD,zKE,zKF,zE5,zE6,zE7,zE8,zE9,zFA,zFB,zFC,zAF,zKG,zFD,zFE,zFF,zAG,zKK,zFG,zFH,zKM,zFI,zKN,zKO,zFJ,zKP,zKQ,zKR,zKS,zKT,zKU,zFK,zKV,zFL,zFM,zFN,zFP,zKa,zKb,zKc,zKd,zKe,zFQ,zFR,zFS,zFT,zFU,zFV,zKf,zFW,zFX,zFY,zAH,zFZ,zFa,zFb,Gz,zKi,zKk,zFc,zFd,zFe,zFf,zFg,zFh,zKl,zKm,zFi,zFj,zFk,zFl,zFm,zFn,zFo,zFp,zFq,zKw,zFr,zFs,zFt,zFu,zFv,zFw,zFx,zK7,zK8,zK9,zFy,zFz,zF0,zF1,zF2,zF3,zF4,zF5,zF6,zF7,zF8,zF9,zGA,zGB,zGC,zGD,zGE,zGF,zGG,zGH,zGI,zGJ,zGK,zGL,trivial⟩
def mix:prog.follows .mixedOrders=true:=kr
def zu{fn:Func}{g:Cfg}{co:Code}{R:D->Heap->Prop}(e:Fo prog f fn g)(c:vwp prog g fn.ntmps none co (D7 prog fn.results.toList R) (V.UR args) h)(a:fn.body=some co:=by rfl)(b:Nat.ble args.length fn.ntmps=true:=by rfl):zE prog f args h R:=xO mix e.1 e.2 a b c
end Go.V
