/- Rules of the machine of abstract values, part 3. No condition. -/
import Derived.Test.YtkenagjlanhnmaaGreatDoorW20
import Derived.Lib.SlicesCompact
import Derived.Lib.RowBridge
import Derived.Sort.Walk0
import Derived.Shelf.SlSortCmp.WholeK
import Derived.Ground.SlsfProg
import Derived.Shelf.SlSortCmp.Whole1
set_option linter.all false
set_option maxHeartbeats 8000000
namespace Go.V
def wY(l:List Int):List (List D):=l.map λn=>[.int .i64 n]
def wI(l:List Int):(wY l).length=l.length:=zG ..
variable{i nid sz:Nat}{H h h0:Heap}{P:Program}{t:TypeId}{z x y d:D}{fr:Frm}{args:List D}{s:List UInt8}
def fp{l:List Int}(h:i<l.length):(wY l)[i]? =some [.int .i64 l[i]]:=by simp[wY,h]
def zAA(o o2:Obj):((H.new H.next o).new (H.new H.next o).next o2).at' H.next=some o:=by
 rw[zi (by rw[za];omega),z8]
variable{P:Program}{h:Heap}
def NE{c x:D}{o2:Obj}(d:szT P t=1)(b:x.cells= [x])(hf:x.flat=true):
  yX P t (.ptr H.next 0) x ((H.new H.next (.row [c])).new (H.new H.next (.row [c])).next o2)=some ((H.new H.next (.row [x])).new (H.new H.next (.row [x])).next o2):=by
 rw[yU (zAA _ _) d (by simp) b hf];congr 1;simp only[Heap.set,Heap.new,Heap.mk.injEq,zT]
 funext j
 by_cases a:j=H.next
 ·subst a;simp
 ·simp[a]
def R8{a b c b':List D}(d:b'.length=b.length):wo (a++b++c) b' a.length=a++b'++c:=by
 simp[wo,d]
def WI{t e:TypeId}(q:tG P t=some e)(s:tJ P e=some z)(r:szT P e=sz)(n:z.notTuple=true)(d:z.cells.length=sz)(h0:0<sz)(o:sz<=1048576)
  (l:x.notTuple=true) (f:x.cells.length=sz) (m:y.notTuple=true) (i:y.cells.length=sz):yB P false nid t 2 [(0,x),(1,y)] h=some (.sl sz [x.cells,y.cells] .full,h):=by
 simp only[yB,q,s,r];have g:lV 2 z.cells=z.cells++z.cells:=by simp[lV]
 have j:wo (z.cells++z.cells) x.cells (0*sz)=x.cells++z.cells:=by
  have:=R8 (a:=[]) (b:=z.cells) (c:=z.cells) (b':=x.cells) (by rw[f,d]);simpa using this
 have k:wo (x.cells++z.cells) y.cells (1*sz)=x.cells++y.cells:=by
  have:=R8 (a:=x.cells) (b:=z.cells) (c:=[]) (b':=y.cells) (by rw[i,d]);rw[ov,<-f];simpa using this
 rw[ip (by simp[n,d,h0];omega)];simp only[ur,g];rw[ip (by simp[l,f,d])];simp only[ur,j];rw[ip (by simp[m,i,f,d])];simp only[ur,k];have p:wR sz 2 (x.cells++y.cells)= [x.cells,y.cells]:=by
  simp only[wR];rw[wQ ow,yV ow,nv ow,rM ow,yc,yV ow]
 simp[p]
open Go.RowKit (Below)
open Go.Shelf Go.Proofs
open Go.Proofs
section
variable{P:Program}{m:Bool}{nid:Nat}{h:Heap}{fr:Frm}{k:D->Heap->Prop}
def zHR(P:Program)(t:TypeId)(d:D):Option D:=
 match d with
 |.nilsl=>match P.underlying t with
  |some (.slice _)=>some (.int .i64 0)
  |_=>none
 |_=>none
@[go_sem ↓] theorem zP0(t:TypeId)(x:Operand):rF P m nid (.call ⟨.builtin .cap,#[x],#[t]⟩) (wE fr) h k=onS (zHR P t (wE fr x)) (k · h):=by
 refine mI rfl ?_;simp only[vop,mS,zHR,qm,nT];cases wE fr x<;>try rfl
 simp only[];cases P.underlying t with
 |none=>rfl
 |some y=>cases y<;>rfl
@[go_sem ↓] theorem zL4(t:TypeId)(x:Operand):rF P m nid (.call ⟨.builtin .clear,#[x],#[t]⟩) (wE fr) h k=onH (dp P t (wE fr x) h) (k rD ·):=HM rfl rfl
def Gb{t e:TypeId}(a:P.underlying t=some (.slice e)):zHR P t .nilsl=some (.int .i64 0):=by simp[zHR,a]
end
abbrev KV:=List (List UInt8×List UInt8)
def kvD(m:KV):List (D×D):=m.map λp=>(.str p.1,.str p.2)
def pR(k:List UInt8):KV->Option (List UInt8)
 | []=>none
 |(k',v)::m=>if k==k' then some v else pR k m
def cK(k v:List UInt8):KV->KV
 | []=>[(k,v)]
 |(k',v')::m=>if k==k' then(k,v)::m else(k',v')::cK k v m
def YQ(p:List UInt8×List UInt8)(m:KV):kvD (p::m)=(.str p.1,.str p.2)::kvD m:=rfl
def gY(k k':List UInt8):eqK [.s] (D.str k).cells (D.str k').cells=some (k==k'):=by
 show(eqK [] [] []).map (k==k'&& ·)=_;simp[eqK]
theorem Uj(k:List UInt8):∀m:KV,kJ [.s] (.str k) (kvD m)=some ((pR k m).map .str)
 | []=>rfl
 |(k',v)::m=>by
  have a:=Uj k m;rw[YQ,kJ,gY];cases h:(k==k')with
  |true=>simp[pR,h]
  |false=>simp only[pR,h,a];rfl
theorem J4(k v:List UInt8):∀m:KV,MG [.s] (.str k) (.str v) (kvD m)=some (kvD (cK k v m))
 | []=>rfl
 |(k',b)::m=>by
  have a:=J4 k v m;rw[YQ,MG,gY];cases h:(k==k')with
  |true=>simp[cK,h,YQ]
  |false=>simp[cK,h,YQ,a]
def Rm(m:KV):(kvD m).all (λx=>yz false x.1)=true:=by
 rw[zo];intro x a;obtain⟨p,_,rfl⟩:=zM.1 a;rfl
theorem Rn(k k' v:List UInt8):∀m:KV,pR k (cK k' v m)=if k==k' then some v else pR k m
 | []=>by simp[cK,pR]
 |(k2,c)::m=>by
  have b:=Rn k k' v m;simp only[cK];by_cases h:k'=k2
  ·subst h;simp only[nz,qS,pR];by_cases g:k=k'
   ·subst g;simp
   ·simp[g]
  ·have a:(k'==k2)=false:=by simp[h]
   simp only[a,zl,yy,pR,b];by_cases g:k=k2
   ·subst g
    have:(k==k')=false:=by simp;exact λe=>h e.symm
    simp[this]
   ·simp[g]
section
variable{P:Program}{t kt e:TypeId}{id:Nat}{h:Heap}{m:KV}
def KF(a:h.at' id=some (.map (kvD m)))(c:MA P t=some (kt,e))(b:N3 P kt=some (false,[.s]))(d:tJ P e=some (.str []))(k:List UInt8)(ok:Bool):
  uY P t (.map id) (.str k) ok h=some (dw ok (.str []) ((pR k m).map .str)):=by
 simp only[uY,c,b,d,Wa,a,fN,Rm,gY,Uj,show yz false (.str k)=true from rfl,sD,wu,qS]
def TT(a:h.at' id=some (.map (kvD m)))(c:MA P t=some (kt,e))(b:N3 P kt=some (false,[.s]))(k v:List UInt8):
  uJ P t (.map id) (.str k) (.str v) h=some (h.set id (.map (kvD (cK k v m)))):=by
 simp only[uJ,c,b,a,Rm,gY,Uj,J4,show yz false (.str k)=true from rfl,sD,wu,qS]
end
def zHs(P:Program)(h0:Heap)(f:D)(args:List D)(k:D->Prop):Prop:=∃d,(∀h',HLe h0 h'->Za P f args h' λd' h''=>d'=d/\h''=h')/\k d
variable{P:Program}{t:TypeId}{nid:Nat}{h:Heap}{fr:Frm}
@[congr] theorem zBX{f f':D}{args args':List D}{k:D->Prop}(hf:f=f')(ha:args=args'):zHs P h0 f args k=zHs P h0 f' args' k:=by rw[hf,ha]
@[go_sem ↓] theorem zAt(f:Operand)(args:List Operand)(ats:Array TypeId)(k:D->Prop):WC P h0 (.call ⟨.value f,args.toArray,ats⟩) (wE fr) k=zHs P h0 (wE fr f) (args.map (wE fr)) k:=(rfl)
def zHr(P:Program)(h0:Heap)(f:D)(args:List D)(k:D->Prop):Prop:=∃S:D->Prop,(∃e,S e)/\(∀h',HLe h0 h'->Za P f args h' λd' h''=>S d'/\h''=h')/\∀d,S d->k d
@[congr] theorem zBW{f f':D}{args args':List D}{k:D->Prop}(hf:f=f')(ha:args=args'):zHr P h0 f args k=zHr P h0 f' args' k:=by rw[hf,ha]
@[go_sem ↓] theorem zAr(f:Operand)(args:List Operand)(ats:Array TypeId)(k:D->Prop):Iv P h0 (.call ⟨.value f,args.toArray,ats⟩) (wE fr) k=zHr P h0 (wE fr f) (args.map (wE fr)) k:=propext ⟨λh=>h.2,λh=>⟨rfl,h⟩⟩
def zAM{g:FuncId}{k:D->Prop}(S:D->Prop)(f:∀h',zE P g args h' λr a=>a=h'/\S r)(b:∃e,S e)(c:∀d,S d->k d):zHr P h0 (.fn (.func g) [] []) args k:=
 ⟨S,b,λh' _=>by
  rw[KX,yc,yL];exact(f h').mono λ_ _ e=>⟨e.2,e.1⟩,c⟩
def kK{g:FuncId}{k:D->Prop}(d:D)(c:∀h',zE P g args h' λr a=>a=h'/\r=d)(b:k d):zHs P h0 (.fn (.func g) [] []) args k:=
 ⟨d,λh' _=>by
  rw[KX,yc,yL];exact(c h').mono λ_ _ e=>⟨e.2,e.1⟩,b⟩
abbrev Str:=List UInt8
def Ue(a b:Str):WS a b=decide (a<b):=bytesLess_eq a b
open Go.Proofs.Tryz
def Zf(s:List UInt8):List (List D):=s.map λb=>[.int .u8 (b.toNat:Int)]
def UB(s:List UInt8):(Zf s).length=s.length:=zG ..
def M4(h:i<s.length):(Zf s)[i]? =some [.int .u8 (s[i].toNat:Int)]:=by simp[Zf,h]
def LO(s:List UInt8):nR prog 9 255 (.str s)=some (.sl 1 (Zf s) .no):=by
 simp only[nR,underlying9,underlying255,underlying5,Zf]
set_option maxRecDepth 100000
def tC(a b:Int):Int:=if a<b then -1 else if a>b then 1 else 0
def ss:List Int->List Int->Int
 | [],[]=>0
 | [],_::_=> -1
 |_::_,[]=>1
 |a::l,b::m=>if tC a b=0 then ss l m else tC a b
def orL:List Int->Int
 | []=>0
 |a::l=>if a=0 then orL l else a
def JS{l m:List Int} :∀{i:Nat},i<l.length->(a:i<m.length)->ss (l.drop i) (m.drop i)=if tC (l.getD i 0) (m.getD i 0)=0 then ss (l.drop (i+1)) (m.drop (i+1))else tC (l.getD i 0) (m.getD i 0):=by
 intro i b a;rw[yf b,yf a];simp[ss,zC,b,a]
def Kw(a:Int)(h:Heap):zE prog 173 [.int .i64 a] h λr h'=>h'=h/\r=.bool false:=by
 refine zu zFK ?_;simp only[f173,zA];simp only[go_sem,Nat.reduceEqDiff,↓reduceIte,bne_self_eq_false,and_self]
def Yr(a b:Int)(h:Heap):zE prog 113 [.int .i64 a,.int .i64 b] h λr h'=>h'=h/\r=.int .i64 (tC a b):=by
 refine zu zE1 ?_;simp only[f113,zA];simp only[go_sem,Nat.reduceEqDiff,↓reduceIte];refine(Kw a h).mono ?_;rintro r h ⟨rfl,rfl⟩;simp only[go_sem,Nat.reduceEqDiff,↓reduceIte];refine(Kw b h).mono ?_;rintro r h ⟨rfl,rfl⟩;simp only[go_sem,Nat.reduceEqDiff,↓reduceIte];cases e1:decide (a<b)with
 |true=>
  simp only[go_sem,Nat.reduceEqDiff,↓reduceIte];simp[tC,yK e1]
 |false=>
  simp only[go_sem,Nat.reduceEqDiff,↓reduceIte];cases e2:decide (a>b)with
  |true=>
   simp only[go_sem,Nat.reduceEqDiff,↓reduceIte];simp[tC,yO e1,yK e2]
  |false=>
   simp only[go_sem,Nat.reduceEqDiff,↓reduceIte];simp[tC,yO e1,yO e2]
def zCR{l:List Int}(m:yi 1 (wY l) d)(o:l.length<=1048576)(h:Heap):zE prog 112 [d] h λr h'=>h'=h/\r=.int .i64 (orL l):=by
 refine zu zE0 ?_;simp only[f112,zA];have k:((wY l).length:Int)=l.length:=by rw[wI]
 simp only[go_sem,Nat.reduceEqDiff,↓reduceIte,wa m underlying30,k];refine qx (λi fr h'=>fr 3=.int .i64 0/\fr 6=d/\fr 7=.int .i64 l.length/\fr 8=.int .i64 (i:Int)/\h'=h/\orL (l.drop i)=orL l) l.length ?_ ?_
 ·simp only[go_sem,Nat.reduceEqDiff,↓reduceIte,zT,wb]
  trivial
 rintro i fr h' n ⟨c,e,f,g,rfl,b⟩;simp only[go_sem,Nat.reduceEqDiff,↓reduceIte,c,e,f,g];by_cases a:i<l.length
 ·rw[zS (by exact_mod_cast a)];rw[yf a]at b;simp only[orL]at b;simp only[go_sem,Nat.reduceEqDiff,↓reduceIte,c,e,f,g,yn m qv sI (fp a),wO];by_cases h0:l[i]=0
  ·rw[show(l[i] !=0)=false by simp[h0]];simp only[go_sem,Nat.reduceEqDiff,↓reduceIte,c,e,f,g];rw[ip h0]at b;exact⟨a,by rw[qR (by unfold lim;omega)],b⟩
  ·rw[show(l[i] !=0)=true by simp[h0]];simp only[go_sem,Nat.reduceEqDiff,↓reduceIte];rw[iq h0]at b;rw[b]
 ·have j:i=l.length:=ow;subst j;rw[zP ow];simp only[go_sem,Nat.reduceEqDiff,↓reduceIte,c];rw[nw]at b;rw[<-b];trivial
def PZ(n:Nat):Bool:= !(decide (97<=n)&&decide (n<=122)||decide (48<=n)&&decide (n<=57)||decide (n=46)||decide (n=95)||decide (n=45))
def Q9(n:Nat)(h:Heap):zE prog 376 [.int .i32 n] h λr h'=>h'=h/\r=.bool (PZ n):=by
 refine zu zGG ?_;simp only[f376,zA];have key:∀a b c d f g i:Bool,decide ((n:Int)>=97)=a->decide ((n:Int)<=122)=b->decide ((n:Int)>=48)=c->decide ((n:Int)<=57)=d->((n:Int)==46)=f->((n:Int)==95)=g->((n:Int)==45)=i->PZ n= !(a&&b||c&&d||f||g||i):=by
  rintro _ _ _ _ _ _ _ rfl rfl rfl rfl rfl rfl rfl;have p:((n:Int)==46)=decide (n=46):=by by_cases e:n=46<;>simp[e]<;>omega
  have q:((n:Int)==95)=decide (n=95):=by by_cases e:n=95<;>simp[e]<;>omega
  have s:((n:Int)==45)=decide (n=45):=by by_cases e:n=45<;>simp[e]<;>omega
  have e1:decide ((n:Int)>=97)=decide (97<=n):=by by_cases e:97<=n<;>simp[e]<;>omega
  have e2:decide ((n:Int)<=122)=decide (n<=122):=by by_cases e:n<=122<;>simp[e]<;>omega
  have e3:decide ((n:Int)>=48)=decide (48<=n):=by by_cases e:48<=n<;>simp[e]<;>omega
  have o:decide ((n:Int)<=57)=decide (n<=57):=by by_cases e:n<=57<;>simp[e]<;>omega
  rw[e1,e2,e3,o,p,q,s];rfl
 cases h1:decide ((n:Int)>=97)<;>cases j:decide ((n:Int)<=122)<;>cases h3:decide ((n:Int)>=48)<;>cases k:decide ((n:Int)<=57)<;>cases h5:((n:Int)==46)<;>cases l:((n:Int)==95)<;>cases m:((n:Int)==45)<;>rw[key _ _ _ _ _ _ _ h1 j h3 k h5 l m] <;>
  simp only[go_sem,Nat.reduceEqDiff,↓reduceIte,vun,h1,j,h3,k,h5,l,m]<;>rfl
def Ur(s:List UInt8):Bool:=match s with
 | []=>false
 |b::r=> !(decide ((b::r).length>32)||(b==46||(b==45||oN PZ (b::r) ((b::r).length+1) 0)))
def LM(g:s.length<=1048576)(h:Heap):zE prog 320 [.str s] h λr h'=>h'=h/\r=.bool (Ur s):=by
 refine zu zF2 ?_;simp only[f320,zA];cases s with
 |nil=>simp only[go_sem,Nat.reduceEqDiff,↓reduceIte,show(([]:List UInt8)== [])=true from rfl,Ur]
 |cons b r=>
  have h0:((b::r:List UInt8)== [])=false:=rfl;have d:nn prog 9 (.str (b::r)) (.int .i64 0)=some (.int .u8 b.toNat):=rK (n:=0) underlying9 rfl;have e1:((b.toNat:Int)==46)=(b==46):=by
   by_cases e:b=46
   ·subst e;rfl
   ·rw[yr.2 e,yr.2 λh=>e (gS.1 (by rw[show(46:UInt8).toNat=46 from rfl];omega))]
  have e2:((b.toNat:Int)==45)=(b==45):=by
   by_cases e:b=45
   ·subst e;rfl
   ·rw[yr.2 e,yr.2 λh=>e (gS.1 (by rw[show(45:UInt8).toNat=45 from rfl];omega))]
  have c:decide (((b::r).length:Int)>32)=decide ((b::r).length>32):=by
   by_cases e:(b::r).length>32
   ·rw[zS e,zS ow]
   ·rw[zP e,zP ow]
  cases h1:decide ((b::r).length>32)with
  |true=>
   simp only[go_sem,Nat.reduceEqDiff,↓reduceIte,h0,sJ underlying9,c,h1];simp only[Ur,h1];rfl
  |false=>
  cases a:(b==46)with
  |true=>
   simp only[go_sem,Nat.reduceEqDiff,↓reduceIte,h0,sJ underlying9,c,h1,d,e1,a];simp only[Ur,h1,a];rfl
  |false=>
  cases h3:(b==45)with
  |true=>
   simp only[go_sem,Nat.reduceEqDiff,↓reduceIte,h0,sJ underlying9,c,h1,d,e1,e2,a,h3];simp only[Ur,h1,a,h3];rfl
  |false=>
   simp only[go_sem,Nat.reduceEqDiff,↓reduceIte,h0,sJ underlying9,c,h1,d,e1,e2,a,h3];refine(Y2 g (λn _ h=>Q9 n h) _).mono ?_;rintro q f ⟨rfl,rfl⟩;simp only[vun,go_sem,Nat.reduceEqDiff,↓reduceIte,Ur,h1,a,h3]
def Pa(s:List UInt8):Int:=if s.length>128\/(qo 47 s).length>8\/(qo 47 s).any (λp=> !Ur p)=true then 2 else 0
def Wz(i:s.length<=1048576)(h:Heap):zE prog 245 [.str s] h λr h'=>h'=h/\r=.int .i64 (Pa s):=by
 refine zu zFm ?_;simp only[f245,zA];simp only[go_sem,Nat.reduceEqDiff,↓reduceIte];refine(JD i 47 _).mono ?_;rintro r b ⟨rfl,rfl⟩;have d:=bv 47 s;have a:decide ((s.length:Int)>128)=decide (s.length>128):=by
  by_cases e:s.length>128
  ·rw[zS e,zS ow]
  ·rw[zP e,zP ow]
 have e1:decide (((wn (qo 47 s)).length:Int)>8)=decide ((qo 47 s).length>8):=by
  rw[qw];by_cases e:(qo 47 s).length>8
  ·rw[zS e,zS ow]
  ·rw[zP e,zP ow]
 cases h1:decide (s.length>128)with
 |true=>
  simp only[go_sem,Nat.reduceEqDiff,↓reduceIte,sJ underlying9,a,h1];rw[Pa,ip (.inl (yK h1))]
 |false=>
 have f:=yO h1;cases h3:decide ((qo 47 s).length>8)with
 |true=>
  simp only[go_sem,Nat.reduceEqDiff,↓reduceIte,sJ underlying9,wa (yi.mk .no) underlying45,a,e1,h1,h3];rw[Pa,ip (.inr (.inl (yK h3)))]
 |false=>
 have g:=yO h3;simp only[go_sem,Nat.reduceEqDiff,↓reduceIte,sJ underlying9,wa (yi.mk .no) underlying45,a,e1,h1,h3];refine(Yw (yi.mk .no) ow (p:=λp=> !Ur p) (λp j h=> ?_) _).mono ?_
 ·refine zu zF1 ?_;simp only[f319,zA];have:=dh 47 s p j;simp only[go_sem,Nat.reduceEqDiff,↓reduceIte];refine(LM ow _).mono ?_;rintro r b ⟨rfl,rfl⟩;simp only[vun,go_sem,Nat.reduceEqDiff,↓reduceIte]
 ·rintro r b ⟨rfl,rfl⟩;cases c:(qo 47 s).any (λp=> !Ur p)with
  |true=>
   simp only[go_sem,Nat.reduceEqDiff,↓reduceIte];rw[Pa,ip (.inr (.inr c))]
  |false=>
   simp only[go_sem,Nat.reduceEqDiff,↓reduceIte];rw[Pa,iq (λh=>h.elim f λh=>h.elim g λh=>by rw[c]at h;cases h)]
end Go.V
namespace Go.Proofs
open Go.Shelf
def Tryz.sortLic_ren:Go.Shelf.Ren:=⟨fun|6=>327|15=>234|14=>378|28=>301|29=>302|20=>167|21=>400|22=>401|23=>402|24=>403|25=>404|26=>405|27=>406|46=>432|47=>368|48=>369|49=>433|50=>434|57=>442|n=>n,fun|22=>22|24=>117|25=>119|3=>3|39=>299|0=>0|53=>355|55=>357|4=>4|46=>348|45=>347|50=>166|5=>5|9=>9|66=>397|70=>401|76=>426|77=>172|n=>n,fun|n=>n⟩
def Tryz.sortLic:Go.Proofs.SlLaysF0.n6 Tryz.prog Tryz.sortLic_ren:=by constructor<;>intros<;>exact lay_k
def Tryz.pdqTrm_ren:Go.Shelf.Ren:=⟨fun|14=>379|20=>407|21=>408|22=>409|23=>410|24=>411|25=>412|26=>413|27=>414|46=>435|47=>368|48=>369|49=>436|50=>437|15=>234|57=>443|28=>301|29=>302|n=>n,fun|24=>197|22=>194|3=>3|25=>370|4=>4|0=>0|46=>348|45=>347|50=>166|66=>397|39=>299|55=>357|70=>401|76=>426|77=>172|53=>355|5=>5|9=>9|n=>n,fun|n=>n⟩
def Tryz.pdqTrm:Go.Proofs.SlLaysF0.n14 Tryz.prog Tryz.pdqTrm_ren:=by constructor<;>intros<;>exact lay_k
def Tryz.sortVio_ren:Go.Shelf.Ren:=⟨fun|6=>197|15=>234|14=>235|28=>301|29=>302|20=>303|21=>304|22=>305|23=>306|24=>307|25=>308|26=>309|27=>310|46=>372|47=>368|48=>369|49=>373|50=>374|57=>398|n=>n,fun|22=>157|24=>137|25=>275|3=>3|39=>299|0=>0|53=>355|55=>357|4=>4|46=>348|45=>347|50=>166|5=>5|9=>9|66=>397|70=>401|76=>426|77=>172|n=>n,fun|n=>n⟩
def Tryz.sortVio:Go.Proofs.SlLaysF0.n6 Tryz.prog Tryz.sortVio_ren:=by constructor<;>intros<;>exact lay_k
def Tryz.sortAlt_ren:Go.Shelf.Ren:=⟨fun|6=>332|15=>234|14=>380|28=>301|29=>302|20=>415|21=>416|22=>417|23=>418|24=>419|25=>420|26=>421|27=>422|46=>438|47=>368|48=>369|49=>439|50=>440|57=>444|n=>n,fun|22=>44|24=>195|25=>372|3=>3|39=>299|0=>0|53=>355|55=>357|4=>4|46=>348|45=>347|50=>166|5=>5|9=>9|66=>397|70=>401|76=>426|77=>172|n=>n,fun|n=>n⟩
def Tryz.sortAlt:Go.Proofs.SlLaysF.n6 Tryz.prog Tryz.sortAlt_ren:=by constructor<;>intros<;>exact lay_k
def Tryz.lays189_ren:Go.Shelf.Ren:=⟨fun|189=>195|125=>234|257=>233|128=>301|129=>302|294=>292|295=>293|296=>294|297=>295|298=>296|299=>297|216=>298|300=>299|301=>300|328=>367|329=>368|330=>369|331=>370|332=>371|215=>173|343=>397|n=>n,fun|28=>30|3=>3|46=>299|0=>0|51=>355|53=>357|4=>4|183=>348|182=>347|131=>166|5=>5|9=>9|218=>397|222=>401|228=>426|229=>172|n=>n,fun|n=>n⟩
def Tryz.lays189:Go.Proofs.Lays.n189 Tryz.prog Tryz.lays189_ren:=by constructor<;>intros<;>exact lay_k
open Go.Sort Go.RowKit in
def Tryz.slices_Sort_int(a off cap:Nat)(zs:List Int)(w:World)(d:Holds (Value.int .i64) w a off zs.toArray)(b:a<w.heap.size)(c:zs.length<4611686018427387904):
  Calls Tryz.prog 195 #[.slice (some ⟨a,off,none⟩) zs.length cap] w λe g=>
   e=.returned (.tuple #[])/\∃n f,g=grow (putRow (Value.int .i64) (Sort.ahead w n) a off (zs.mergeSort λx y=>decide (x<=y)).toArray) f:=Any.slices_Sort_int Tryz.lays189 a off cap zs w d b c
end Go.Proofs
namespace Go.V
open Go.Proofs.Tryz
open Go.Proofs
set_option maxRecDepth 100000
def D5:Cfg:=⟨λ_=>false,λ_=>[]⟩
theorem zGM:Qg prog D5 f133=true:=kr
theorem NT{xs:List (List D)}{d:D}(b:yi 4 xs d)(c:∀x∈xs,x.length=4)(g:xs.length<=1048576)(h:Heap):
  zE prog 200 [d] h λr h'=>(xs= []/\h'=h/\(r=.nilsl/\d=.nilsl\/r=.sl 4 [] .full/\Jr d=false))\/(xs≠[]/\r=.rs h.next 4 0 xs.length/\h'=h.new h.next (.row xs.flatten)):=by
 refine zu zFZ ?_;simp only[f200,zA];simp only[go_sem,Nat.reduceEqDiff,↓reduceIte,tI b underlying53];rcases VC b with⟨h1,rfl,rfl⟩ | ⟨h1,tk,rfl⟩
 ·simp only[h1,go_sem,Nat.reduceEqDiff,↓reduceIte,zT,zV];exact .inl (.inl trivial)
 ·have f:xs.length*72<=lim:=by unfold lim;omega
  have a:xs.length<=lim:=by unfold lim;omega
  simp only[h1,go_sem,Nat.reduceEqDiff,↓reduceIte,u9,Nat.reduceBEq,wc bK Mv hP rfl rfl (by omega:0<4)];rw[oX bK zBA hP ow c (by rw[Ki];omega) a];by_cases h0:xs.length=0
  ·have:xs= []:=yM.1 h0;subst this;simp[onR]
  ·have:xs≠[]:=λe=>h0 (by rw[e];rfl);simp[h0,onR,this,pH underlying55]
theorem Kp{xs:List (List D)}{d:D}(c:yi 1 xs d)(e:∀x∈xs,wr x)(b:∀x∈xs,x.length=1)(i:xs.length<=1048576)(h:Heap):zE prog 133 [d] h λr h'=>h'=h/\r=qD d:=by
 refine xU kr λ_=>xS ?_;refine xO mix func133 zGM rfl rfl ?_;simp only[f133,zA];simp only[go_sem,Nat.reduceEqDiff,↓reduceIte,tI c underlying45];rcases VC c with⟨h1,rfl,rfl⟩ | ⟨h1,tk,rfl⟩
 ·simp only[h1,go_sem,Nat.reduceEqDiff,↓reduceIte,zT,zV];exact⟨Ext.refl h,trivial⟩
 ·have f:xs.length*16<=lim:=by unfold lim;omega
  have a:xs.length<=lim:=by unfold lim;omega
  simp only[h1,go_sem,Nat.reduceEqDiff,↓reduceIte,D5,u9,Nat.reduceBEq,wc uK fV pz rfl rfl (by omega:0<1)];rw[l8 uK aU pz ow b (by rw[oP];exact f) a];by_cases h0:xs.length=0
  ·have:xs= []:=yM.1 h0;subst this;simp only[yo,qS,dA];exact⟨Ext.refl h,by simp[qD,p5,below,oc],rfl⟩
  ·rw[iq h0];simp only[dA,(yj (sz:=1) e _).1];exact⟨(Ext.refl h).new (zD _) _,qF (yC _) _ (yj e .no).2,trivial⟩
theorem U5{k:Nat}{e:List D}(i:Shp prog k 55 e):∃ (j:Nat) (a:Int) (s t:List UInt8) (b:D) (xs:List (List D)),j<k/\e= [.int .i64 a,.str s,.str t,b]/\yi 4 xs b/\(b=.nilsl\/b=.sl 4 xs .no)/\xs.length<=1048576/\∀x∈xs,Shp prog j 55 x:=by
 obtain⟨j,r,hf⟩:=pI underlying55 i;obtain⟨n,r1,rfl,h1,hf⟩:=qA hf;obtain⟨o,r2,rfl,f,hf⟩:=qA hf;obtain⟨p,r3,rfl,h3,hf⟩:=qA hf;obtain⟨q,r4,rfl,c,hf⟩:=qA hf;obtain rfl:=mO hf;obtain⟨a,rfl,_⟩:=py underlying3 h1;obtain⟨s,rfl,_⟩:=rQ underlying9 f;obtain⟨t,rfl,_⟩:=rQ underlying9 h3;obtain⟨d,xs,m,rfl,l,c,h5,g,h⟩:=dc underlying53 hP c;exact⟨m,a,s,t,d,xs,by omega,rfl,c,h5,g,h⟩
theorem QI{k:Nat}{e:List D}(a:Shp prog k 55 e):e.length=4:=by
 obtain⟨_,_,_,_,_,_,_,rfl,_⟩:=U5 a;rfl
theorem zIn:∀(k:Nat)(e:List D),Shp prog k 55 e->∀h,zE prog 132 [.agg e] h λr h'=>h'=h/\r=.agg e:=by
 intro k
 induction k using Nat.strongRecOn with
 |_ k Q=>
 intro e J h;have u:=oL k 55 e J;obtain⟨j,a,s,t,z,xs,O,rfl,C,w,K,I⟩:=U5 J;have l:∀x∈xs,x.length=4:=λx h=>QI (I x h);refine xU kr λP=>xS ?_;by_cases h0:xs= []
 ·subst h0;refine zu zAF ?_;simp only[f132,zA];have e2:∀o,(h.new h.next o).next=h.next+1:=λo=>za h o;have b:∀o1 o2:Obj,((h.new h.next o1).new (h.next+1) o2).at' h.next=some o1:=λo1 o2=>by rw[zi ow,z8]
  simp only[go_sem,Nat.reduceEqDiff,↓reduceIte,u9,Nat.reduceBEq,wO,Nat.reduceAdd,yZ,e2,b];refine(NT C l K _).mono ?_;rintro r L (⟨_,rfl,hr⟩ | ⟨h1,_⟩)
  rotate_left
  ·exact absurd rfl h1
  have H:r.cells= [r]/\r.flat=true/\yi 4 [] r/\qD r=z/\below 0 r:=by
   rcases hr with⟨rfl,rfl⟩ | ⟨rfl,h1⟩
   ·exact⟨rfl,rfl,yi.nil,rfl,trivial⟩
   ·refine⟨rfl,rfl,yi.mk _,?_,by simp[below,oc]⟩;rcases w with rfl|rfl
    ·cases h1
    ·rfl
  obtain⟨r1,r2,r3,r4,r5⟩:=H;rw[yU (cs:=[.int .i64 a,.str s,.str t,z]) (b _ _) BD (by simp) r1 r2];simp only[go_sem,Nat.reduceEqDiff,↓reduceIte,lh,t9,wO,wa r3 underlying53,yo];refine qx (λi fr h'=>fr 1=.ptr h.next 0/\fr 2=.ptr (h.next+1) 0/\fr 10=.int .i64 0/\fr 11=.int .i64 (i:Int)/\h'.at' h.next=some (.row [.int .i64 a,.str s,.str t,r])/\h'.at' (h.next+1)=some (.row [.int .i64 0,.str [],.str [],.nilsl])/\Ext h h') 0 ?_ ?_
  ·simp only[go_sem,Nat.reduceEqDiff,↓reduceIte,zT];refine⟨rfl,rfl,?_,((((Ext.refl h).new (zD _) _).new ow _).set (zD _) _)⟩;simp[Heap.new,Heap.set]
  ·rintro i fr h' N ⟨m,n,c,d,v,A,g⟩;have p:i=0:=ow;subst p;have y:yW true 4 [.int .i64 a,.str s,.str t,r] 0=some (.agg [.int .i64 a,.str s,.str t,r]):=zJ rfl ow;simp only[go_sem,Nat.reduceEqDiff,↓reduceIte,m,n,c,d];rw[zP ow];simp only[go_sem,Nat.reduceEqDiff,↓reduceIte,m,n,c,d,v,y];rw[qp (cs':=[.int .i64 a,.str s,.str t,r]) A hP rfl (by simp) (by simp only[uv,List.all_nil,r2];rfl)];simp only[go_sem,y];have M:qY [.int .i64 a,.str s,.str t,r]= [.int .i64 a,.str s,.str t,z]:=by
    simp only[qY,r4];rfl
   rw[qD,M];exact⟨g.set ow _,tY (yC _) _ u.2.1,rfl⟩
 ·refine zE.freezeD ?_;refine zu zAF ?_;simp only[f132,zA];have e2:∀o,(h.new h.next o).next=h.next+1:=λo=>za h o;have e3:∀o1 o2:Obj,((h.new h.next o1).new (h.next+1) o2).next=h.next+2:=λo1 o2=>by rw[qL _ (by rw[e2];exact zD _)]
  have b:∀o1 o2:Obj,((h.new h.next o1).new (h.next+1) o2).at' h.next=some o1:=λo1 o2=>by rw[zi ow,z8]
  simp only[go_sem,Nat.reduceEqDiff,↓reduceIte,u9,Nat.reduceBEq,wO,Nat.reduceAdd,yZ,e2,b];refine(NT C l K _).mono ?_;rintro r L (⟨h1,_⟩ | ⟨_,rfl,rfl⟩)
  ·exact absurd h1 h0
  simp only[e3];rw[yU (cs:=[.int .i64 a,.str s,.str t,z]) (by rw[zi ow,b]) BD (by simp) rfl rfl];simp only[go_sem,Nat.reduceEqDiff,↓reduceIte,lh,t9,wO,nM underlying53];refine qx (λi fr h'=>fr 1=.ptr h.next 0/\fr 2=.ptr (h.next+1) 0/\fr 10=.int .i64 xs.length/\fr 11=.int .i64 (i:Int)/\h'.at' h.next=some (.row [.int .i64 a,.str s,.str t,.rs (h.next+2) 4 0 xs.length])/\h'.at' (h.next+1)=some (.row [.int .i64 0,.str [],.str [],.nilsl])/\h'.at' (h.next+2)=some (.row xs.flatten)/\Ext h h') xs.length ?_ ?_
  ·simp only[go_sem,Nat.reduceEqDiff,↓reduceIte,zT];refine⟨rfl,?_,?_,(((((Ext.refl h).new (zD _) _).new ow _).new ow _).set (zD _) _)⟩
   ·simp[Heap.new,Heap.set]
   ·simp[Heap.new,Heap.set]
  ·rintro i fr h' N ⟨m,n,c,d,v,A,B,g⟩;simp only[go_sem,Nat.reduceEqDiff,↓reduceIte,m,n,c,d];by_cases f:i<xs.length
   ·rw[zS (by exact_mod_cast f)];simp only[go_sem,Nat.reduceEqDiff,↓reduceIte,m,n,c,d];refine qH h' [(0,.no,true),(1,.st,true),(2,.no,true),(3,.no,true),(4,.no,true),(5,.no,true),(6,.no,true),(7,.no,true),(8,.no,true),(9,.no,true),(10,.no,false)] kr kr (λ_ _ e=>e) ?_;have G:xs[i]∈xs:=zH f;have q:=nN l ow (zB f);simp only[go_sem,Nat.reduceEqDiff,↓reduceIte,m,n,c,d,v,B,yZ,wO,qj bK hP f,q];refine(Q j O _ (I _ G) h').mono ?_;rintro r h3 ⟨rfl,rfl⟩;simp only[go_sem,qj bK hP f];rw[cZ B l ow hP f (l _ G) (oL _ _ _ (I _ G)).1,gO];simp only[go_sem]
    refine⟨f,by rw[qR (by unfold lim;omega)],?_,?_,g.set ow _⟩
    ·simp[Heap.set,v]
    ·simp[Heap.set,A]
   ·have p:i=xs.length:=ow;subst p;rw[zP ow];have y:yW true 4 [.int .i64 a,.str s,.str t,.rs (h.next+2) 4 0 xs.length] 0=some (.agg [.int .i64 a,.str s,.str t,.rs (h.next+2) 4 0 xs.length]):=zJ rfl ow;simp only[go_sem,Nat.reduceEqDiff,↓reduceIte,m,n,c,d,v,y];rw[qp (cs':=[.int .i64 a,.str s,.str t,.rs (h.next+2) 4 0 xs.length]) A hP rfl (by simp) rfl];simp only[go_sem,y];refine⟨h.next+2,xs.flatten,by simp[Heap.set,B],(g.set ow _).del ow,?_⟩;have E:af (h.next+2) xs.flatten [.int .i64 a,.str s,.str t,.rs (h.next+2) 4 0 xs.length]= [.int .i64 a,.str s,.str t,.sl 4 xs .no]:=by
     simp only[af,XM l rfl rfl];rfl
    have F:z=.sl 4 xs .no:=by
     rcases w with rfl|rfl
     ·rcases C with⟨_,h1⟩ | ⟨tk,h1⟩
      ·exact absurd h1 h0
      ·cases h1
     ·rfl
    subst F;rw[frz,E,qD,u.2.2];exact⟨tY (yC _) _ u.2.1,rfl⟩
theorem MY{k:Nat}{c:List D}(A:Shp prog k 57 c):∃ (j:Nat) (h i m n d:Int) (s1 s2 f g:List UInt8) (b:Bool) (e l:D) (a:List (List D)),j<k/\c= [.int .i64 h,.str s1,.str s2,.int .i64 i,.int .i64 m,.int .i64 n,.bool b,.int .i64 d,.str f,.str g,e,l]/\
  Shp prog j 55 [.int .i64 d,.str f,.str g,e]/\yi 1 a l/\(l=.nilsl\/l=.sl 1 a .no)/\a.length<=1048576/\(∀x∈a,wr x)/\∀x∈a,x.length=1:=by
 obtain⟨j,B,hf⟩:=pI underlying57 A;obtain⟨C,r1,rfl,h1,hf⟩:=qA hf;obtain⟨E,r2,rfl,u,hf⟩:=qA hf;obtain⟨F,r3,rfl,h3,hf⟩:=qA hf;obtain⟨G,r4,rfl,v,hf⟩:=qA hf;obtain⟨H,r5,rfl,h5,hf⟩:=qA hf;obtain⟨I,r6,rfl,w,hf⟩:=qA hf;obtain⟨J,r7,rfl,y,hf⟩:=qA hf;obtain⟨K,r8,rfl,q,hf⟩:=qA hf;obtain⟨L,r9,rfl,z,hf⟩:=qA hf;obtain rfl:=mO hf;obtain⟨h,rfl,_⟩:=py underlying3 h1;obtain⟨s1,rfl,_⟩:=rQ underlying9 u;obtain⟨s2,rfl,_⟩:=rQ underlying9 h3;obtain⟨i,rfl,_⟩:=py underlying3 v;obtain⟨m,rfl,_⟩:=py underlying3 h5;obtain⟨n,rfl,_⟩:=py underlying3 w;obtain⟨b,rfl⟩:=MX underlying4 y;obtain⟨_,d,f,g,e,_,_,rfl,_⟩:=U5 q
 obtain⟨l,a,M,rfl,_,r,s,t,p⟩:=dc underlying45 pz z;exact⟨j,h,i,m,n,d,s1,s2,f,g,b,e,l,a,B,rfl,q,r,s,t,λx o=>oL _ _ _ (p x o),λx o=>by obtain⟨_,rfl,_⟩:=rQ underlying9 (p x o);rfl⟩
theorem Zt{k:Nat}{c:List D}(a:Shp prog k 57 c):c.length=12:=by
 obtain⟨_,_,_,_,_,_,_,_,_,_,_,_,_,_,_,rfl,_⟩:=MY a;rfl
theorem NS(x f:D)(h:Heap)(b:x.notTuple=true)(hf:f.notTuple=true)(a:x.cells= [x])(cf:f.cells= [f]):zE prog 77 [x,f] h λr h'=>h'=h/\r=.fn (.func 131) [] [.iptr [f] 0,.iptr [x] 0]:=by
 refine zu zM6 ?_;simp only[f77,zA];simp only[go_sem,Nat.reduceEqDiff,↓reduceIte,b,hf,a,cf]
def lU(xs:List (List D))(ks:List Int):List (List D):=ks.map λk=>xs.getD k.toNat []
theorem Tu{x f:D}{xs:List (List D)}{ks:List Int}(hx:yi 12 xs x)(ai:∀c∈xs,∃k,Shp prog k 57 c)(hf:yi 1 (wY ks) f)(ak:ks.length<=1048576)(U:∀n∈ks,0<=n/\n.toNat<xs.length)
  {id:Nat} {Y:Nat->(Nat->Prop)->Heap->Prop} {Z:(Nat->Prop)->Heap->Prop} (y:Yld prog id ks.length (λi=>[.agg ((lU xs ks).getD i [])]) Y Z) {S:Nat->Prop} {h:Heap} (hY:Y 0 S h):
  zE prog 131 [.yld id,.iptr [f] 0,.iptr [x] 0] h λ_ h'=>∃S',But S h h'/\(Y ks.length S' h'\/Z S' h'):=by
 refine zu zFC ?_;simp only[f131,zA];have P:((wY ks).length:Int)=ks.length:=by rw[wI]
 simp only[go_sem,Nat.reduceEqDiff,↓reduceIte,wa hf underlying30,P];refine qx (λi fr h'=>fr 0=.yld id/\fr 2=.iptr [x] 0/\fr 7=f/\fr 8=.int .i64 ks.length/\fr 9=.int .i64 (i:Int)/\∃S',(∀j,S' j->S j\/h.next<=j)/\But S h h'/\Y i S' h') ks.length ?_ ?_
 ·simp only[go_sem,Nat.reduceEqDiff,↓reduceIte,zT];exact⟨rfl,S,λj s=>.inl s,But.refl S h,hY⟩
 rintro i fr h' hi ⟨E,F,G,H,I,S',hS,g,u⟩;simp only[go_sem,Nat.reduceEqDiff,↓reduceIte,E,F,G,H,I];by_cases d:i<ks.length
 ·rw[zS (by exact_mod_cast d)];obtain⟨R,T⟩:=U _ (zH d);obtain⟨c,N⟩:∃c,xs[ks[i].toNat]? =some c:=⟨_,zB T⟩;have hm:c∈xs:=zg N;have O:(lU xs ks).getD i []=c:=by simp[lU,d,N]
  have z:=Wi hx YJ Zv (k:=.i64) R N;obtain⟨k,q⟩:=ai c hm;have t:=oL _ _ _ q;have v:=Zt q;obtain⟨j,a1,a2,a3,a4,a5,s1,s2,s3,s4,b,kd,l,ls,s,o,he,V,W,X,A,ad⟩:=MY q;have hw:yW true 12 c 0=some (.agg c):=zJ v ow;have B:yW true 4 c 7=some (.agg [.int .i64 a5,.str s3,.str s4,kd]):=by rw[o];rfl
  have C:c[11]? =some l:=by rw[o];rfl
  have ag:∀(h:Heap)(id:Nat),yX prog 57 (.ptr id 0) (.agg c) (h.new id (.row [.int .i64 0,.str [],.str [],.int .i64 0,.int .i64 0,.int .i64 0,.bool false,.int .i64 0,.str [],.str [],.nilsl,.nilsl]))=some (h.new id (.row c)):=λh id=>qK Zv ow rfl v t.1;simp only[go_sem,Nat.reduceEqDiff,↓reduceIte,E,F,G,H,I,yn hf qv sI (fp d),wO,z,hw,ag];refine qH _ [(0,.no,true),(1,.no,true),(3,.no,true),(4,.st,true),(2,.no,true),(6,.no,true),(5,.no,true),(7,.no,false),(8,.no,false),(9,.no,false)] kr kr (λ_ _ e=>e) ?_
  simp only[go_sem,Nat.reduceEqDiff,↓reduceIte,E,F,G,H,I,yZ,Nat.reduceAdd,wO,B,C];have a:qD l=l/\l.cells= [l]:=by
   rcases W with rfl|rfl
   ·exact⟨rfl,rfl⟩
   ·exact⟨(yj A _).1,rfl⟩
  refine(zIn j _ he _).mono ?_;rintro r h2 ⟨rfl,rfl⟩;simp only[go_sem];refine(Kp V A ad X _).mono ?_;rintro r h2 ⟨rfl,rfl⟩;rw[a.1,NF (z8 _ _ _) hP B t.1];simp only[go_sem];rw[QZ (z8 _ _ _) Mf C a.2 t.1];simp only[go_sem,hw];have p:Ext h' (h'.new h'.next (.row c)):=(Ext.refl h').new (zD _) _;have w:=y.go i S' _ d (y.ext u p);simp only[O]at w;refine w.mono ?_;rintro r h3 ⟨S2,J,M,hr⟩;have m:But S h h3:=by
   exact(g.trans (p.but S) λi hi=>.inl hi).trans M hS
  rcases hr with⟨rfl,K⟩ | ⟨rfl,L⟩
  ·simp only[vun,go_sem];refine⟨d,by rw[qR (by unfold lim;omega)],S2,λj s=> ?_,m,K⟩;rcases J j s with s|s
   ·exact hS j s
   ·have h1:=g.1;have h2:=p.1;exact .inr ow
  ·simp only[vun,go_sem];exact⟨S2,m,.inr L⟩
 ·have Q:i=ks.length:=ow;subst Q;rw[zP ow];simp only[go_sem,Nat.reduceEqDiff,↓reduceIte];exact⟨S',g,.inl u⟩
theorem Fv{x f:D}{xs:List (List D)}{ks:List Int}(hx:yi 12 xs x)(I:∀c∈xs,∃k,Shp prog k 57 c)(hf:yi 1 (wY ks) f)(C:ks.length<=1048576)(A:∀n∈ks,0<=n/\n.toNat<xs.length)(h:Heap):
  zE prog 34 [x,f] h λr h'=>h'=h/\Fin 12 (lU xs ks) r:=by
 have Z:x.cells= [x]/\x.notTuple=true:=by rcases hx with⟨rfl,_⟩ | ⟨tk,rfl⟩ <;>exact⟨rfl,rfl⟩
 have cf:f.cells= [f]/\f.notTuple=true:=by rcases hf with⟨rfl,_⟩ | ⟨tk,rfl⟩ <;>exact⟨rfl,rfl⟩
 refine xU kr λad=>xS ?_;refine zu zLP ?_;simp only[f34,zA];simp only[go_sem,Nat.reduceEqDiff,↓reduceIte];refine(NS x f _ Z.2 cf.2 Z.1 cf.1).mono ?_;rintro r w ⟨rfl,rfl⟩;simp only[go_sem,Nat.reduceEqDiff,↓reduceIte];simp only[za];generalize P:LRec.mk _ _ _ _ _ _ _=L;have W:∀c∈lU xs ks,∃c',c'∈xs/\c=c':=λc l=>by
  obtain⟨n,U,rfl⟩:=zM.1 l;obtain⟨h1,w⟩:=A n U;exact⟨xs[n.toNat],zH w,by simp[w]⟩
 have V:(lU xs ks).length=ks.length:=zG ..;have F:∀c∈lU xs ks,∃k,Shp prog k 57 c:=λc l=>by obtain⟨c',h1,rfl⟩:=W c l;exact I _ h1
 have y:Yld prog (h.next+1) ks.length (λi=>[.agg ((lU xs ks).getD i [])]) (BO h.next 12 L (lU xs ks)) (λ_ _=>False):=by
  refine⟨λk S h y=>y.here,λk S h h' y U hk=>y.loc U hk,λS h J=>J.elim,λS h h' J=>J.elim,λi S h3 hi hy=> ?_⟩;obtain⟨c,l⟩:∃c,(lU xs ks)[i]? =some c:=⟨_,zB ow⟩;have T:=zg l;obtain⟨_,E⟩:=F c T;have m:=Zt E;have R:=(oL _ _ _ E).1;have z:(lU xs ks).getD i []=c:=by rw[zC,l];rfl
  simp only[z];obtain⟨g1,u,d,O,v,s⟩:=hy;subst P;refine uS.round (g:=AD) mix u rfl kr kr kr ?_;simp only[go_sem,Nat.reduceEqDiff,↓reduceIte];rw[qK Zv ow rfl m R];simp only[go_sem];refine⟨by rw[zi ow];exact u,?_⟩;generalize hB:LRec.mk .busy _ _ _ _ _ _=B;generalize a:Heap.set (h3.new h3.next (.row c)) (h.next+1) (.loop B)=h5;have t:h5.at' h.next=some (.row [d]):=by rw[<-a,zY ow,zi ow];exact O
  have a2:h5.at' h3.next=some (.row c):=by rw[<-a,zY ow,z8]
  have X:h5.at' (h.next+1)=some (.loop B):=by rw[<-a];simp[Heap.set]
  have a4:h5.next=h3.next+1:=by rw[<-a,ym,za]
  have K:rY h5 12 ((lU xs ks).take i) d:=v.loc ow λj b=>by
   have:=v.tok b;rw[<-a,zY (λe=>by subst e;rw[u]at this;cases this.2),zi ow]
  have hw:yW true 12 c 0=some (.agg c):=zJ m ow;simp only[t,a2,go_sem,Nat.reduceEqDiff,↓reduceIte,wO,hw];rw[qW (x:=.agg c) YJ Ff Zv rfl rfl ow ow rfl m];simp only[go_sem,↓reduceIte,Nat.reduceEqDiff];have H:((lU xs ks).take i).length=i:=by rw[yR];omega
  refine K.app2 YJ zBB Zv ow (by simpa using m) (by simp) (by rw[H,Kj];unfold lim;simp;omega) (by rw[H];unfold lim;simp;omega) ?_;intro N h6 b1 b2 M Y b5 b6;have c1:h6.at' h.next=some (.row [d]):=by
   rw[M _ ow λG=> ?_]
   ·exact t
   ·have:=(K.tok G).2;rw[t]at this;cases this
  rw[yU c1 BB (by simp) b5 b6];simp only[go_sem,t9];have c2:(h6.set h.next (.row [N])).at' (h.next+1)=some (.loop B):=by
   rw[zY ow,M _ ow λG=> ?_]
   ·exact X
   ·have:=(K.tok G).2;rw[X]at this;cases this
  refine sG c2 ⟨λj=>j=h.next\/j=h.next+1\/sr N j,λj b=> ?_,⟨by simp only[go_sem];omega,λj b Q=> ?_⟩,.inl ⟨rfl,by simp only[go_sem];omega,?_,N,?_,?_,λj=>Iff.rfl⟩⟩
  ·rcases b with rfl|rfl|b
   ·exact .inl ((s _).2 (.inl rfl))
   ·exact .inl ((s _).2 (.inr (.inl rfl)))
   ·exact .inr (by have:=Y j b;omega)
  ·have n1:j≠h.next:=λe=>Q ((s j).2 (.inl e));have n2:j≠h.next+1:=λe=>Q ((s j).2 (.inr (.inl e)));rw[zY n2,zY n1,M j ow (λG=>Q ((s j).2 (.inr (.inr G)))),<-a,zY n2,zi ow]
  ·rw[zW,<-hB]
  ·rw[zY ow,zW]
  ·have:(lU xs ks).take (i+1)=(lU xs ks).take i++ [c]:=by rw[List.take_add_one,l];rfl
   rw[this];refine b1.loc (zD _) λj b=> ?_;have:=Y j b;rw[zY ow,zY ow]
 refine(Tu hx I hf C A y (S:=λi=>i=h.next\/i=h.next+1) (h:=(h.new h.next (.row [.nilsl])).new (h.next+1) (.loop L)) ?_).mono ?_
 ·refine⟨?_,z8 _ _ _,.nilsl,by rw[zi ow,z8],.inl ⟨rfl,rfl⟩,λj=>by simp[sr]⟩;rw[qL _ (by rw[za];exact zD _)];omega
 rintro r w ⟨S',hb,hY|J⟩
 ·obtain⟨g1,u,d,O,v,s⟩:=hY;have p:(lU xs ks).take ks.length=lU xs ks:=by rw[<-V,z6]
  rw[p]at v;refine⟨L,u,?_,?_⟩
  ·rw[<-P];intro e;cases e
  have hp:L.pending=none:=by rw[<-P]
  rw[hp,pG];have t:(w.del (h.next+1)).at' h.next=some (.row [d]):=by rw[wT ow];exact O
  simp only[go_sem,Nat.reduceEqDiff,↓reduceIte,t,wO];have o:=v.fin λc l=>by
   obtain⟨_,q⟩:=F c l;exact oL _ _ _ q
  refine⟨Ext.del (Ext.of_but (((Ext.refl h).new (zD _) _).new ow _) hb λj b=> ?_) ow,qF (yC _) _ o.1,o.2⟩;rcases b with rfl|rfl<;>omega
 ·exact J.elim
theorem K0{x f:D}{xs:List (List D)}(t:yi 12 xs x)(l:∀c∈xs,∃k,Shp prog k 57 c)(hf:yi 1 (wY []) f)(h:Heap):
  zE prog 34 [x,f] h λr h'=>h'=h/\r=.nilsl:=by
 have o:x.cells= [x]/\x.notTuple=true:=by rcases t with⟨rfl,_⟩ | ⟨tk,rfl⟩ <;>exact⟨rfl,rfl⟩
 have cf:f.cells= [f]/\f.notTuple=true:=by rcases hf with⟨rfl,_⟩ | ⟨tk,rfl⟩ <;>exact⟨rfl,rfl⟩
 refine xU kr λB=>xS ?_;refine zu zLP ?_;simp only[f34,zA];simp only[go_sem,Nat.reduceEqDiff,↓reduceIte];refine(NS x f _ o.2 cf.2 o.1 cf.1).mono ?_;rintro r p ⟨rfl,rfl⟩;simp only[go_sem,Nat.reduceEqDiff,↓reduceIte];simp only[za];generalize q:LRec.mk _ _ _ _ _ _ _=L;have y:Yld prog (h.next+1) ([]:List Int).length (λi=>[.agg ((lU xs []).getD i [])]) (λ_ S h'=>h.next+1<h'.next/\h'.at' h.next=some (.row [.nilsl])/\h'.at' (h.next+1)=some (.loop L)/\∀j,S j↔(j=h.next\/j=h.next+1)) (λ_ _=>False):=by
  refine⟨λk S h' y i g=> ?_,λk S h1 h' y G s=> ?_,λS h' b=>b.elim,λS h1 h' b=>b.elim,λi S h3 g H=>absurd g (yq _)⟩
  ·obtain⟨d,m,n,a⟩:=y;rcases(a i).1 g with rfl|rfl<;>omega
  ·obtain⟨d,m,n,a⟩:=y;exact⟨by omega,by rw[s _ ((a _).2 (.inl rfl))];exact m,by rw[s _ ((a _).2 (.inr rfl))];exact n,a⟩
 refine(Tu t l hf (by simp) (by simp) y (S:=λi=>i=h.next\/i=h.next+1) (h:=(h.new h.next (.row [.nilsl])).new (h.next+1) (.loop L)) ?_).mono ?_
 ·refine⟨?_,by rw[zi ow,z8],z8 _ _ _,λj=>Iff.rfl⟩;rw[qL _ (by rw[za];exact zD _)];omega
 rintro r p ⟨S',z,w|b⟩
 ·obtain⟨E,v,u,F⟩:=w;refine⟨L,u,?_,?_⟩
  ·rw[<-q];intro e;cases e
  have C:L.pending=none:=by rw[<-q]
  rw[C,pG];have d:(p.del (h.next+1)).at' h.next=some (.row [.nilsl]):=by rw[wT ow];exact v
  simp only[go_sem,Nat.reduceEqDiff,↓reduceIte,d,wO];refine⟨Ext.del (Ext.of_but (((Ext.refl h).new (zD _) _).new ow _) z λj A=> ?_) ow,trivial,rfl⟩;rcases A with rfl|rfl<;>omega
 ·exact b.elim
theorem Bq{x:D}{xs:List (List D)}(b:yi 12 xs x)(n:Int)(h:Heap):zE prog 41 [.int .i64 n,.iptr [x] 0] h λr h'=>h'=h/\r=.bool (decide (n<0)||decide (n>=(xs.length:Int))):=by
 refine zu zMu ?_;simp only[f41,zA];cases a:decide (n<0)with
 |true=>simp only[go_sem,Nat.reduceEqDiff,↓reduceIte,a]
 |false=>simp only[go_sem,Nat.reduceEqDiff,↓reduceIte,a,wO,wa b underlying29]
theorem T6{ks:List Int}{f:D}(hf:yi 1 (wY ks) f)(t:ks.length<=1048576){g:FuncId}{cap:List D}{p:Int->Bool}(v:∀n∈ks,∀h,zE prog g ([.int .i64 n]++cap) h λr h'=>h'=h/\r=.bool (p n))(h:Heap):
  zE prog 86 [f,.fn (.func g) [] cap] h λr h'=>h'=h/\r=.int .i64 (match ks.findIdx? p with|some i=>(i:Int)|none=> -1):=by
 refine zu zLm ?_;simp only[f86,zA];have e:((wY ks).length:Int)=ks.length:=by rw[wI]
 simp only[go_sem,Nat.reduceEqDiff,↓reduceIte,wa hf underlying30,e];refine qx (λi fr h'=>fr 0=f/\fr 1=.fn (.func g) [] cap/\fr 7=.int .i64 ks.length/\fr 8=.int .i64 (i:Int)/\h'=h/\∀j (d:j<ks.length),j<i->p ks[j]=false) ks.length (by simp[go_sem]) ?_;rintro i fr h' x ⟨l,m,o,q,rfl,d⟩;simp only[go_sem,Nat.reduceEqDiff,↓reduceIte,l,m,o,q];by_cases b:i<ks.length
 ·rw[zS (by exact_mod_cast b)];simp only[go_sem,Nat.reduceEqDiff,↓reduceIte,l,m,o,q,yn hf qv sI (fp b),wO];refine(v _ (zH b) _).mono ?_;rintro r w ⟨rfl,rfl⟩;cases s:p ks[i]with
  |true=>
   simp only[go_sem,Nat.reduceEqDiff,↓reduceIte]
   have:ks.findIdx? p=some i:=by
    rw[qi];exact⟨b,s,λj a=>by rw[d j ow a];exact zZ⟩
   rw[this]
  |false=>
   simp only[go_sem,Nat.reduceEqDiff,↓reduceIte];refine⟨b,by rw[qR (by unfold lim;omega)],λj c a=> ?_⟩;rcases z7.1 a with a|rfl
   ·exact d j c a
   ·exact s
 ·have k:i=ks.length:=ow;subst k;rw[zP ow];simp only[go_sem,Nat.reduceEqDiff,↓reduceIte]
  have:ks.findIdx? p=none:=by
   rw[wq];intro n u;obtain⟨j,c,rfl⟩:=yD.1 u;exact d j c c
  rw[this]
theorem Yv{ks:List Int}{f:D}(hf:yi 1 (wY ks) f)(a:ks.length<=1048576){g:FuncId}{cap:List D}{p:Int->Bool}(c:∀n∈ks,∀h,zE prog g ([.int .i64 n]++cap) h λr h'=>h'=h/\r=.bool (p n))(h:Heap):
  zE prog 40 [f,.fn (.func g) [] cap] h λr h'=>h'=h/\r=.bool (ks.any p):=by
 refine zu zLh ?_;simp only[f40,zA];simp only[go_sem,Nat.reduceEqDiff,↓reduceIte];refine(T6 hf a c _).mono ?_;rintro r j ⟨rfl,rfl⟩;simp only[go_sem,Nat.reduceEqDiff,↓reduceIte];cases b:ks.findIdx? p with
 |none=>
  have:ks.any p=false:=by
   rw[wq]at b;rw[pC];intro n e;rw[b n e];exact zZ
  rw[this];rfl
 |some i=>
  have:ks.any p=true:=by
   rw[qi]at b;obtain⟨d,c,_⟩:=b;exact yu.2 ⟨_,zH d,c⟩
  rw[this];simp
def V9(n:Nat)(k:Int):Bool:=decide (k<0)||decide (k>=(n:Int))
def zIM(ks:List Int):Prop:=∀i (h:i+1<ks.length),ks[i]<ks[i+1]
def zIO(xs:List (List D))(ks:List Int)(r:D):Prop:=
 (ks.any (V9 xs.length)=true/\r=.tuple [.nilsl,.int .i64 3])\/
 (ks.any (V9 xs.length)=false/\¬zIM ks/\r=.tuple [.nilsl,.int .i64 5])\/
 (ks.any (V9 xs.length)=false/\zIM ks/\∃p,Fin 12 (lU xs ks) p/\r=.tuple [p,.int .i64 0])
theorem Av{n:Nat}{ks:List Int}(h:ks.any (V9 n)=false):∀k∈ks,0<=k/\k.toNat<n:=λk a=>by
 have:=pC.1 h k a;simp only[V9,qB,zO,Xk]at this;omega
theorem zCH{x f:D}{xs:List (List D)}{ks:List Int}(v:yi 12 xs x)(w:∀c∈xs,∃k,Shp prog k 57 c)(hf:yi 1 (wY ks) f)(b:ks.length<=1048576)(y:∀n∈ks,fits .i64 n)(h:Heap):
  zE prog 13 [x,f] h λr h'=>h'=h/\zIO xs ks r:=by
 have z:x.cells= [x]/\x.notTuple=true:=by rcases v with⟨rfl,_⟩ | ⟨tk,rfl⟩ <;>exact⟨rfl,rfl⟩
 refine zu zMs ?_;simp only[f13,zA];simp only[go_sem,Nat.reduceEqDiff,↓reduceIte,z];refine(Yv hf b (p:=V9 xs.length) (λn _ h=>Bq v n h) _).mono ?_;rintro r A ⟨rfl,rfl⟩;cases t:ks.any (V9 xs.length)with
 |true=>
  simp only[go_sem,Nat.reduceEqDiff,↓reduceIte];exact .inl ⟨t,rfl⟩
 |false=>
  have d:=Av t;simp only[go_sem,Nat.reduceEqDiff,↓reduceIte];refine qx (λi fr h'=>fr 1=f/\fr 2=.iptr [x] 0/\fr 6=.int .i64 ((i+1:Nat):Int)/\h'=A/\∀j (l:j+1<ks.length),j<i->ks[j]<ks[j+1]) ks.length ?_ ?_
  ·simp only[go_sem,Nat.reduceEqDiff,↓reduceIte];exact⟨rfl,λj _ l=>absurd l (yq _)⟩
  rintro i fr h' E ⟨m,o,q,rfl,a⟩;have u:((wY ks).length:Int)=ks.length:=by rw[wI]
  simp only[go_sem,Nat.reduceEqDiff,↓reduceIte,m,o,q,wa hf underlying30,u];by_cases g:i+1<ks.length
  ·rw[zS (by exact_mod_cast g)];have C:IntKind.i64.wrap (((i+1:Nat):Int)-1)=((i:Nat):Int):=by rw[qU ow ow];omega
   simp only[go_sem,Nat.reduceEqDiff,↓reduceIte,m,o,q];refine yI kr ?_;simp only[go_sem,Nat.reduceEqDiff,↓reduceIte,m,o,q,yn hf qv sI (fp g),C,yn hf qv sI (fp (show i<ks.length by omega)),wO];cases s:decide (ks[i+1]<=ks[i])with
   |true=>
    simp only[go_sem,Nat.reduceEqDiff,↓reduceIte];refine .inr (.inl ⟨t,λB=> ?_,rfl⟩);have:=B i g;have:=yK s;omega
   |false=>
    simp only[go_sem,Nat.reduceEqDiff,↓reduceIte,m,o,q];refine⟨by omega,by rw[qR (by unfold lim;omega)],λj l e=> ?_⟩;rcases z7.1 e with e|rfl
    ·exact a j l e
    ·have:=yO s;omega
  ·rw[zP ow];simp only[go_sem,Nat.reduceEqDiff,↓reduceIte,m,o,q,wO];refine(Fv v w hf b d _).mono ?_;rintro r h3 ⟨rfl,hr⟩;simp only[go_sem,Nat.reduceEqDiff,↓reduceIte];exact .inr (.inr ⟨t,λj l=>a j l ow,r,hr,rfl⟩)
end Go.V
