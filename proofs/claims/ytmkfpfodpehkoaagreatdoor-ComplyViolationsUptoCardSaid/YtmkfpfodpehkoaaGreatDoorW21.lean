/- Rules of the machine of abstract values, part 4. No condition. -/
import Derived.Test.YtmkfpfodpehkoaaGreatDoorW20
import Derived.Lib.SlicesCompact
import Derived.Lib.RowBridge
import Derived.Sort.Walk0
import Derived.Shelf.SlSortCmp.WholeK
import Derived.Ground.SlsfProg
import Derived.Shelf.SlSortCmp.Whole1
set_option linter.all false
set_option maxHeartbeats 8000000
namespace Go.V
def uq(l:List Int):List (List D):=l.map λn=>[.int .i64 n]
def sA(l:List Int):(uq l).length=l.length:=zI ..
variable{i nid sz:Nat}{H h h0:Heap}{P:Program}{t:TypeId}{z x y d:D}{fr:Frm}{args:List D}{s:List UInt8}{α:Type}
def NK{l:List Int}(h:i<l.length):(uq l)[i]? =some [.int .i64 l[i]]:=by simp[uq,h]
def Cs(o o2:Obj):((H.new H.next o).new (H.new H.next o).next o2).at' H.next=some o:=by
 rw[zz (by rw[yA];omega),yQ]
variable{P:Program}{h:Heap}
def Pa{c x:D}{o2:Obj}(d:szT P t=1)(b:x.cells= [x])(hf:x.flat=true):
  qP P t (.ptr H.next 0) x ((H.new H.next (.row [c])).new (H.new H.next (.row [c])).next o2)=some ((H.new H.next (.row [x])).new (H.new H.next (.row [x])).next o2):=by
 rw[qO (Cs _ _) d (by simp) b hf];congr 1;simp only[Heap.set,Heap.new,Heap.mk.injEq,zQ]
 funext j
 by_cases a:j=H.next
 ·subst a;simp
 ·simp[a]
def RI{a b c b':List D}(d:b'.length=b.length):uG (a++b++c) b' a.length=a++b'++c:=by
 simp[uG,d]
def Xn{t e:TypeId}(q:tQ P t=some e)(s:sD P e=some z)(r:szT P e=sz)(n:z.notTuple=true)(d:z.cells.length=sz)(h0:0<sz)(o:sz<=1048576)
  (l:x.notTuple=true) (f:x.cells.length=sz) (m:y.notTuple=true) (i:y.cells.length=sz):yB P false nid t 2 [(0,x),(1,y)] h=some (.sl sz [x.cells,y.cells] .full,h):=by
 simp only[yB,q,s,r];have g:nz 2 z.cells=z.cells++z.cells:=by simp[nz]
 have j:uG (z.cells++z.cells) x.cells (0*sz)=x.cells++z.cells:=by
  have:=RI (a:=[]) (b:=z.cells) (c:=z.cells) (b':=x.cells) (by rw[f,d]);simpa using this
 have k:uG (x.cells++z.cells) y.cells (1*sz)=x.cells++y.cells:=by
  have:=RI (a:=x.cells) (b:=z.cells) (c:=[]) (b':=y.cells) (by rw[i,d]);rw[dX,<-f];simpa using this
 rw[ip (by simp[n,d,h0];omega)];simp only[tp,g];rw[ip (by simp[l,f,d])];simp only[tp,j];rw[ip (by simp[m,i,f,d])];simp only[tp,k];have p:wY sz 2 (x.cells++y.cells)= [x.cells,y.cells]:=by
  simp only[wY];rw[uy ow,yj ow,nD ow,wp ow,yT,yj ow]
 simp[p]
open Go.RowKit (Below)
open Go.Shelf Go.Proofs
open Go.Proofs
section
variable{P:Program}{m:Bool}{nid:Nat}{h:Heap}{fr:Frm}{k:D->Heap->Prop}
def zEz(P:Program)(t:TypeId)(d:D):Option D:=
 match d with
 |.nilsl=>match P.underlying t with
  |some (.slice _)=>some (.int .i64 0)
  |_=>none
 |_=>none
@[go_sem ↓] theorem zKz(t:TypeId)(x:Operand):sZ P m nid (.call ⟨.builtin .cap,#[x],#[t]⟩) (qt fr) h k=onS (zEz P t (qt fr x)) (k · h):=by
 refine nV rfl ?_;simp only[vop,nq,zEz,qL,rL];cases qt fr x<;>try rfl
 simp only[];cases P.underlying t with
 |none=>rfl
 |some y=>cases y<;>rfl
@[go_sem ↓] theorem zIH(t:TypeId)(x:Operand):sZ P m nid (.call ⟨.builtin .clear,#[x],#[t]⟩) (qt fr) h k=onH (dQ P t (qt fr x) h) (k sn ·):=ID rfl rfl
def HM{t e:TypeId}(a:P.underlying t=some (.slice e)):zEz P t .nilsl=some (.int .i64 0):=by simp[zEz,a]
end
abbrev KV:=List (List UInt8×List UInt8)
def kvD(m:KV):List (D×D):=m.map λp=>(.str p.1,.str p.2)
def o5(k:List UInt8):KV->Option (List UInt8)
 | []=>none
 |(k',v)::m=>if k==k' then some v else o5 k m
def dp(k v:List UInt8):KV->KV
 | []=>[(k,v)]
 |(k',v')::m=>if k==k' then(k,v)::m else(k',v')::dp k v m
def Zs(p:List UInt8×List UInt8)(m:KV):kvD (p::m)=(.str p.1,.str p.2)::kvD m:=rfl
def gH(k k':List UInt8):eqK [.s] (D.str k).cells (D.str k').cells=some (k==k'):=by
 show(eqK [] [] []).map (k==k'&& ·)=_;simp[eqK]
theorem UA(k:List UInt8):∀m:KV,lh [.s] (.str k) (kvD m)=some ((o5 k m).map .str)
 | []=>rfl
 |(k',v)::m=>by
  have a:=UA k m;rw[Zs,lh,gH];cases h:(k==k')with
  |true=>simp[o5,h]
  |false=>simp only[o5,h,a];rfl
theorem K9(k v:List UInt8):∀m:KV,NY [.s] (.str k) (.str v) (kvD m)=some (kvD (dp k v m))
 | []=>rfl
 |(k',b)::m=>by
  have a:=K9 k v m;rw[Zs,NY,gH];cases h:(k==k')with
  |true=>simp[dp,h,Zs]
  |false=>simp[dp,h,Zs,a]
def Ts(m:KV):(kvD m).all (λx=>yi false x.1)=true:=by
 rw[ze];intro x a;obtain⟨p,_,rfl⟩:=zT.1 a;rfl
theorem Tt(k k' v:List UInt8):∀m:KV,o5 k (dp k' v m)=if k==k' then some v else o5 k m
 | []=>by simp[dp,o5]
 |(k2,c)::m=>by
  have b:=Tt k k' v m;simp only[dp];by_cases h:k'=k2
  ·subst h;simp only[wM,qG,o5];by_cases g:k=k'
   ·subst g;simp
   ·simp[g]
  ·have a:(k'==k2)=false:=by simp[h]
   simp only[a,zW,yz,o5,b];by_cases g:k=k2
   ·subst g
    have:(k==k')=false:=by simp;exact λe=>h e.symm
    simp[this]
   ·simp[g]
section
variable{P:Program}{t kt e:TypeId}{id:Nat}{h:Heap}{m:KV}
def LN(a:h.at' id=some (.map (kvD m)))(c:NS P t=some (kt,e))(b:NM P kt=some (false,[.s]))(d:sD P e=some (.str []))(k:List UInt8)(ok:Bool):
  uF P t (.map id) (.str k) ok h=some (dS ok (.str []) ((o5 k m).map .str)):=by
 simp only[uF,c,b,d,WE,a,gy,Ts,gH,UA,show yi false (.str k)=true from rfl,tz,yr,qG]
def Uk(a:h.at' id=some (.map (kvD m)))(c:NS P t=some (kt,e))(b:NM P kt=some (false,[.s]))(k v:List UInt8):
  wv P t (.map id) (.str k) (.str v) h=some (h.set id (.map (kvD (dp k v m)))):=by
 simp only[wv,c,b,a,Ts,gH,UA,K9,show yi false (.str k)=true from rfl,tz,yr,qG]
end
def zFM(P:Program)(h0:Heap)(f:D)(args:List D)(k:D->Prop):Prop:=∃d,(∀h',HLe h0 h'->ao P f args h' λd' h''=>d'=d/\h''=h')/\k d
variable{P:Program}{t:TypeId}{nid:Nat}{h:Heap}{fr:Frm}
@[congr] theorem B7{f f':D}{args args':List D}{k:D->Prop}(hf:f=f')(ha:args=args'):zFM P h0 f args k=zFM P h0 f' args' k:=by rw[hf,ha]
@[go_sem ↓] theorem BP(f:Operand)(args:List Operand)(ats:Array TypeId)(k:D->Prop):Xg P h0 (.call ⟨.value f,args.toArray,ats⟩) (qt fr) k=zFM P h0 (qt fr f) (args.map (qt fr)) k:=(rfl)
def zFL(P:Program)(h0:Heap)(f:D)(args:List D)(k:D->Prop):Prop:=∃S:D->Prop,(∃e,S e)/\(∀h',HLe h0 h'->ao P f args h' λd' h''=>S d'/\h''=h')/\∀d,S d->k d
@[congr] theorem B6{f f':D}{args args':List D}{k:D->Prop}(hf:f=f')(ha:args=args'):zFL P h0 f args k=zFL P h0 f' args' k:=by rw[hf,ha]
@[go_sem ↓] theorem BN(f:Operand)(args:List Operand)(ats:Array TypeId)(k:D->Prop):Jo P h0 (.call ⟨.value f,args.toArray,ats⟩) (qt fr) k=zFL P h0 (qt fr f) (args.map (qt fr)) k:=propext ⟨λh=>h.2,λh=>⟨rfl,h⟩⟩
def JH{g:FuncId}{k:D->Prop}(S:D->Prop)(f:∀h',zB P g args h' λr a=>a=h'/\S r)(b:∃e,S e)(c:∀d,S d->k d):zFL P h0 (.fn (.func g) [] []) args k:=
 ⟨S,b,λh' _=>by
  rw[Lb,yT,zp];exact(f h').mono λ_ _ e=>⟨e.2,e.1⟩,c⟩
def JI{g:FuncId}{k:D->Prop}(d:D)(c:∀h',zB P g args h' λr a=>a=h'/\r=d)(b:k d):zFM P h0 (.fn (.func g) [] []) args k:=
 ⟨d,λh' _=>by
  rw[Lb,yT,zp];exact(c h').mono λ_ _ e=>⟨e.2,e.1⟩,b⟩
abbrev Str:=List UInt8
def lg(a b:Str):l8 a b=decide (a<b):=bytesLess_eq a b
def ZK{a b:Str}(h:a<=b)(c:a≠b):a<b:=by
 rcases Decidable.em (a<b)with q|q
 ·exact q
 ·exact absurd (List.le_antisymm h (List.not_lt.1 q)) c
def sX(a:Str):¬a<a:=lP a
def gj{a b c:Str}(h:a<b)(g:b<c):a<c:=List.lt_trans h g
open Go.Proofs.Tryz
def av(s:List UInt8):List (List D):=s.map λb=>[.int .u8 (b.toNat:Int)]
def VX(s:List UInt8):(av s).length=s.length:=zI ..
def MD(h:i<s.length):(av s)[i]? =some [.int .u8 (s[i].toNat:Int)]:=by simp[av,h]
def MY(s:List UInt8):oc prog 9 198 (.str s)=some (.sl 1 (av s) .no):=by
 simp only[oc,underlying9,underlying198,underlying5,av]
set_option maxRecDepth 100000
def wm(a b:Int):Int:=if a<b then -1 else if a>b then 1 else 0
def tc:List Int->List Int->Int
 | [],[]=>0
 | [],_::_=> -1
 |_::_,[]=>1
 |a::l,b::m=>if wm a b=0 then tc l m else wm a b
def orL:List Int->Int
 | []=>0
 |a::l=>if a=0 then orL l else a
def TU{l m:List Int} :∀{i:Nat},i<l.length->(a:i<m.length)->tc (l.drop i) (m.drop i)=if wm (l.getD i 0) (m.getD i 0)=0 then tc (l.drop (i+1)) (m.drop (i+1))else wm (l.getD i 0) (m.getD i 0):=by
 intro i b a;rw[z6 b,z6 a];simp[tc,zK,b,a]
def Ls(a:Int)(h:Heap):zB prog 133 [.int .i64 a] h λr h'=>h'=h/\r=.bool false:=by
 refine z5 zC3 ?_;simp only[f133,zA];simp only[go_sem,Nat.reduceEqDiff,↓reduceIte,bne_self_eq_false,and_self]
def YK(a b:Int)(h:Heap):zB prog 82 [.int .i64 a,.int .i64 b] h λr h'=>h'=h/\r=.int .i64 (wm a b):=by
 refine z5 zJS ?_;simp only[f82,zA];simp only[go_sem,Nat.reduceEqDiff,↓reduceIte];refine(Ls a h).mono ?_;rintro r h ⟨rfl,rfl⟩;simp only[go_sem,Nat.reduceEqDiff,↓reduceIte];refine(Ls b h).mono ?_;rintro r h ⟨rfl,rfl⟩;simp only[go_sem,Nat.reduceEqDiff,↓reduceIte];cases e1:decide (a<b)with
 |true=>
  simp only[go_sem,Nat.reduceEqDiff,↓reduceIte];simp[wm,zg e1]
 |false=>
  simp only[go_sem,Nat.reduceEqDiff,↓reduceIte];cases e2:decide (a>b)with
  |true=>
   simp only[go_sem,Nat.reduceEqDiff,↓reduceIte];simp[wm,zq e1,zg e2]
  |false=>
   simp only[go_sem,Nat.reduceEqDiff,↓reduceIte];simp[wm,zq e1,zq e2]
def A0{l:List Int}(m:ye 1 (uq l) d)(o:l.length<=1048576)(h:Heap):zB prog 81 [d] h λr h'=>h'=h/\r=.int .i64 (orL l):=by
 refine z5 zJR ?_;simp only[f81,zA];have k:((uq l).length:Int)=l.length:=by rw[sA]
 simp only[go_sem,Nat.reduceEqDiff,↓reduceIte,uV m underlying40,k];refine qx (λi fr h'=>fr 3=.int .i64 0/\fr 6=d/\fr 7=.int .i64 l.length/\fr 8=.int .i64 (i:Int)/\h'=h/\orL (l.drop i)=orL l) l.length ?_ ?_
 ·simp only[go_sem,Nat.reduceEqDiff,↓reduceIte,zQ,uX]
  trivial
 rintro i fr h' n ⟨c,e,f,g,rfl,b⟩;simp only[go_sem,Nat.reduceEqDiff,↓reduceIte,c,e,f,g];by_cases a:i<l.length
 ·rw[zN (by exact_mod_cast a)];rw[z6 a]at b;simp only[orL]at b;simp only[go_sem,Nat.reduceEqDiff,↓reduceIte,c,e,f,g,qA m uL pj (NK a),mh];by_cases h0:l[i]=0
  ·rw[show(l[i] !=0)=false by simp[h0]];simp only[go_sem,Nat.reduceEqDiff,↓reduceIte,c,e,f,g];rw[ip h0]at b;exact⟨a,by rw[qT (by unfold lim;omega)],b⟩
  ·rw[show(l[i] !=0)=true by simp[h0]];simp only[go_sem,Nat.reduceEqDiff,↓reduceIte];rw[iq h0]at b;rw[b]
 ·have j:i=l.length:=ow;subst j;rw[zO ow];simp only[go_sem,Nat.reduceEqDiff,↓reduceIte,c];rw[tr]at b;rw[<-b];trivial
def gU(n:Nat):Bool:= !(decide (97<=n)&&decide (n<=122)||decide (48<=n)&&decide (n<=57)||decide (n=46)||decide (n=95)||decide (n=45))
def Qa(n:Nat)(h:Heap):zB prog 315 [.int .i32 n] h λr h'=>h'=h/\r=.bool (gU n):=by
 refine z5 zDq ?_;simp only[f315,zA];have key:∀a b2 b c d f g:Bool,decide ((n:Int)>=97)=a->decide ((n:Int)<=122)=b2->decide ((n:Int)>=48)=b->decide ((n:Int)<=57)=c->((n:Int)==46)=d->((n:Int)==95)=f->((n:Int)==45)=g->gU n= !(a&&b2||b&&c||d||f||g):=by
  rintro _ _ _ _ _ _ _ rfl rfl rfl rfl rfl rfl rfl;have o:((n:Int)==46)=decide (n=46):=by by_cases e:n=46<;>simp[e]<;>omega
  have p:((n:Int)==95)=decide (n=95):=by by_cases e:n=95<;>simp[e]<;>omega
  have q:((n:Int)==45)=decide (n=45):=by by_cases e:n=45<;>simp[e]<;>omega
  have e1:decide ((n:Int)>=97)=decide (97<=n):=by by_cases e:97<=n<;>simp[e]<;>omega
  have e2:decide ((n:Int)<=122)=decide (n<=122):=by by_cases e:n<=122<;>simp[e]<;>omega
  have e3:decide ((n:Int)>=48)=decide (48<=n):=by by_cases e:48<=n<;>simp[e]<;>omega
  have m:decide ((n:Int)<=57)=decide (n<=57):=by by_cases e:n<=57<;>simp[e]<;>omega
  rw[e1,e2,e3,m,o,p,q];rfl
 cases h1:decide ((n:Int)>=97)<;>cases i:decide ((n:Int)<=122)<;>cases h3:decide ((n:Int)>=48)<;>cases j:decide ((n:Int)<=57)<;>cases h5:((n:Int)==46)<;>cases k:((n:Int)==95)<;>cases l:((n:Int)==45)<;>rw[key _ _ _ _ _ _ _ h1 i h3 j h5 k l] <;>
  simp only[go_sem,Nat.reduceEqDiff,↓reduceIte,vun,h1,i,h3,j,h5,k,l]<;>rfl
def gV(s:List UInt8):Bool:=match s with
 | []=>false
 |b::r=> !(decide ((b::r).length>32)||(b==46||(b==45||rN gU (b::r) ((b::r).length+1) 0)))
def MV(g:s.length<=1048576)(h:Heap):zB prog 259 [.str s] h λr h'=>h'=h/\r=.bool (gV s):=by
 refine z5 zDc ?_;simp only[f259,zA];cases s with
 |nil=>simp only[go_sem,Nat.reduceEqDiff,↓reduceIte,show(([]:List UInt8)== [])=true from rfl,gV]
 |cons b r=>
  have h0:((b::r:List UInt8)== [])=false:=rfl;have d:kV prog 9 (.str (b::r)) (.int .i64 0)=some (.int .u8 b.toNat):=mA (n:=0) underlying9 rfl;have e1:((b.toNat:Int)==46)=(b==46):=by
   by_cases e:b=46
   ·subst e;rfl
   ·rw[qv.2 e,qv.2 λh=>e (j8.1 (by rw[show(46:UInt8).toNat=46 from rfl];omega))]
  have e2:((b.toNat:Int)==45)=(b==45):=by
   by_cases e:b=45
   ·subst e;rfl
   ·rw[qv.2 e,qv.2 λh=>e (j8.1 (by rw[show(45:UInt8).toNat=45 from rfl];omega))]
  have c:decide (((b::r).length:Int)>32)=decide ((b::r).length>32):=by
   by_cases e:(b::r).length>32
   ·rw[zN e,zN ow]
   ·rw[zO e,zO ow]
  cases h1:decide ((b::r).length>32)with
  |true=>
   simp only[go_sem,Nat.reduceEqDiff,↓reduceIte,h0,pN underlying9,c,h1];simp only[gV,h1];rfl
  |false=>
  cases a:(b==46)with
  |true=>
   simp only[go_sem,Nat.reduceEqDiff,↓reduceIte,h0,pN underlying9,c,h1,d,e1,a];simp only[gV,h1,a];rfl
  |false=>
  cases h3:(b==45)with
  |true=>
   simp only[go_sem,Nat.reduceEqDiff,↓reduceIte,h0,pN underlying9,c,h1,d,e1,e2,a,h3];simp only[gV,h1,a,h3];rfl
  |false=>
   simp only[go_sem,Nat.reduceEqDiff,↓reduceIte,h0,pN underlying9,c,h1,d,e1,e2,a,h3];refine(YT g (λn _ h=>Qa n h) _).mono ?_;rintro q f ⟨rfl,rfl⟩;simp only[vun,go_sem,Nat.reduceEqDiff,↓reduceIte,gV,h1,a,h3]
def fy(s:List UInt8):Int:=if s.length>128\/(qC 47 s).length>8\/(qC 47 s).any (λp=> !gV p)=true then 2 else 0
def WY(i:s.length<=1048576)(h:Heap):zB prog 184 [.str s] h λr h'=>h'=h/\r=.int .i64 (fy s):=by
 refine z5 zDM ?_;simp only[f184,zA];simp only[go_sem,Nat.reduceEqDiff,↓reduceIte];refine(KE i 47 _).mono ?_;rintro r b ⟨rfl,rfl⟩;have d:=jS 47 s;have a:decide ((s.length:Int)>128)=decide (s.length>128):=by
  by_cases e:s.length>128
  ·rw[zN e,zN ow]
  ·rw[zO e,zO ow]
 have e1:decide (((uH (qC 47 s)).length:Int)>8)=decide ((qC 47 s).length>8):=by
  rw[wK];by_cases e:(qC 47 s).length>8
  ·rw[zN e,zN ow]
  ·rw[zO e,zO ow]
 cases h1:decide (s.length>128)with
 |true=>
  simp only[go_sem,Nat.reduceEqDiff,↓reduceIte,pN underlying9,a,h1];rw[fy,ip (.inl (zg h1))]
 |false=>
 have f:=zq h1;cases h3:decide ((qC 47 s).length>8)with
 |true=>
  simp only[go_sem,Nat.reduceEqDiff,↓reduceIte,pN underlying9,uV (ye.mk .no) underlying31,a,e1,h1,h3];rw[fy,ip (.inr (.inl (zg h3)))]
 |false=>
 have g:=zq h3;simp only[go_sem,Nat.reduceEqDiff,↓reduceIte,pN underlying9,uV (ye.mk .no) underlying31,a,e1,h1,h3];refine(YO (ye.mk .no) ow (p:=λp=> !gV p) (λp j h=> ?_) _).mono ?_
 ·refine z5 zDb ?_;simp only[f258,zA];have:=lu 47 s p j;simp only[go_sem,Nat.reduceEqDiff,↓reduceIte];refine(MV ow _).mono ?_;rintro r b ⟨rfl,rfl⟩;simp only[vun,go_sem,Nat.reduceEqDiff,↓reduceIte]
 ·rintro r b ⟨rfl,rfl⟩;cases c:(qC 47 s).any (λp=> !gV p)with
  |true=>
   simp only[go_sem,Nat.reduceEqDiff,↓reduceIte];rw[fy,ip (.inr (.inr c))]
  |false=>
   simp only[go_sem,Nat.reduceEqDiff,↓reduceIte];rw[fy,iq (λh=>h.elim f λh=>h.elim g λh=>by rw[c]at h;cases h)]
theorem nY{p:α->Bool} :∀{l:List α},l.dropWhile p= []↔∀x∈l,p x=true
 | []=>by simp
 |a::l=>by
  have b:=nY (p:=p) (l:=l);simp only[List.dropWhile];cases h:p a with
  |true=>simp only[b,zt,forall_eq_or_imp,h,zQ]
  |false=>simp[h]
def WC{p:α->Bool}{a:α}{l:List α}(h:(a::l).dropWhile p=a::l):p a=false:=by
 cases c:p a with
 |false=>rfl
 |true=>
  simp only[List.dropWhile,c]at h;have h1:(l.dropWhile p).length<=l.length:=by
   clear h c
   induction l with
   |nil=>simp
   |cons b l d=>simp only[List.dropWhile];split<;>simp;omega
  rw[h]at h1;simp only[zm]at h1;omega
theorem J0(s c:List UInt8):(Lib.trimS s c== [])=s.all (λb=>c.contains b):=by
 have key:Lib.trimS s c= []↔∀x∈s,c.contains x=true:=by
  unfold Lib.trimS Lib.trimLeftS Lib.trimRightS;constructor
  ·intro h;rw[nY]at h;cases d:s.reverse.dropWhile (λx=>c.contains x)with
   |nil=>
    rw[nY]at d;exact λx f=>d x (List.mem_reverse.2 f)
   |cons a l=>
    have h1:c.contains a=true:=h a (by rw[d];simp);have g:(s.reverse.dropWhile (λx=>c.contains x)).dropWhile (λx=>c.contains x)=s.reverse.dropWhile (λx=>c.contains x):=by
     generalize s.reverse=r at *
     clear d h h1
     induction r with
     |nil=>rfl
     |cons b r k=>
      simp only[List.dropWhile];cases j:c.contains b with
      |true=>exact k
      |false=>simp only[List.dropWhile,j]
    rw[d]at g;have:=WC g;rw[h1]at this;cases this
  ·intro h
   have:s.reverse.dropWhile (λx=>c.contains x)= []:=nY.2 λx f=>h x (List.mem_reverse.1 f);rw[this];rfl
 by_cases e:Lib.trimS s c= []
 ·rw[e,(ze.2 (key.1 e))];rfl
 ·rw[qv.2 e];cases i:s.all (λb=>c.contains b)with
  |false=>rfl
  |true=>exact absurd (key.2 (ze.1 i)) e
def M7{pos:Nat}(a:pos<s.length)(h:s[pos].toNat<128):sL s pos=(s[pos].toNat,1):=by
 unfold sL;rw[Lib.decode_at]
 have:(ByteArray.mk s.toArray).get! pos=s[pos]:=by
  show s.toArray[pos]! =_;simp[a]
 rw[this];simp[Lib.decodeN,h]
def TW(n a b b2 c:Nat)(h0:128<=a):128<=(Lib.decodeN n a b b2 c).1:=by
 unfold Lib.decodeN;rw[iq ow]
 repeat' split
 all_goals simp only[]
 all_goals omega
def PG{pos:Nat}(a:pos<s.length)(h:¬s[pos].toNat<128):128<=(sL s pos).1:=by
 unfold sL;rw[Lib.decode_at]
 have:(ByteArray.mk s.toArray).get! pos=s[pos]:=by
  show s.toArray[pos]! =_;simp[a]
 rw[this];exact TW _ _ _ _ _ ow
theorem cM{p:Nat->Bool}(c:∀n,128<=n->p n=true) :∀{k pos:Nat},s.length+1<=pos+k->rN p s k pos=(s.drop pos).any (λb=>p b.toNat)
 |0,pos,h=>by rw[oE ow,wq ow];rfl
 |k+1,pos,h=>by
  by_cases a:pos<s.length
  ·rw[rN,ip a,z6 a,sQ];by_cases d:s[pos].toNat<128
   ·rw[M7 a d,cM c (by simp only[];omega)]
   ·rw[c _ (PG a d),c _ ow];rfl
  ·rw[rN,iq a,wq ow];rfl
end Go.V
namespace Go.Proofs
open Go.Shelf
def Tryz.sortLic_ren:Go.Shelf.Ren:=⟨fun|6=>266|15=>156|14=>317|28=>213|29=>214|20=>127|21=>340|22=>341|23=>342|24=>343|25=>344|26=>345|27=>346|46=>372|47=>285|48=>286|49=>373|50=>374|57=>382|n=>n,fun|22=>22|24=>80|25=>82|3=>3|39=>210|0=>0|53=>273|55=>275|4=>4|46=>266|45=>265|50=>184|5=>5|9=>9|66=>307|70=>311|76=>346|77=>204|n=>n,fun|n=>n⟩
def Tryz.sortLic:Go.Proofs.SlLaysF0.n6 Tryz.prog Tryz.sortLic_ren:=by constructor<;>intros<;>exact lay_k
def Tryz.pdqTrm_ren:Go.Shelf.Ren:=⟨fun|14=>318|20=>347|21=>348|22=>349|23=>350|24=>351|25=>352|26=>353|27=>354|46=>375|47=>285|48=>286|49=>376|50=>377|15=>156|57=>383|28=>213|29=>214|n=>n,fun|24=>112|22=>107|3=>3|25=>300|4=>4|0=>0|46=>266|45=>265|50=>184|66=>307|39=>210|55=>275|70=>311|76=>346|77=>204|53=>273|5=>5|9=>9|n=>n,fun|n=>n⟩
def Tryz.pdqTrm:Go.Proofs.SlLaysF0.n14 Tryz.prog Tryz.pdqTrm_ren:=by constructor<;>intros<;>exact lay_k
def Tryz.sortVio_ren:Go.Shelf.Ren:=⟨fun|6=>106|15=>156|14=>157|28=>213|29=>214|20=>215|21=>216|22=>217|23=>218|24=>219|25=>220|26=>221|27=>222|46=>289|47=>285|48=>286|49=>290|50=>291|57=>328|n=>n,fun|22=>36|24=>42|25=>136|3=>3|39=>210|0=>0|53=>273|55=>275|4=>4|46=>266|45=>265|50=>184|5=>5|9=>9|66=>307|70=>311|76=>346|77=>204|n=>n,fun|n=>n⟩
def Tryz.sortVio:Go.Proofs.SlLaysF0.n6 Tryz.prog Tryz.sortVio_ren:=by constructor<;>intros<;>exact lay_k
def Tryz.sortAlt_ren:Go.Shelf.Ren:=⟨fun|6=>271|15=>156|14=>319|28=>213|29=>214|20=>355|21=>356|22=>357|23=>358|24=>359|25=>360|26=>361|27=>362|46=>378|47=>285|48=>286|49=>379|50=>380|57=>384|n=>n,fun|22=>30|24=>108|25=>302|3=>3|39=>210|0=>0|53=>273|55=>275|4=>4|46=>266|45=>265|50=>184|5=>5|9=>9|66=>307|70=>311|76=>346|77=>204|n=>n,fun|n=>n⟩
def Tryz.sortAlt:Go.Proofs.SlLaysF.n6 Tryz.prog Tryz.sortAlt_ren:=by constructor<;>intros<;>exact lay_k
def Tryz.lays189_ren:Go.Shelf.Ren:=⟨fun|189=>104|125=>156|257=>155|128=>213|129=>214|294=>204|295=>205|296=>206|297=>207|298=>208|299=>209|216=>210|300=>211|301=>212|328=>284|329=>285|330=>286|331=>287|332=>288|215=>133|343=>327|n=>n,fun|28=>40|3=>3|46=>210|0=>0|51=>273|53=>275|4=>4|183=>266|182=>265|131=>184|5=>5|9=>9|218=>307|222=>311|228=>346|229=>204|n=>n,fun|n=>n⟩
def Tryz.lays189:Go.Proofs.Lays.n189 Tryz.prog Tryz.lays189_ren:=by constructor<;>intros<;>exact lay_k
open Go.Sort Go.RowKit in
def Tryz.slices_Sort_int(a off cap:Nat)(zs:List Int)(w:World)(d:Holds (Value.int .i64) w a off zs.toArray)(b:a<w.heap.size)(c:zs.length<4611686018427387904):
  Calls Tryz.prog 104 #[.slice (some ⟨a,off,none⟩) zs.length cap] w λe f=>
   e=.returned (.tuple #[])/\∃n os,f=grow (putRow (Value.int .i64) (Sort.ahead w n) a off (zs.mergeSort λx y=>decide (x<=y)).toArray) os:=Any.slices_Sort_int Tryz.lays189 a off cap zs w d b c
end Go.Proofs
