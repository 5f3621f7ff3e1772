/- Rules of the machine of abstract values, part 4. No condition. -/
import Derived.Test.YthcjhnmnhfgdiaaGreatDoorW20
import Derived.Lib.SlicesCompact
import Derived.Lib.RowBridge
import Derived.Sort.Walk0
import Derived.Shelf.SlSortCmp.WholeK
import Derived.Ground.SlsfProg
import Derived.Shelf.SlSortCmp.Whole1
set_option linter.all false
set_option maxHeartbeats 8000000
namespace Go.V
def qG (l:List Int):List (List D):=l.map λn=>[.int .i64 n]
def yN (l:List Int):(qG l).length=l.length:=List.length_map ..
variable {i nid sz:Nat}{H h h0:Heap}{P:Program}{t:TypeId}{z x y d:D}{fr:Frm}{args:List D}{s:List UInt8}
def U7 {l:List Int} (h:i<l.length):(qG l)[i]? =some [.int .i64 l[i]]:=by simp[qG,h]
def F9 (o o2:Obj):((H.new H.next o).new (H.new H.next o).next o2).at' H.next=some o:=by
 rw[zG (by rw[zF];omega),zK]
variable {P:Program}{h:Heap}
def Ws {c x:D} {o2:Obj} (d:szT P t=1) (b:x.cells= [x]) (hf:x.flat=true):
  zP P t (.ptr H.next 0) x ((H.new H.next (.row [c])).new (H.new H.next (.row [c])).next o2)=some ((H.new H.next (.row [x])).new (H.new H.next (.row [x])).next o2):=by
 rw[zS (F9 _ _) d (by simp) b hf];congr 1;simp only[Heap.set,Heap.new,Heap.mk.injEq,true_and]
 funext j
 by_cases a:j=H.next
 ·subst a;simp
 ·simp[a]
def Yu {a b c b':List D} (d:b'.length=b.length):yU (a++b++c) b' a.length=a++b'++c:=by
 simp[yU,d]
def fQ {t e:TypeId} (q:qO P t=some e) (s:qK P e=some z) (r:szT P e=sz) (n:z.notTuple=true) (d:z.cells.length=sz) (h0:0<sz) (o:sz<=1048576)
  (l:x.notTuple=true) (f:x.cells.length=sz) (m:y.notTuple=true) (i:y.cells.length=sz):zI P false nid t 2 [(0,x),(1,y)] h=some (.sl sz [x.cells,y.cells] .full,h):=by
 simp only[zI,q,s,r];have g:si 2 z.cells=z.cells++z.cells:=by simp[si]
 have j:yU (z.cells++z.cells) x.cells (0*sz)=x.cells++z.cells:=by
  have:=Yu (a:=[]) (b:=z.cells) (c:=z.cells) (b':=x.cells) (by rw[f,d]);simpa using this
 have k:yU (x.cells++z.cells) y.cells (1*sz)=x.cells++y.cells:=by
  have:=Yu (a:=x.cells) (b:=z.cells) (c:=[]) (b':=y.cells) (by rw[i,d]);rw[Nat.one_mul,<-f];simpa using this
 rw[ip (by simp[n,d,h0];omega)];simp only[qB,g];rw[ip (by simp[l,f,d])];simp only[qB,j];rw[ip (by simp[m,i,f,d])];simp only[qB,k];have p:yH sz 2 (x.cells++y.cells)= [x.cells,y.cells]:=by
  simp only[yH];rw[List.take_append_of_le_length ow,List.take_of_length_le ow,List.drop_append_of_le_length ow,List.drop_eq_nil_of_le ow,List.nil_append,List.take_of_length_le ow]
 simp[p]
open Go.RowKit (Below)
open Go.Shelf Go.Proofs
open Go.Proofs
section
variable {P:Program} {m:Bool} {nid:Nat} {h:Heap} {fr:Frm} {k:D->Heap->Prop}
def zB4 (P:Program) (t:TypeId) (d:D):Option D:=
 match d with
 | .nilsl=>match P.underlying t with
  |some (.slice _)=>some (.int .i64 0)
  |_=>none
 |_=>none
@[go_sem ↓] theorem zHv (t:TypeId) (x:Operand):wE P m nid (.call ⟨.builtin .cap,#[x],#[t]⟩) (yC fr) h k=onS (zB4 P t (yC fr x)) (k · h):=by
 refine tZ rfl ?_;simp only[vop,tn,zB4,List.map_cons,List.map_nil];cases yC fr x<;>try rfl
 simp only[];cases P.underlying t with
 |none=>rfl
 |some y=>cases y<;>rfl
@[go_sem ↓] theorem zFG (t:TypeId) (x:Operand):wE P m nid (.call ⟨.builtin .clear,#[x],#[t]⟩) (yC fr) h k=onH (o6 P t (yC fr x) h) (k wO ·):=Qu rfl rfl
def JP {t e:TypeId} (a:P.underlying t=some (.slice e)):zB4 P t .nilsl=some (.int .i64 0):=by simp[zB4,a]
end
abbrev KV:=List (List UInt8×List UInt8)
def kvD (m:KV):List (D×D):=m.map λp=>(.str p.1, .str p.2)
def kC (k:List UInt8):KV->Option (List UInt8)
 | []=>none
 |(k',v)::m=>if k==k' then some v else kC k m
def ZE (k v:List UInt8):KV->KV
 | []=>[(k,v)]
 |(k',v')::m=>if k==k' then(k,v)::m else(k',v')::ZE k v m
def js (p:List UInt8×List UInt8) (m:KV):kvD (p::m)=(.str p.1, .str p.2)::kvD m:=rfl
def px (k k':List UInt8):eqK [.s] (D.str k).cells (D.str k').cells=some (k==k'):=by
 show(eqK [] [] []).map (k==k'&& ·)=_;simp[eqK]
theorem ZF (k:List UInt8):∀m:KV,sy [.s] (.str k) (kvD m)=some ((kC k m).map .str)
 | []=>rfl
 |(k',v)::m=>by
  have a:=ZF k m;rw[js,sy,px];cases h:(k==k') with
  |true=>simp[kC,h]
  |false=>simp only[kC,h,a];rfl
theorem N7 (k v:List UInt8):∀m:KV,Va [.s] (.str k) (.str v) (kvD m)=some (kvD (ZE k v m))
 | []=>rfl
 |(k',b)::m=>by
  have a:=N7 k v m;rw[js,Va,px];cases h:(k==k') with
  |true=>simp[ZE,h,js]
  |false=>simp[ZE,h,js,a]
def Yv (m:KV):(kvD m).all (λx=>zV false x.1)=true:=by
 rw[List.all_eq_true];intro x a;obtain⟨p,_,rfl⟩:=List.mem_map.1 a;rfl
section
variable {P:Program} {t kt e:TypeId} {id:Nat} {h:Heap} {m:KV}
def RT (a:h.at' id=some (.map (kvD m))) (c:Vb P t=some (kt,e)) (b:Vc P kt=some (false,[.s])) (d:qK P e=some (.str [])) (k:List UInt8) (ok:Bool):
  yi P t (.map id) (.str k) ok h=some (o5 ok (.str []) ((kC k m).map .str)):=by
 simp only[yi,c,b,d,de,a,pd,Yv,px,ZF,show zV false (.str k)=true from rfl,Option.isSome_some,Bool.and_self,if_true]
def ZG (a:h.at' id=some (.map (kvD m))) (c:Vb P t=some (kt,e)) (b:Vc P kt=some (false,[.s])) (k v:List UInt8):
  yV P t (.map id) (.str k) (.str v) h=some (h.set id (.map (kvD (ZE k v m)))):=by
 simp only[yV,c,b,a,Yv,px,ZF,N7,show zV false (.str k)=true from rfl,Option.isSome_some,Bool.and_self,if_true]
end
def zB5 (P:Program) (h0:Heap) (f:D) (args:List D) (k:D->Prop):Prop:=∃d,(∀h',HLe h0 h'->kX P f args h' λd' h''=>d'=d/\h''=h')/\k d
variable {P:Program}{t:TypeId}{nid:Nat}{h:Heap}{fr:Frm}
@[congr] theorem CJ {f f':D} {args args':List D} {k:D->Prop} (hf:f=f') (ha:args=args'):zB5 P h0 f args k=zB5 P h0 f' args' k:=by rw[hf,ha]
@[go_sem ↓] theorem EA (f:Operand) (args:List Operand) (ats:Array TypeId) (k:D->Prop):fL P h0 (.call ⟨.value f,args.toArray,ats⟩) (yC fr) k=zB5 P h0 (yC fr f) (args.map (yC fr)) k:=(rfl)
def zB6 (P:Program) (h0:Heap) (f:D) (args:List D) (k:D->Prop):Prop:=∃S:D->Prop,(∃e,S e)/\(∀h',HLe h0 h'->kX P f args h' λd' h''=>S d'/\h''=h')/\∀d,S d->k d
@[congr] theorem CK {f f':D} {args args':List D} {k:D->Prop} (hf:f=f') (ha:args=args'):zB6 P h0 f args k=zB6 P h0 f' args' k:=by rw[hf,ha]
@[go_sem ↓] theorem EB (f:Operand) (args:List Operand) (ats:Array TypeId) (k:D->Prop):Nz P h0 (.call ⟨.value f,args.toArray,ats⟩) (yC fr) k=zB6 P h0 (yC fr f) (args.map (yC fr)) k:=propext ⟨λh=>h.2,λh=>⟨rfl,h⟩⟩
def EC {g:FuncId} {k:D->Prop} (S:D->Prop) (f:∀h',zA P g args h' λr a=>a=h'/\S r) (b:∃e,S e) (c:∀d,S d->k d):zB6 P h0 (.fn (.func g) [] []) args k:=
 ⟨S,b,λh' _=>by
  rw[Qt,List.nil_append,List.append_nil];exact(f h').mono λ_ _ e=>⟨e.2,e.1⟩,c⟩
def Wt {g:FuncId} {k:D->Prop} (d:D) (c:∀h',zA P g args h' λr a=>a=h'/\r=d) (b:k d):zB5 P h0 (.fn (.func g) [] []) args k:=
 ⟨d,λh' _=>by
  rw[Qt,List.nil_append,List.append_nil];exact(c h').mono λ_ _ e=>⟨e.2,e.1⟩,b⟩
abbrev Str:=List UInt8
def ZH (a b:Str):dX a b=decide (a<b):=bytesLess_eq a b
open Go.Proofs.Tryz
def jB (s:List UInt8):List (List D):=s.map λb=>[.int .u8 (b.toNat:Int)]
def ZI (s:List UInt8):(jB s).length=s.length:=List.length_map ..
def RU (h:i<s.length):(jB s)[i]? =some [.int .u8 (s[i].toNat:Int)]:=by simp[jB,h]
def RV (s:List UInt8):u9 prog 9 268 (.str s)=some (.sl 1 (jB s) .no):=by
 simp only[u9,underlying9,underlying268,underlying5,jB]
set_option maxRecDepth 100000
def qJ (a b:Int):Int:=if a<b then -1 else if a>b then 1 else 0
def wC:List Int->List Int->Int
 | [],[]=>0
 | [],_::_=> -1
 |_::_,[]=>1
 |a::l,b::m=>if qJ a b=0 then wC l m else qJ a b
def orL:List Int->Int
 | []=>0
 |a::l=>if a=0 then orL l else a
def N8 {l m:List Int} :∀ {i:Nat},i<l.length->(a:i<m.length)->wC (l.drop i) (m.drop i)=if qJ (l.getD i 0) (m.getD i 0)=0 then wC (l.drop (i+1)) (m.drop (i+1)) else qJ (l.getD i 0) (m.getD i 0):=by
 intro i b a;rw[List.drop_eq_getElem_cons b,List.drop_eq_getElem_cons a];simp[wC,List.getD_eq_getElem?_getD,b,a]
def N9 (a:Int) (h:Heap):zA prog 93 [.int .i64 a] h λr h'=>h'=h/\r= .bool false:=by
 refine xO mix func93 zC0 rfl rfl ?_;simp only[f93,gJ];simp only[go_sem,Nat.reduceEqDiff,↓reduceIte,bne_self_eq_false,and_self]
def fR (a b:Int) (h:Heap):zA prog 106 [.int .i64 a, .int .i64 b] h λr h'=>h'=h/\r= .int .i64 (qJ a b):=by
 refine xO mix func106 Bl rfl rfl ?_;simp only[f106,gJ];simp only[go_sem,Nat.reduceEqDiff,↓reduceIte];refine(N9 a h).mono ?_;rintro r h ⟨rfl,rfl⟩;simp only[go_sem,Nat.reduceEqDiff,↓reduceIte];refine(N9 b h).mono ?_;rintro r h ⟨rfl,rfl⟩;simp only[go_sem,Nat.reduceEqDiff,↓reduceIte];cases e1:decide (a<b) with
 |true=>
  simp only[go_sem,Nat.reduceEqDiff,↓reduceIte];simp[qJ,of_decide_eq_true e1]
 |false=>
  simp only[go_sem,Nat.reduceEqDiff,↓reduceIte];cases e2:decide (a>b) with
  |true=>
   simp only[go_sem,Nat.reduceEqDiff,↓reduceIte];simp[qJ,of_decide_eq_false e1,of_decide_eq_true e2]
  |false=>
   simp only[go_sem,Nat.reduceEqDiff,↓reduceIte];simp[qJ,of_decide_eq_false e1,of_decide_eq_false e2]
def zAa {l:List Int} (n:zZ 1 (qG l) d) (p:l.length<=1048576) (h:Heap):zA prog 105 [d] h λr h'=>h'=h/\r= .int .i64 (orL l):=by
 refine xO mix func105 BT rfl rfl ?_;simp only[f105,gJ];have m:((qG l).length:Int)=l.length:=by rw[yN]
 simp only[go_sem,Nat.reduceEqDiff,↓reduceIte,yc n underlying45,m];refine yF (λi fr h'=>fr 3= .int .i64 0/\fr 6=d/\fr 7= .int .i64 l.length/\fr 8= .int .i64 (i:Int)/\h'=h/\orL (l.drop i)=orL l) l.length ?_ ?_
 ·simp only[go_sem,Nat.reduceEqDiff,↓reduceIte,true_and,List.drop_zero]
  trivial
 rintro i fr h' o ⟨c,e,f,j,rfl,b⟩;simp only[go_sem,Nat.reduceEqDiff,↓reduceIte,c,e,f,j];by_cases a:i<l.length
 ·rw[decide_eq_true (by exact_mod_cast a)];rw[List.drop_eq_getElem_cons a] at b;simp only[orL] at b;simp only[go_sem,Nat.reduceEqDiff,↓reduceIte,c,e,f,j,zb n yJ wc (U7 a),sT];by_cases h0:l[i]=0
  ·rw[show(l[i] !=0)=false by simp[h0]];simp only[go_sem,Nat.reduceEqDiff,↓reduceIte,c,e,f,j];rw[ip h0] at b;exact⟨a,by rw[zw (by unfold lim;omega)],b⟩
  ·rw[show(l[i] !=0)=true by simp[h0]];simp only[go_sem,Nat.reduceEqDiff,↓reduceIte];rw[iq h0] at b;rw[b]
 ·have k:i=l.length:=ow;subst k;rw[decide_eq_false ow];simp only[go_sem,Nat.reduceEqDiff,↓reduceIte,c];rw[List.drop_length] at b;rw[<-b];trivial
def Wu (n:Nat):Bool:= !(decide (97<=n)&&decide (n<=122)||decide (48<=n)&&decide (n<=57)||decide (n=46)||decide (n=95)||decide (n=45))
def Wv (n:Nat) (h:Heap):zA prog 293 [.int .i32 n] h λr h'=>h'=h/\r= .bool (Wu n):=by
 refine xO mix func293 AM rfl rfl ?_;simp only[f293,gJ];have key:∀a b c d f i j:Bool,decide ((n:Int)>=97)=a->decide ((n:Int)<=122)=b->decide ((n:Int)>=48)=c->decide ((n:Int)<=57)=d->((n:Int)==46)=f->((n:Int)==95)=i->((n:Int)==45)=j->Wu n= !(a&&b||c&&d||f||i||j):=by
  rintro _ _ _ _ _ _ _ rfl rfl rfl rfl rfl rfl rfl;have q:((n:Int)==46)=decide (n=46):=by by_cases e:n=46<;>simp[e]<;>omega
  have s:((n:Int)==95)=decide (n=95):=by by_cases e:n=95<;>simp[e]<;>omega
  have t:((n:Int)==45)=decide (n=45):=by by_cases e:n=45<;>simp[e]<;>omega
  have e1:decide ((n:Int)>=97)=decide (97<=n):=by by_cases e:97<=n<;>simp[e]<;>omega
  have e2:decide ((n:Int)<=122)=decide (n<=122):=by by_cases e:n<=122<;>simp[e]<;>omega
  have e3:decide ((n:Int)>=48)=decide (48<=n):=by by_cases e:48<=n<;>simp[e]<;>omega
  have p:decide ((n:Int)<=57)=decide (n<=57):=by by_cases e:n<=57<;>simp[e]<;>omega
  rw[e1,e2,e3,p,q,s,t];rfl
 cases h1:decide ((n:Int)>=97)<;>cases k:decide ((n:Int)<=122)<;>cases h3:decide ((n:Int)>=48)<;>cases l:decide ((n:Int)<=57)<;>cases h5:((n:Int)==46)<;>cases m:((n:Int)==95)<;>cases o:((n:Int)==45)<;>rw[key _ _ _ _ _ _ _ h1 k h3 l h5 m o] <;>
  simp only[go_sem,Nat.reduceEqDiff,↓reduceIte,vun,h1,k,h3,l,h5,m,o]<;>rfl
def ZJ (s:List UInt8):Bool:=match s with
 | []=>false
 |b::r=> !(decide ((b::r).length>32)||(b==46||(b==45||uQ Wu (b::r) ((b::r).length+1) 0)))
def RW (i:s.length<=1048576) (h:Heap):zA prog 226 [.str s] h λr h'=>h'=h/\r= .bool (ZJ s):=by
 refine xO mix func226 Af rfl rfl ?_;simp only[f226,gJ];cases s with
 |nil=>simp only[go_sem,Nat.reduceEqDiff,↓reduceIte,show(([]:List UInt8)== [])=true from rfl,ZJ]
 |cons b r=>
  have h0:((b::r:List UInt8)== [])=false:=rfl;have d:tF prog 9 (.str (b::r)) (.int .i64 0)=some (.int .u8 b.toNat):=wJ (n:=0) underlying9 rfl;have e1:((b.toNat:Int)==46)=(b==46):=by
   by_cases e:b=46
   ·subst e;rfl
   ·rw[beq_eq_false_iff_ne.2 e,beq_eq_false_iff_ne.2 λh=>e (UInt8.toNat_inj.1 (by rw[show(46:UInt8).toNat=46 from rfl];omega))]
  have e2:((b.toNat:Int)==45)=(b==45):=by
   by_cases e:b=45
   ·subst e;rfl
   ·rw[beq_eq_false_iff_ne.2 e,beq_eq_false_iff_ne.2 λh=>e (UInt8.toNat_inj.1 (by rw[show(45:UInt8).toNat=45 from rfl];omega))]
  have c:decide (((b::r).length:Int)>32)=decide ((b::r).length>32):=by
   by_cases e:(b::r).length>32
   ·rw[decide_eq_true e,decide_eq_true ow]
   ·rw[decide_eq_false e,decide_eq_false ow]
  cases h1:decide ((b::r).length>32) with
  |true=>
   simp only[go_sem,Nat.reduceEqDiff,↓reduceIte,h0,qh underlying9,c,h1];simp only[ZJ,h1];rfl
  |false=>
  cases a:(b==46) with
  |true=>
   simp only[go_sem,Nat.reduceEqDiff,↓reduceIte,h0,qh underlying9,c,h1,d,e1,a];simp only[ZJ,h1,a];rfl
  |false=>
  cases h3:(b==45) with
  |true=>
   simp only[go_sem,Nat.reduceEqDiff,↓reduceIte,h0,qh underlying9,c,h1,d,e1,e2,a,h3];simp only[ZJ,h1,a,h3];rfl
  |false=>
   simp only[go_sem,Nat.reduceEqDiff,↓reduceIte,h0,qh underlying9,c,h1,d,e1,e2,a,h3];refine(fP i (λn _ h=>Wv n h) _).mono ?_;rintro q f ⟨rfl,rfl⟩;simp only[vun,go_sem,Nat.reduceEqDiff,↓reduceIte,ZJ,h1,a,h3]
def Ww (s:List UInt8):Int:=if s.length>128\/(zy 47 s).length>8\/(zy 47 s).any (λp=> !ZJ p)=true then 2 else 0
def bM (j:s.length<=1048576) (h:Heap):zA prog 163 [.str s] h λr h'=>h'=h/\r= .int .i64 (Ww s):=by
 refine xO mix func163 Ab rfl rfl ?_;simp only[f163,gJ];simp only[go_sem,Nat.reduceEqDiff,↓reduceIte];refine(N6 j 47 _).mono ?_;rintro r b ⟨rfl,rfl⟩;have d:=me 47 s;have a:decide ((s.length:Int)>128)=decide (s.length>128):=by
  by_cases e:s.length>128
  ·rw[decide_eq_true e,decide_eq_true ow]
  ·rw[decide_eq_false e,decide_eq_false ow]
 have e1:decide (((yR (zy 47 s)).length:Int)>8)=decide ((zy 47 s).length>8):=by
  rw[z7];by_cases e:(zy 47 s).length>8
  ·rw[decide_eq_true e,decide_eq_true ow]
  ·rw[decide_eq_false e,decide_eq_false ow]
 cases h1:decide (s.length>128) with
 |true=>
  simp only[go_sem,Nat.reduceEqDiff,↓reduceIte,qh underlying9,a,h1];rw[Ww,ip (.inl (of_decide_eq_true h1))]
 |false=>
 have f:=of_decide_eq_false h1;cases h3:decide ((zy 47 s).length>8) with
 |true=>
  simp only[go_sem,Nat.reduceEqDiff,↓reduceIte,qh underlying9,yc (zZ.mk .no) underlying31,a,e1,h1,h3];rw[Ww,ip (.inr (.inl (of_decide_eq_true h3)))]
 |false=>
 have i:=of_decide_eq_false h3;simp only[go_sem,Nat.reduceEqDiff,↓reduceIte,qh underlying9,yc (zZ.mk .no) underlying31,a,e1,h1,h3];refine(fO (zZ.mk .no) ow (p:=λp=> !ZJ p) (λp k h=> ?_) _).mono ?_
 ·refine xO mix func225 AH rfl rfl ?_;simp only[f225,gJ];have:=nE 47 s p k;simp only[go_sem,Nat.reduceEqDiff,↓reduceIte];refine(RW ow _).mono ?_;rintro r b ⟨rfl,rfl⟩;simp only[vun,go_sem,Nat.reduceEqDiff,↓reduceIte]
 ·rintro r b ⟨rfl,rfl⟩;cases c:(zy 47 s).any (λp=> !ZJ p) with
  |true=>
   simp only[go_sem,Nat.reduceEqDiff,↓reduceIte];rw[Ww,ip (.inr (.inr c))]
  |false=>
   simp only[go_sem,Nat.reduceEqDiff,↓reduceIte];rw[Ww,iq (λh=>h.elim f λh=>h.elim i λh=>by rw[c] at h;cases h)]
end Go.V
namespace Go.Proofs
open Go.Shelf
def Tryz.sortLic_ren:Go.Shelf.Ren:=⟨fun|6=>233|15=>75|14=>295|28=>147|29=>148|20=>182|21=>349|22=>350|23=>351|24=>352|25=>353|26=>354|27=>355|46=>393|47=>211|48=>212|49=>394|50=>395|57=>409|n=>n,fun|22=>22|24=>108|25=>110|3=>3|39=>145|0=>0|53=>219|55=>221|4=>4|46=>213|45=>212|50=>160|5=>5|9=>9|66=>282|70=>286|76=>322|77=>271|n=>n,fun|n=>n⟩
def Tryz.sortLic:Go.Proofs.SlLaysF0.n6 Tryz.prog Tryz.sortLic_ren:= {
 mixed:=by kernel_rfl
 f6:=⟨Tryz.f233.name,by decide,Tryz.func233.trans (congrArg some (by kernel_rfl))⟩
 f14:=⟨Tryz.f295.name,by decide,Tryz.func295.trans (congrArg some (by kernel_rfl))⟩
 f15:=Tryz.func75.trans (congrArg some (by kernel_rfl))
 f20:=⟨Tryz.f182.name,by decide,Tryz.func182.trans (congrArg some (by kernel_rfl))⟩
 f21:=⟨Tryz.f349.name,by decide,Tryz.func349.trans (congrArg some (by kernel_rfl))⟩
 f22:=⟨Tryz.f350.name,by decide,Tryz.func350.trans (congrArg some (by kernel_rfl))⟩
 f23:=⟨Tryz.f351.name,by decide,Tryz.func351.trans (congrArg some (by kernel_rfl))⟩
 f24:=⟨Tryz.f352.name,by decide,Tryz.func352.trans (congrArg some (by kernel_rfl))⟩
 f25:=⟨Tryz.f353.name,by decide,Tryz.func353.trans (congrArg some (by kernel_rfl))⟩
 f26:=⟨Tryz.f354.name,by decide,Tryz.func354.trans (congrArg some (by kernel_rfl))⟩
 f27:=⟨Tryz.f355.name,by decide,Tryz.func355.trans (congrArg some (by kernel_rfl))⟩
 f28:=Tryz.func147.trans (congrArg some (by kernel_rfl))
 f29:=Tryz.func148.trans (congrArg some (by kernel_rfl))
 f46:=⟨Tryz.f393.name,by decide,Tryz.func393.trans (congrArg some (by kernel_rfl))⟩
 f47:=Tryz.func211.trans (congrArg some (by kernel_rfl))
 f48:=Tryz.func212.trans (congrArg some (by kernel_rfl))
 f49:=⟨Tryz.f394.name,by decide,Tryz.func394.trans (congrArg some (by kernel_rfl))⟩
 f50:=⟨Tryz.f395.name,by decide,Tryz.func395.trans (congrArg some (by kernel_rfl))⟩
 f57:=⟨Tryz.f409.name,by decide,Tryz.func409.trans (congrArg some (by kernel_rfl))⟩
 t0:=Tryz.underlying0
 a0:=Tryz.isAgg0
 z0:=Tryz.sizeOf0
 v0:=Tryz.zeroValue0
 t3:=Tryz.underlying3
 a3:=Tryz.isAgg3
 z3:=Tryz.sizeOf3
 v3:=Tryz.zeroValue3
 t4:=Tryz.underlying4
 a4:=Tryz.isAgg4
 z4:=Tryz.sizeOf4
 v4:=Tryz.zeroValue4
 t5:=Tryz.underlying5
 a5:=Tryz.isAgg5
 z5:=Tryz.sizeOf5
 v5:=Tryz.zeroValue5
 t9:=Tryz.underlying9
 a9:=Tryz.isAgg9
 z9:=Tryz.sizeOf9
 v9:=Tryz.zeroValue9
 t22:=Tryz.underlying22
 a22:=Tryz.isAgg22
 z22:=Tryz.sizeOf22
 v22:=Tryz.zeroValue22
 t25:=Tryz.underlying110
 a25:=Tryz.isAgg110
 z25:=Tryz.sizeOf110
 v25:=Tryz.zeroValue110
 t39:=Tryz.underlying145
 a39:=Tryz.isAgg145
 z39:=Tryz.sizeOf145
 v39:=Tryz.zeroValue145
 t45:=Tryz.underlying212
 a45:=Tryz.isAgg212
 z45:=Tryz.sizeOf212
 v45:=Tryz.zeroValue212
 t46:=Tryz.underlying213
 a46:=Tryz.isAgg213
 z46:=Tryz.sizeOf213
 v46:=Tryz.zeroValue213
 t50:=Tryz.underlying160
 a50:=Tryz.isAgg160
 z50:=Tryz.sizeOf160
 v50:=Tryz.zeroValue160
 t53:=Tryz.underlying219
 a53:=Tryz.isAgg219
 z53:=Tryz.sizeOf219
 v53:=Tryz.zeroValue219
 t55:=Tryz.underlying221
 a55:=Tryz.isAgg221
 z55:=Tryz.sizeOf221
 v55:=Tryz.zeroValue221
 t66:=Tryz.underlying282
 a66:=Tryz.isAgg282
 z66:=Tryz.sizeOf282
 v66:=Tryz.zeroValue282
 t70:=Tryz.underlying286
 a70:=Tryz.isAgg286
 z70:=Tryz.sizeOf286
 v70:=Tryz.zeroValue286
 t76:=Tryz.underlying322
 a76:=Tryz.isAgg322
 z76:=Tryz.sizeOf322
 v76:=Tryz.zeroValue322
 t77:=Tryz.underlying271
 a77:=Tryz.isAgg271
 z77:=Tryz.sizeOf271
 v77:=Tryz.zeroValue271 }
def Tryz.pdqTrm_ren:Go.Shelf.Ren:=⟨fun|14=>296|20=>356|21=>357|22=>358|23=>359|24=>360|25=>361|26=>362|27=>363|46=>396|47=>211|48=>212|49=>397|50=>398|15=>75|57=>410|28=>147|29=>148|n=>n,fun|24=>130|22=>127|3=>3|25=>294|4=>4|0=>0|46=>213|45=>212|50=>160|66=>282|39=>145|55=>221|70=>286|76=>322|77=>271|53=>219|5=>5|9=>9|n=>n,fun|n=>n⟩
def Tryz.pdqTrm:Go.Proofs.SlLaysF0.n14 Tryz.prog Tryz.pdqTrm_ren:= {
 mixed:=by kernel_rfl
 f14:=⟨Tryz.f296.name,by decide,Tryz.func296.trans (congrArg some (by kernel_rfl))⟩
 f15:=Tryz.func75.trans (congrArg some (by kernel_rfl))
 f20:=⟨Tryz.f356.name,by decide,Tryz.func356.trans (congrArg some (by kernel_rfl))⟩
 f21:=⟨Tryz.f357.name,by decide,Tryz.func357.trans (congrArg some (by kernel_rfl))⟩
 f22:=⟨Tryz.f358.name,by decide,Tryz.func358.trans (congrArg some (by kernel_rfl))⟩
 f23:=⟨Tryz.f359.name,by decide,Tryz.func359.trans (congrArg some (by kernel_rfl))⟩
 f24:=⟨Tryz.f360.name,by decide,Tryz.func360.trans (congrArg some (by kernel_rfl))⟩
 f25:=⟨Tryz.f361.name,by decide,Tryz.func361.trans (congrArg some (by kernel_rfl))⟩
 f26:=⟨Tryz.f362.name,by decide,Tryz.func362.trans (congrArg some (by kernel_rfl))⟩
 f27:=⟨Tryz.f363.name,by decide,Tryz.func363.trans (congrArg some (by kernel_rfl))⟩
 f28:=Tryz.func147.trans (congrArg some (by kernel_rfl))
 f29:=Tryz.func148.trans (congrArg some (by kernel_rfl))
 f46:=⟨Tryz.f396.name,by decide,Tryz.func396.trans (congrArg some (by kernel_rfl))⟩
 f47:=Tryz.func211.trans (congrArg some (by kernel_rfl))
 f48:=Tryz.func212.trans (congrArg some (by kernel_rfl))
 f49:=⟨Tryz.f397.name,by decide,Tryz.func397.trans (congrArg some (by kernel_rfl))⟩
 f50:=⟨Tryz.f398.name,by decide,Tryz.func398.trans (congrArg some (by kernel_rfl))⟩
 f57:=⟨Tryz.f410.name,by decide,Tryz.func410.trans (congrArg some (by kernel_rfl))⟩
 t0:=Tryz.underlying0
 a0:=Tryz.isAgg0
 z0:=Tryz.sizeOf0
 v0:=Tryz.zeroValue0
 t3:=Tryz.underlying3
 a3:=Tryz.isAgg3
 z3:=Tryz.sizeOf3
 v3:=Tryz.zeroValue3
 t4:=Tryz.underlying4
 a4:=Tryz.isAgg4
 z4:=Tryz.sizeOf4
 v4:=Tryz.zeroValue4
 t5:=Tryz.underlying5
 a5:=Tryz.isAgg5
 z5:=Tryz.sizeOf5
 v5:=Tryz.zeroValue5
 t9:=Tryz.underlying9
 a9:=Tryz.isAgg9
 z9:=Tryz.sizeOf9
 v9:=Tryz.zeroValue9
 t22:=Tryz.underlying127
 a22:=Tryz.isAgg127
 z22:=Tryz.sizeOf127
 v22:=Tryz.zeroValue127
 t25:=Tryz.underlying294
 a25:=Tryz.isAgg294
 z25:=Tryz.sizeOf294
 v25:=Tryz.zeroValue294
 t39:=Tryz.underlying145
 a39:=Tryz.isAgg145
 z39:=Tryz.sizeOf145
 v39:=Tryz.zeroValue145
 t45:=Tryz.underlying212
 a45:=Tryz.isAgg212
 z45:=Tryz.sizeOf212
 v45:=Tryz.zeroValue212
 t46:=Tryz.underlying213
 a46:=Tryz.isAgg213
 z46:=Tryz.sizeOf213
 v46:=Tryz.zeroValue213
 t50:=Tryz.underlying160
 a50:=Tryz.isAgg160
 z50:=Tryz.sizeOf160
 v50:=Tryz.zeroValue160
 t53:=Tryz.underlying219
 a53:=Tryz.isAgg219
 z53:=Tryz.sizeOf219
 v53:=Tryz.zeroValue219
 t55:=Tryz.underlying221
 a55:=Tryz.isAgg221
 z55:=Tryz.sizeOf221
 v55:=Tryz.zeroValue221
 t66:=Tryz.underlying282
 a66:=Tryz.isAgg282
 z66:=Tryz.sizeOf282
 v66:=Tryz.zeroValue282
 t70:=Tryz.underlying286
 a70:=Tryz.isAgg286
 z70:=Tryz.sizeOf286
 v70:=Tryz.zeroValue286
 t76:=Tryz.underlying322
 a76:=Tryz.isAgg322
 z76:=Tryz.sizeOf322
 v76:=Tryz.zeroValue322
 t77:=Tryz.underlying271
 a77:=Tryz.isAgg271
 z77:=Tryz.sizeOf271
 v77:=Tryz.zeroValue271 }
def Tryz.sortVio_ren:Go.Shelf.Ren:=⟨fun|6=>155|15=>75|14=>221|28=>147|29=>148|20=>284|21=>285|22=>286|23=>287|24=>288|25=>289|26=>290|27=>291|46=>345|47=>211|48=>212|49=>346|50=>347|57=>391|n=>n,fun|22=>138|24=>65|25=>232|3=>3|39=>145|0=>0|53=>219|55=>221|4=>4|46=>213|45=>212|50=>160|5=>5|9=>9|66=>282|70=>286|76=>322|77=>271|n=>n,fun|n=>n⟩
def Tryz.sortVio:Go.Proofs.SlLaysF0.n6 Tryz.prog Tryz.sortVio_ren:= {
 mixed:=by kernel_rfl
 f6:=⟨Tryz.f155.name,by decide,Tryz.func155.trans (congrArg some (by kernel_rfl))⟩
 f14:=⟨Tryz.f221.name,by decide,Tryz.func221.trans (congrArg some (by kernel_rfl))⟩
 f15:=Tryz.func75.trans (congrArg some (by kernel_rfl))
 f20:=⟨Tryz.f284.name,by decide,Tryz.func284.trans (congrArg some (by kernel_rfl))⟩
 f21:=⟨Tryz.f285.name,by decide,Tryz.func285.trans (congrArg some (by kernel_rfl))⟩
 f22:=⟨Tryz.f286.name,by decide,Tryz.func286.trans (congrArg some (by kernel_rfl))⟩
 f23:=⟨Tryz.f287.name,by decide,Tryz.func287.trans (congrArg some (by kernel_rfl))⟩
 f24:=⟨Tryz.f288.name,by decide,Tryz.func288.trans (congrArg some (by kernel_rfl))⟩
 f25:=⟨Tryz.f289.name,by decide,Tryz.func289.trans (congrArg some (by kernel_rfl))⟩
 f26:=⟨Tryz.f290.name,by decide,Tryz.func290.trans (congrArg some (by kernel_rfl))⟩
 f27:=⟨Tryz.f291.name,by decide,Tryz.func291.trans (congrArg some (by kernel_rfl))⟩
 f28:=Tryz.func147.trans (congrArg some (by kernel_rfl))
 f29:=Tryz.func148.trans (congrArg some (by kernel_rfl))
 f46:=⟨Tryz.f345.name,by decide,Tryz.func345.trans (congrArg some (by kernel_rfl))⟩
 f47:=Tryz.func211.trans (congrArg some (by kernel_rfl))
 f48:=Tryz.func212.trans (congrArg some (by kernel_rfl))
 f49:=⟨Tryz.f346.name,by decide,Tryz.func346.trans (congrArg some (by kernel_rfl))⟩
 f50:=⟨Tryz.f347.name,by decide,Tryz.func347.trans (congrArg some (by kernel_rfl))⟩
 f57:=⟨Tryz.f391.name,by decide,Tryz.func391.trans (congrArg some (by kernel_rfl))⟩
 t0:=Tryz.underlying0
 a0:=Tryz.isAgg0
 z0:=Tryz.sizeOf0
 v0:=Tryz.zeroValue0
 t3:=Tryz.underlying3
 a3:=Tryz.isAgg3
 z3:=Tryz.sizeOf3
 v3:=Tryz.zeroValue3
 t4:=Tryz.underlying4
 a4:=Tryz.isAgg4
 z4:=Tryz.sizeOf4
 v4:=Tryz.zeroValue4
 t5:=Tryz.underlying5
 a5:=Tryz.isAgg5
 z5:=Tryz.sizeOf5
 v5:=Tryz.zeroValue5
 t9:=Tryz.underlying9
 a9:=Tryz.isAgg9
 z9:=Tryz.sizeOf9
 v9:=Tryz.zeroValue9
 t22:=Tryz.underlying138
 a22:=Tryz.isAgg138
 z22:=Tryz.sizeOf138
 v22:=Tryz.zeroValue138
 t25:=Tryz.underlying232
 a25:=Tryz.isAgg232
 z25:=Tryz.sizeOf232
 v25:=Tryz.zeroValue232
 t39:=Tryz.underlying145
 a39:=Tryz.isAgg145
 z39:=Tryz.sizeOf145
 v39:=Tryz.zeroValue145
 t45:=Tryz.underlying212
 a45:=Tryz.isAgg212
 z45:=Tryz.sizeOf212
 v45:=Tryz.zeroValue212
 t46:=Tryz.underlying213
 a46:=Tryz.isAgg213
 z46:=Tryz.sizeOf213
 v46:=Tryz.zeroValue213
 t50:=Tryz.underlying160
 a50:=Tryz.isAgg160
 z50:=Tryz.sizeOf160
 v50:=Tryz.zeroValue160
 t53:=Tryz.underlying219
 a53:=Tryz.isAgg219
 z53:=Tryz.sizeOf219
 v53:=Tryz.zeroValue219
 t55:=Tryz.underlying221
 a55:=Tryz.isAgg221
 z55:=Tryz.sizeOf221
 v55:=Tryz.zeroValue221
 t66:=Tryz.underlying282
 a66:=Tryz.isAgg282
 z66:=Tryz.sizeOf282
 v66:=Tryz.zeroValue282
 t70:=Tryz.underlying286
 a70:=Tryz.isAgg286
 z70:=Tryz.sizeOf286
 v70:=Tryz.zeroValue286
 t76:=Tryz.underlying322
 a76:=Tryz.isAgg322
 z76:=Tryz.sizeOf322
 v76:=Tryz.zeroValue322
 t77:=Tryz.underlying271
 a77:=Tryz.isAgg271
 z77:=Tryz.sizeOf271
 v77:=Tryz.zeroValue271 }
def Tryz.sortAlt_ren:Go.Shelf.Ren:=⟨fun|6=>238|15=>75|14=>297|28=>147|29=>148|20=>364|21=>365|22=>366|23=>367|24=>368|25=>369|26=>370|27=>371|46=>399|47=>211|48=>212|49=>400|50=>401|57=>411|n=>n,fun|22=>30|24=>128|25=>296|3=>3|39=>145|0=>0|53=>219|55=>221|4=>4|46=>213|45=>212|50=>160|5=>5|9=>9|66=>282|70=>286|76=>322|77=>271|n=>n,fun|n=>n⟩
def Tryz.sortAlt:Go.Proofs.SlLaysF.n6 Tryz.prog Tryz.sortAlt_ren:= {
 mixed:=by kernel_rfl
 f6:=⟨Tryz.f238.name,by decide,Tryz.func238.trans (congrArg some (by kernel_rfl))⟩
 f14:=⟨Tryz.f297.name,by decide,Tryz.func297.trans (congrArg some (by kernel_rfl))⟩
 f15:=Tryz.func75.trans (congrArg some (by kernel_rfl))
 f20:=⟨Tryz.f364.name,by decide,Tryz.func364.trans (congrArg some (by kernel_rfl))⟩
 f21:=⟨Tryz.f365.name,by decide,Tryz.func365.trans (congrArg some (by kernel_rfl))⟩
 f22:=⟨Tryz.f366.name,by decide,Tryz.func366.trans (congrArg some (by kernel_rfl))⟩
 f23:=⟨Tryz.f367.name,by decide,Tryz.func367.trans (congrArg some (by kernel_rfl))⟩
 f24:=⟨Tryz.f368.name,by decide,Tryz.func368.trans (congrArg some (by kernel_rfl))⟩
 f25:=⟨Tryz.f369.name,by decide,Tryz.func369.trans (congrArg some (by kernel_rfl))⟩
 f26:=⟨Tryz.f370.name,by decide,Tryz.func370.trans (congrArg some (by kernel_rfl))⟩
 f27:=⟨Tryz.f371.name,by decide,Tryz.func371.trans (congrArg some (by kernel_rfl))⟩
 f28:=Tryz.func147.trans (congrArg some (by kernel_rfl))
 f29:=Tryz.func148.trans (congrArg some (by kernel_rfl))
 f46:=⟨Tryz.f399.name,by decide,Tryz.func399.trans (congrArg some (by kernel_rfl))⟩
 f47:=Tryz.func211.trans (congrArg some (by kernel_rfl))
 f48:=Tryz.func212.trans (congrArg some (by kernel_rfl))
 f49:=⟨Tryz.f400.name,by decide,Tryz.func400.trans (congrArg some (by kernel_rfl))⟩
 f50:=⟨Tryz.f401.name,by decide,Tryz.func401.trans (congrArg some (by kernel_rfl))⟩
 f57:=⟨Tryz.f411.name,by decide,Tryz.func411.trans (congrArg some (by kernel_rfl))⟩
 t0:=Tryz.underlying0
 a0:=Tryz.isAgg0
 z0:=Tryz.sizeOf0
 v0:=Tryz.zeroValue0
 t3:=Tryz.underlying3
 a3:=Tryz.isAgg3
 z3:=Tryz.sizeOf3
 v3:=Tryz.zeroValue3
 t4:=Tryz.underlying4
 a4:=Tryz.isAgg4
 z4:=Tryz.sizeOf4
 v4:=Tryz.zeroValue4
 t5:=Tryz.underlying5
 a5:=Tryz.isAgg5
 z5:=Tryz.sizeOf5
 v5:=Tryz.zeroValue5
 t9:=Tryz.underlying9
 a9:=Tryz.isAgg9
 z9:=Tryz.sizeOf9
 v9:=Tryz.zeroValue9
 t22:=Tryz.underlying30
 a22:=Tryz.isAgg30
 z22:=Tryz.sizeOf30
 v22:=Tryz.zeroValue30
 a24:=Tryz.isAgg128
 z24:=Tryz.sizeOf128
 t25:=Tryz.underlying296
 a25:=Tryz.isAgg296
 z25:=Tryz.sizeOf296
 v25:=Tryz.zeroValue296
 t39:=Tryz.underlying145
 a39:=Tryz.isAgg145
 z39:=Tryz.sizeOf145
 v39:=Tryz.zeroValue145
 t45:=Tryz.underlying212
 a45:=Tryz.isAgg212
 z45:=Tryz.sizeOf212
 v45:=Tryz.zeroValue212
 t46:=Tryz.underlying213
 a46:=Tryz.isAgg213
 z46:=Tryz.sizeOf213
 v46:=Tryz.zeroValue213
 t50:=Tryz.underlying160
 a50:=Tryz.isAgg160
 z50:=Tryz.sizeOf160
 v50:=Tryz.zeroValue160
 t53:=Tryz.underlying219
 a53:=Tryz.isAgg219
 z53:=Tryz.sizeOf219
 v53:=Tryz.zeroValue219
 t55:=Tryz.underlying221
 a55:=Tryz.isAgg221
 z55:=Tryz.sizeOf221
 v55:=Tryz.zeroValue221
 t66:=Tryz.underlying282
 a66:=Tryz.isAgg282
 z66:=Tryz.sizeOf282
 v66:=Tryz.zeroValue282
 t70:=Tryz.underlying286
 a70:=Tryz.isAgg286
 z70:=Tryz.sizeOf286
 v70:=Tryz.zeroValue286
 t76:=Tryz.underlying322
 a76:=Tryz.isAgg322
 z76:=Tryz.sizeOf322
 v76:=Tryz.zeroValue322
 t77:=Tryz.underlying271
 a77:=Tryz.isAgg271
 z77:=Tryz.sizeOf271
 v77:=Tryz.zeroValue271 }
def Tryz.lays189_ren:Go.Shelf.Ren:=⟨fun|189=>36|125=>75|257=>74|128=>147|129=>148|294=>139|295=>140|296=>141|297=>142|298=>143|299=>144|216=>47|300=>145|301=>146|328=>210|329=>211|330=>212|331=>213|332=>214|215=>93|343=>273|n=>n,fun|28=>45|3=>3|46=>145|0=>0|51=>219|53=>221|4=>4|183=>213|182=>212|131=>160|5=>5|9=>9|218=>282|222=>286|228=>322|229=>271|n=>n,fun|n=>n⟩
def Tryz.lays189:Go.Proofs.Lays.n189 Tryz.prog Tryz.lays189_ren:= {
 mixed:=by kernel_rfl
 f125:=Tryz.func75.trans (congrArg some (by kernel_rfl))
 f128:=Tryz.func147.trans (congrArg some (by kernel_rfl))
 f129:=Tryz.func148.trans (congrArg some (by kernel_rfl))
 f189:=Tryz.func36.trans (congrArg some (by kernel_rfl))
 f215:=Tryz.func93.trans (congrArg some (by kernel_rfl))
 f216:=Tryz.func47.trans (congrArg some (by kernel_rfl))
 f257:=Tryz.func74.trans (congrArg some (by kernel_rfl))
 f294:=Tryz.func139.trans (congrArg some (by kernel_rfl))
 f295:=Tryz.func140.trans (congrArg some (by kernel_rfl))
 f296:=Tryz.func141.trans (congrArg some (by kernel_rfl))
 f297:=Tryz.func142.trans (congrArg some (by kernel_rfl))
 f298:=Tryz.func143.trans (congrArg some (by kernel_rfl))
 f299:=Tryz.func144.trans (congrArg some (by kernel_rfl))
 f300:=Tryz.func145.trans (congrArg some (by kernel_rfl))
 f301:=Tryz.func146.trans (congrArg some (by kernel_rfl))
 f328:=Tryz.func210.trans (congrArg some (by kernel_rfl))
 f329:=Tryz.func211.trans (congrArg some (by kernel_rfl))
 f330:=Tryz.func212.trans (congrArg some (by kernel_rfl))
 f331:=Tryz.func213.trans (congrArg some (by kernel_rfl))
 f332:=Tryz.func214.trans (congrArg some (by kernel_rfl))
 f343:=Tryz.func273.trans (congrArg some (by kernel_rfl))
 t0:=Tryz.underlying0
 a0:=Tryz.isAgg0
 z0:=Tryz.sizeOf0
 v0:=Tryz.zeroValue0
 t3:=Tryz.underlying3
 a3:=Tryz.isAgg3
 z3:=Tryz.sizeOf3
 v3:=Tryz.zeroValue3
 t4:=Tryz.underlying4
 a4:=Tryz.isAgg4
 z4:=Tryz.sizeOf4
 v4:=Tryz.zeroValue4
 t5:=Tryz.underlying5
 a5:=Tryz.isAgg5
 z5:=Tryz.sizeOf5
 v5:=Tryz.zeroValue5
 t9:=Tryz.underlying9
 a9:=Tryz.isAgg9
 z9:=Tryz.sizeOf9
 v9:=Tryz.zeroValue9
 t28:=Tryz.underlying45
 a28:=Tryz.isAgg45
 z28:=Tryz.sizeOf45
 v28:=Tryz.zeroValue45
 t46:=Tryz.underlying145
 a46:=Tryz.isAgg145
 z46:=Tryz.sizeOf145
 v46:=Tryz.zeroValue145
 t51:=Tryz.underlying219
 a51:=Tryz.isAgg219
 z51:=Tryz.sizeOf219
 v51:=Tryz.zeroValue219
 t53:=Tryz.underlying221
 a53:=Tryz.isAgg221
 z53:=Tryz.sizeOf221
 v53:=Tryz.zeroValue221
 t131:=Tryz.underlying160
 a131:=Tryz.isAgg160
 z131:=Tryz.sizeOf160
 v131:=Tryz.zeroValue160
 t182:=Tryz.underlying212
 a182:=Tryz.isAgg212
 z182:=Tryz.sizeOf212
 v182:=Tryz.zeroValue212
 t183:=Tryz.underlying213
 a183:=Tryz.isAgg213
 z183:=Tryz.sizeOf213
 v183:=Tryz.zeroValue213
 t218:=Tryz.underlying282
 a218:=Tryz.isAgg282
 z218:=Tryz.sizeOf282
 v218:=Tryz.zeroValue282
 t222:=Tryz.underlying286
 a222:=Tryz.isAgg286
 z222:=Tryz.sizeOf286
 v222:=Tryz.zeroValue286
 t228:=Tryz.underlying322
 a228:=Tryz.isAgg322
 z228:=Tryz.sizeOf322
 v228:=Tryz.zeroValue322
 t229:=Tryz.underlying271
 a229:=Tryz.isAgg271
 z229:=Tryz.sizeOf271
 v229:=Tryz.zeroValue271 }
open Go.Sort Go.RowKit in
def Tryz.slices_Sort_int (a off cap:Nat) (zs:List Int) (w:World) (d:Holds (Value.int .i64) w a off zs.toArray) (b:a<w.heap.size) (c:zs.length<4611686018427387904):
  Calls Tryz.prog 36 #[.slice (some ⟨a,off,none⟩) zs.length cap] w λe g=>
   e= .returned (.tuple #[])/\∃n f,g=grow (putRow (Value.int .i64) (Sort.ahead w n) a off (zs.mergeSort λx y=>decide (x<=y)).toArray) f:=Any.slices_Sort_int Tryz.lays189 a off cap zs w d b c
end Go.Proofs
