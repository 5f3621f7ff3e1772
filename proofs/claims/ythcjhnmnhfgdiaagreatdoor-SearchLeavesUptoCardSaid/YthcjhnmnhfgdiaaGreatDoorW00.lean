/- A machine of abstract values for programs of the model, and its soundness, part 1. No condition. -/
import Derived.RangeFuncLeaves
import Derived.OrdersIn
import Derived.TacticsIn
import Derived.Laws.AppendOwn
import Derived.Below
set_option linter.all false
set_option maxHeartbeats 8000000
namespace Go.V
theorem ow {p:Prop} (h:p:=by omega):p:=h
theorem ip {c:Prop} {_:Decidable c} (h:c) {α:Sort _} {t e:α}:ite c t e=t:=if_pos h
theorem iq {c:Prop} {_:Decidable c} (h:¬c) {α:Sort _} {t e:α}:ite c t e=e:=if_neg h
def xc (l:List Nat) (t:Nat):Bool:=List.contains l t
@[go_sem] theorem xE (l:List Nat) (t:Nat):xc l t=List.contains l t:=(rfl)
theorem kr {p:Prop} (h:p:=by kernel_rfl):p:=h
inductive Tk where
 |no|full|own (t:Nat)
inductive D where
 |bool (b:Bool)
 |int (k:IntKind) (n:Int)
 |str (s:List UInt8)
 |nilptr
 |ptr (id off:Nat)
 |iptr (cs:List D) (off:Nat)
 |nilsl
 |sl (sz:Nat) (xs:List (List D)) (tk:Tk)
 |rs (id sz off len:Nat)
 |nilmap
 |map (id:Nat)
 |fn (f:Fn) (first cap:List D)
 |yld (id:Nat)
 |nilfn
 |agg (cs:List D)
 |tuple (cs:List D)
 |iface (t:TypeId) (v:D)
 |niliface
abbrev Frm:=Nat->D
def wO:D:= .tuple []
structure LRec where
 st:LoopState
 pending:Option Code
 fr:Frm
 params:Array Tmp
 assign:Code
 body:Code
 n:Nat
inductive Obj where
 |row (cs:List D)
 |tok
 |map (es:List (D×D))
 |loop (r:LRec)
 |siter (s:List UInt8) (pos:Nat)
 |trow (t:TypeId) (full:Bool) (cs:List D)
structure Heap where
 next:Nat
 at':Nat->Option Obj
def Heap.set (h:Heap) (i:Nat) (o:Obj):Heap:= { next:=h.next,at':=λj=>if j=i then some o else h.at' j }
def Heap.del (h:Heap) (i:Nat):Heap:= { next:=h.next,at':=λj=>if j=i then none else h.at' j }
def Heap.new (h:Heap) (i:Nat) (o:Obj):Heap:= { next:=max h.next (i+1),at':=λj=>if j=i then some o else h.at' j }
def D.cells:D->List D
 | .agg cs=>cs
 |d=>[d]
def D.flat:D->Bool
 | .agg _=>false
 | .tuple _=>false
 |_=>true
def D.notTuple:D->Bool
 | .tuple _=>false
 |_=>true
def lim:Nat:=140737488355328
mutual
def cst:Value->D
 | .bool b=> .bool b
 | .int k n=> .int k n
 | .string s=> .str s.data.toList
 | .pointer none=> .nilptr
 | .slice none 0 0=> .nilsl
 | .map none=> .nilmap
 | .nilFunc=> .nilfn
 | .nilIface=> .niliface
 | .agg cs=> .agg (L8 cs.toList)
 | .tuple cs=> .tuple (L8 cs.toList)
 |_=> .tuple []
def L8:List Value->List D
 | []=>[]
 |v::vs=>cst v::L8 vs
end
mutual
def rO:Value->Bool
 | .bool _=>true
 | .int k n=>k.wrap n==n
 | .string s=>decide (s.data.toList.length<=lim)
 | .pointer none=>true
 | .slice none 0 0=>true
 | .map none=>true
 | .nilFunc=>true
 | .nilIface=>true
 | .agg cs=>hP cs.toList&&cs.toList.all (·.oneCell')
 | .tuple cs=>hP cs.toList
 |_=>false
def hP:List Value->Bool
 | []=>true
 |v::vs=>rO v&&hP vs
end
def yC (fr:Frm):Operand->D
 | .tmp t=>fr t
 | .const v=>cst v
 | .global _=> .tuple []
 | .func f=> .fn (.func f) [] []
def dX (a b:List UInt8):Bool:=Op.bytesLess a b
def VZ (op:BinOp) (k:IntKind) (a b:Int):Option D:=
 match op with
 | .add=>some (.int k (k.wrap (a+b)))
 | .sub=>some (.int k (k.wrap (a-b)))
 | .mul=>some (.int k (k.wrap (a*b)))
 | .quo=>if b=0 then none else some (.int k (k.wrap (a.tdiv b)))
 | .rem=>if b=0 then none else some (.int k (a.tmod b))
 | .and=>some (.int k (k.wrap (BitVec.ofInt k.bits a &&& BitVec.ofInt k.bits b).toNat))
 | .or=>some (.int k (k.wrap (BitVec.ofInt k.bits a |||BitVec.ofInt k.bits b).toNat))
 | .xor=>some (.int k (k.wrap (BitVec.ofInt k.bits a ^^^ BitVec.ofInt k.bits b).toNat))
 | .andNot=>some (.int k (k.wrap (BitVec.ofInt k.bits a &&& ~~~BitVec.ofInt k.bits b).toNat))
 | .eql=>some (.bool (a==b))
 | .neq=>some (.bool (a !=b))
 | .lss=>some (.bool (decide (a<b)))
 | .leq=>some (.bool (decide (a<=b)))
 | .gtr=>some (.bool (decide (a>b)))
 | .geq=>some (.bool (decide (a>=b)))
 |_=>none
def Zs (op:BinOp) (k:IntKind) (a b:Int):Option D:=
 if b<0 then none else
 match op with
 | .shl=>some (.int k (k.wrap (a*2^ (min b.toNat k.bits))))
 | .shr=>some (.int k (a.fdiv (2^ (min b.toNat k.bits))))
 |_=>none
def Lo (op:BinOp) (a b:List UInt8):Option D:=
 match op with
 | .add=>if a.length+b.length<=lim then some (.str (a++b)) else none
 | .eql=>some (.bool (a==b))
 | .neq=>some (.bool (!(a==b)))
 | .lss=>some (.bool (dX a b))
 | .leq=>some (.bool (dX a b||a==b))
 | .gtr=>some (.bool !(dX a b||a==b))
 | .geq=>some (.bool !(dX a b))
 |_=>none
inductive Kd where
 |b|i|s
def eqK:List Kd->List D->List D->Option Bool
 | [],[],[]=>some true
 | .b::ks, .bool x::as, .bool y::bs=>(eqK ks as bs).map (x==y&& ·)
 | .i::ks, .int k x::as, .int k' y::bs=>if k=k' then(eqK ks as bs).map (x==y&& ·) else none
 | .s::ks, .str x::as, .str y::bs=>(eqK ks as bs).map (x==y&& ·)
 |_,_,_=>none
def veq:Option TypeDesc->D->D->Option Bool
 |some .bool, .bool a, .bool b=>some (a==b)
 |some (.pointer _), .nilptr, .nilptr=>some true
 |some (.pointer _), .nilptr, .ptr _ _=>some false
 |some (.pointer _), .ptr _ _, .nilptr=>some false
 |some (.pointer _), .nilptr, .iptr _ _=>some false
 |some (.pointer _), .iptr _ _, .nilptr=>some false
 |some (.slice _), .nilsl, .nilsl=>some true
 |some (.slice _), .nilsl, .sl _ _ _=>some false
 |some (.slice _), .sl _ _ _, .nilsl=>some false
 |some (.slice _), .nilsl, .rs _ _ _ _=>some false
 |some (.slice _), .rs _ _ _ _, .nilsl=>some false
 |some (.map _ _), .nilmap, .nilmap=>some true
 |some (.map _ _), .nilmap, .map _=>some false
 |some (.map _ _), .map _, .nilmap=>some false
 |some (.func _ _ _), .nilfn, .nilfn=>some true
 |some (.func _ _ _), .nilfn, .fn _ _ _=>some false
 |some (.func _ _ _), .fn _ _ _, .nilfn=>some false
 |some (.func _ _ _), .nilfn, .yld _=>some false
 |some (.func _ _ _), .yld _, .nilfn=>some false
 |_,_,_=>none
def hZ (kd:TypeId->Option (List Kd)) (sz:TypeId->Nat):List Field->Nat->Nat->Option (List Kd)
 | [],off,n=>if off==n then some [] else none
 |f::fs,off,n=>
  if f.name != "_" &&f.offset==off&&sz f.type !=0 then
   match kd f.type with
   |some ks=>if ks.length==sz f.type then(hZ kd sz fs (off+ks.length) n).map (ks++ ·) else none
   |none=>none
  else none
def wg (P:Program):Nat->TypeId->Option (List Kd)
 |0,_=>none
 |d+1,t=>
  match P.underlying t with
  |some .bool=>if P.cellsOf t==1 then some [.b] else none
  |some (.int _)=>if P.cellsOf t==1 then some [.i] else none
  |some .string=>if P.cellsOf t==1 then some [.s] else none
  |some (.struct fs)=>if P.stoodInHeld t then none else hZ (wg P d) P.cellsOf fs.toList 0 (P.cellsOf t)
  |_=>none
def eqT (P:Program) (t:TypeId):Option (List Kd):=
 match P.underlying t with
 |some (.struct _)=>if P.eqGuardType P.depth t then none else wg P 8 t
 |_=>none
def tE (op:BinOp) (f g:Option D):Option D:=
 match op with
 | .eql=>f
 | .neq=>g
 |_=>none
def IZ (P:Program) (op:BinOp) (t:TypeId) (x y:D):Option D:=
 tE op ((veq (P.underlying t) x y).map .bool) ((veq (P.underlying t) x y).map λb=> .bool (!b))
def Tn (op:BinOp) (ks:List Kd) (as bs:List D):Option D:=
 tE op ((eqK ks as bs).map .bool) ((eqK ks as bs).map λb=> .bool (!b))
def sG (op:BinOp) (k k':IntKind) (a b:Int):Option D:=
 match op with
 | .shl=>Zs op k a b
 | .shr=>Zs op k a b
 |_=>if k=k' then VZ op k a b else none
def To (P:Program) (op:BinOp) (t:TypeId) (r:Bool):Option D:=
 match P.underlying t with
 |some (.interface _)=>tE op (some (.bool r)) (some (.bool (!r)))
 |_=>none
def Ia (P:Program) (op:BinOp) (t:TypeId):Option D:=
 match P.underlying t with
 |some (.pointer e)=>match P.info? e with
  |some _=>tE op (some (.bool true)) (some (.bool false))
  |none=>none
 |_=>none
def isC:Operand->Bool
 | .const _=>true
 |_=>false
def pb (P:Program) (op:BinOp) (t:TypeId) (c:Bool) (x y:D):Option D:=
 match x with
 | .niliface=>match y with
  | .niliface=>if c then To P op t true else none
  | .iface _ _=>To P op t false
  |_=>none
 | .iface _ _=>match y with
  | .niliface=>To P op t false
  |_=>none
 | .int k a=>match y with
  | .int k' b=>sG op k k' a b
  |_=>none
 | .str a=>match y with
  | .str b=>Lo op a b
  |_=>none
 | .agg as=>match y with
  | .agg bs=>match eqT P t with
   |some ks=>Tn op ks as bs
   |none=>none
  |_=>none
 | .ptr i a=>match y with
  | .ptr j b=>match Nat.beq i j&&Nat.beq a b with
   |true=>Ia P op t
   |false=>none
  |y=>IZ P op t (.ptr i a) y
 |x=>IZ P op t x y
def vun (op:UnOp) (x:D):Option D:=
 match op,x with
 | .neg, .int k n=>some (.int k (k.wrap (0-n)))
 | .not, .bool b=>some (.bool !b)
 |_,_=>none
def zM (ag:Bool) (n:Nat) (cs:List D) (off:Nat):Option D:=
 if ag then(if n=0 then none else if off+n<=cs.length then some (.agg ((cs.drop off).take n)) else none) else cs[off]?
def yU (cs vs:List D) (off:Nat):List D:=cs.take off++vs++cs.drop (off+vs.length)
def agT (P:Program) (t:TypeId):Option Bool:=
 match P.underlying t with
 |some (.struct _)=>some true
 |some (.array _ _)=>some true
 |some _=>some false
 |none=>none
def szT (P:Program) (t:TypeId):Nat:=P.cellsOf t
def qK (P:Program) (t:TypeId):Option D:=
 match(P.info? t).bind (·.zero) with
 |some z=>if rO z then some (cst z) else none
 |none=>none
def zl (P:Program) (t:TypeId) (f:Nat):Option (Nat×TypeId):=
 match P.underlying t with
 |some (.struct fs)=>match fs[f]? with
  |some f=>some (f.offset,f.type)
  |none=>none
 |_=>none
def qO (P:Program) (t:TypeId):Option TypeId:=
 match P.underlying t with
 |some (.slice e)=>some e
 |_=>none
def cJ (P:Program) (t:TypeId):Option (Nat×TypeId):=
 match P.underlying t with
 |some (.array n e)=>some (n,e)
 |_=>none
abbrev VR:=Option (D×Heap)
def sH (P:Program) (t:TypeId) (a:D) (h:Heap):Option D:=
 match agT P t with
 |none=>none
 |some ag=>
  match a with
  | .iptr cs off=>zM ag (szT P t) cs off
  | .ptr id off=>match h.at' id with
   |some (.row cs)=>zM ag (szT P t) cs off
   |some (.trow _ _ cs)=>zM ag (szT P t) cs off
   |_=>none
  |_=>none
def zP (P:Program) (t:TypeId) (a x:D) (h:Heap):Option Heap:=
 match a with
 | .ptr id off=>match h.at' id with
  |some (.row cs)=>
   if szT P t≠0&&x.cells.length=szT P t&&off+x.cells.length<=cs.length&&x.cells.all D.flat then some (h.set id (.row (yU cs x.cells off))) else none
  |some (.trow u b cs)=>
   if szT P t≠0&&x.cells.length=szT P t&&off+x.cells.length<=cs.length&&x.cells.all D.flat then some (h.set id (.trow u b (yU cs x.cells off))) else none
  |_=>none
 |_=>none
def t7 (P:Program) (s:TypeId) (x:D) (f:Nat):Option D:=
 match zl P s f with
 |some (off,ft)=>
  if szT P ft=0 then none else
  match x with
  | .iptr cs o=>some (.iptr cs (o+off))
  | .ptr id o=>some (.ptr id (o+off))
  |_=>none
 |none=>none
def zQ (P:Program) (t:TypeId) (x i:D):Option D:=
 match i with
 | .int _ n=>
  match qO P t with
  |some e=>
   match x with
   | .sl sz xs _=>if sz=szT P e then(if 0<=n then(match xs[n.toNat]? with|some c=>some (.iptr c 0)|none=>none) else none) else none
   | .rs id sz off len=>if sz=szT P e&&decide (0<=n)&&decide (n<len) then some (.ptr id (off+n.toNat*sz)) else none
   |_=>none
  |none=>
   match cJ P t with
   |some (len,e)=>
    if decide (0<=n)&&decide (n<len)&&decide (szT P e≠0) then
     match x with
     | .iptr cs o=>some (.iptr cs (o+n.toNat*szT P e))
     | .ptr id o=>some (.ptr id (o+n.toNat*szT P e))
     |_=>none
    else none
   |none=>none
 |_=>none
def tF (P:Program) (t:TypeId) (x i:D):Option D:=
 match i with
 | .int _ n=>
  match x with
  | .str s=>match P.underlying t with
   |some .string=>if 0<=n then(match s[n.toNat]? with|some b=>some (.int .u8 b.toNat)|none=>none) else none
   |_=>none
  | .agg cs=>
   match cJ P t with
   |some (len,e)=>match agT P e with
    |some ag=>if decide (0<=n)&&decide (n<len) then zM ag (szT P e) cs (n.toNat*szT P e) else none
    |none=>none
   |none=>none
  |_=>none
 |_=>none
def cK (n:Nat):Option D->Option Nat
 |none=>some n
 |some (.int _ h)=>if decide (0<=h)&&decide (h<=n) then some h.toNat else none
 |some _=>none
def Zo (h:Nat):Option D->Option Nat
 |none=>some 0
 |some (.int _ l)=>if decide (0<=l)&&decide (l<=h) then some l.toNat else none
 |some _=>none
def wM (n:Nat) (lo hi:Option D):Option (Nat×Nat):=
 match cK n hi with
 |none=>none
 |some h=>match Zo h lo with
  |none=>none
  |some l=>some (l,h)
def X2 (hi:Nat) (n:Nat):Tk->Tk
 | .full=>if hi=n then .full else .no
 |_=> .no
def rp (n:Nat) (lo:Option D) (hi m:D):Option (Nat×Nat):=
 match cK n (some m) with
 |none=>none
 |some mm=>match cK mm (some hi) with
  |none=>none
  |some u=>if u=mm then(match Zo u lo with
   |none=>none
   |some l=>some (l,u)) else none
def X3 (P:Program) (t:TypeId) (x:D) (lo:Option D) (hi m:D):Option D:=
 match qO P t with
 |none=>none
 |some e=>if szT P e=0 then none else
  match x with
  | .sl sz xs _=>if sz=szT P e then(match rp xs.length lo hi m with
   |some (l,u)=>some (.sl sz ((xs.take u).drop l) .full)
   |none=>none) else none
  | .rs _ sz _ len=>if sz=szT P e then(match rp len lo hi m with
   |some (l,u)=>if l=u then some (.sl sz [] .full) else none
   |none=>none) else none
  | .nilsl=>match rp 0 lo hi m with
   |some _=>some .nilsl
   |none=>none
  |_=>none
def pc (P:Program) (t:TypeId) (x:D) (lo hi mx:Option D):Option D:=
 match mx with
 |some m=>match hi with
  |some hi=>X3 P t x lo hi m
  |none=>none
 |none=>
  match x with
  | .str s=>match P.underlying t with
   |some .string=>match wM s.length lo hi with
    |some (l,h)=>some (.str ((s.take h).drop l))
    |none=>none
   |_=>none
  | .sl sz xs tk=>match qO P t with
   |some e=>if sz=szT P e then(match wM xs.length lo hi with
    |some (l,h)=>some (.sl sz ((xs.take h).drop l) (X2 h xs.length tk))
    |none=>none) else none
   |none=>none
  | .rs id sz off len=>match qO P t with
   |some e=>if sz=szT P e then(match wM len lo hi with
    |some (l,h)=>some (.rs id sz (off+l*sz) (h-l))
    |none=>none) else none
   |none=>none
  | .nilsl=>match qO P t with
   |some e=>if szT P e=0 then none else match wM 0 lo hi with
    |some _=>some .nilsl
    |none=>none
   |none=>none
  |_=>none
def yH (sz:Nat):Nat->List D->List (List D)
 |0,_=>[]
 |n+1,cs=>cs.take sz::yH sz n (cs.drop sz)
def bu (P:Program) (n:Nat) (e:TypeId) (x:D) (lo hi:Option D) (h:Heap):Option D:=
 if decide (0<szT P e)&&decide (n<=lim) then
  match wM n lo hi with
  |none=>none
  |some (l,u)=>match x with
   | .ptr id off=>match h.at' id with
    |some (.row cs)=>if off+n*szT P e<=cs.length then some (.rs id (szT P e) (off+l*szT P e) (u-l)) else none
    |_=>none
   | .iptr cs off=>if off+n*szT P e<=cs.length then some (.sl (szT P e) (((yH (szT P e) n (cs.drop off)).take u).drop l) (if u=n then .full else .no)) else none
   |_=>none
 else none
def yh (P:Program) (t:TypeId) (x:D) (lo hi mx:Option D) (h:Heap):Option D:=
 match cJ P t with
 |some (n,e)=>match mx with
  |none=>bu P n e x lo hi h
  |some _=>none
 |none=>pc P t x lo hi mx
def qB (place:Nat->Option (Nat×Nat)) (cs:List D):List (Nat×D)->Option (List D)
 | []=>some cs
 |(i,d)::rest=>match place i with
  |none=>none
  |some (off,size)=>if d.notTuple&&d.cells.length=size&&off+size<=cs.length then qB place (yU cs d.cells off) rest else none
def gA (P:Program):List Field->Option (List (Nat×Nat))
 | []=>some []
 |f::fs=>if szT P f.type=0 then none else(gA P fs).map ((f.offset,szT P f.type):: ·)
def wi (P:Program) (t:TypeId):Option (List (Nat×Nat)):=
 match P.underlying t with
 |some (.struct fs)=>gA P fs.toList
 |_=>none
def zt (P:Program) (t:TypeId) (parts:List (Nat×D)):Option D:=
 match qK P t with
 |none=>none
 |some z=>
  if !z.notTuple then none else
  match wi P t with
  |some ps=>(qB (λi=>ps[i]?) z.cells parts).map .agg
  |none=>match cJ P t with
   |some (_,e)=>if szT P e=0 then none else(qB (λi=>some (i*szT P e,szT P e)) z.cells parts).map .agg
   |none=>none
def si (n:Nat) (z:List D):List D:=(List.replicate n z).flatten
def zI (P:Program) (mu:Bool) (nid:Nat) (t:TypeId) (n:Nat) (parts:List (Nat×D)) (h:Heap):VR:=
 match qO P t with
 |none=>none
 |some e=>
  match qK P e with
  |none=>none
  |some z=>
   let sz:=szT P e
   if z.notTuple&&z.cells.length=sz&&decide (0<sz)&&decide (n*sz<=16777216) then
    match qB (λi=>some (i*sz,sz)) (si n z.cells) parts with
    |none=>none
    |some cs=>if mu then some (.rs nid sz 0 n,h.new nid (.row cs)) else some (.sl sz (yH sz n cs) .full,h)
   else none
def ye (P:Program) (t:TypeId):Nat:=P.bytesOf t
def R7 (sz:Nat) (x:D) (h:Heap):Option (List D):=
 match x with
 | .sl s xs _=>if s=sz then some xs.flatten else none
 | .rs id s off n=>if s=sz then(match h.at' id with
  |some (.row cs)=>if off+n*sz<=cs.length then some ((cs.drop off).take (n*sz)) else none
  |_=>none) else none
 | .nilsl=>some []
 | .str s=>if sz=1 then some (s.map λb=> .int .u8 b.toNat) else none
 |_=>none
def gB (P:Program) (e:TypeId):Bool:=
 match qK P e with
 |some z=>z.cells.length==szT P e&&szT P e !=0
 |none=>false
def uZ (P:Program) (e:TypeId) (cs:List D):Obj:=
 match P.underlying e with
 |some (.int k)=>match k with
  | .u8=> .trow e false cs
  |_=> .row cs
 |_=> .row cs
def qf (P:Program) (mu:Bool) (nid:Nat) (e:TypeId) (sz m:Nat) (s:D) (ys:List D) (h:Heap):VR:=
 match s with
 | .nilsl=>
  if m=0 then some (.nilsl,h)
  else if m*ye P e<=lim&&decide (m<=lim) then
   (if mu then some (.rs nid sz 0 m,h.new nid (uZ P e ys)) else some (.sl sz (yH sz m ys) (.own nid),h.new nid .tok))
  else none
 | .sl sz' xs tk=>
  if sz'=sz&&decide ((xs.length+m)*ye P e<=lim)&&decide (xs.length+m<=lim) then
   match tk with
   | .no=>none
   | .full=>if m=0 then some (.sl sz xs .full,h) else if mu then some (.rs nid sz 0 (xs.length+m),h.new nid (uZ P e (xs.flatten++ys))) else some (.sl sz (xs++yH sz m ys) (.own nid),h.new nid .tok)
   | .own i=>match h.at' i with
    |some .tok=>if mu then none else some (.sl sz (xs++yH sz m ys) (.own nid),(h.del i).new nid .tok)
    |_=>none
  else none
 | .rs id sz' off n=>
  if mu&&decide (sz'=sz)&&decide (off=0)&&decide ((n+m)*ye P e<=lim)&&decide (n+m<=lim) then
   match h.at' id with
   |some (.row cs)=>if cs.length=n*sz then some (.rs nid sz 0 (n+m),(h.del id).new nid (.row (cs++ys))) else none
   |some (.trow e2 full cs)=>match full with
    |true=>none
    |false=>if decide (e2=e)&&decide (cs.length=n*sz) then some (.rs nid sz 0 (n+m),(h.del id).new nid (.trow e false (cs++ys))) else none
   |_=>none
  else none
 |_=>none
def zu (P:Program) (mu:Bool) (nid:Nat) (t:TypeId) (s x:D) (h:Heap):VR:=
 match qO P t with
 |none=>none
 |some e=>
  if gB P e then
   match R7 (szT P e) x h with
   |none=>none
   |some ys=>qf P mu nid e (szT P e) (ys.length/szT P e) s ys h
  else none
def qY (s x:D) (h:Heap):Heap:=
 match s with
 | .rs id sz _ n=>match x with
  | .rs _ _ _ _=>h
  |_=>match h.at' id with
   |some (.row cs)=>if decide (n*sz<cs.length) then h.set id (.row (cs.take (n*sz))) else h
   |_=>h
 |_=>h
def tj (P:Program) (mu:Bool) (nid:Nat) (t:TypeId) (s x:D) (h:Heap):VR:=
 match mu with
 |true=>zu P true nid t s x (qY s x h)
 |false=>zu P false nid t s x h
def tm (P:Program) (mu:Bool) (nid:Nat) (t u:TypeId) (s x:D) (h:Heap):VR:=
 match P.underlying u with
 |some (.int _)=>match qO P t with
  |some e=>match s with
   | .nilsl=>match x with
    | .int k n=>match k with
     | .i64=>match qK P e with
      |some z=>if mu&&z.notTuple&&decide (z.cells.length=szT P e)&&decide (0<szT P e)&&decide (0<n)&&decide (n.toNat*ye P e<=lim)&&decide (n.toNat<=lim) then
       some (.rs nid (szT P e) 0 n.toNat,h.new nid (uZ P e (si n.toNat z.cells))) else none
      |none=>none
     |_=>none
    |_=>none
   |_=>none
  |none=>none
 |_=>none
def tU (P:Program) (t:TypeId) (x:D) (_:Heap):Option D:=
 match x with
 | .str s=>match P.underlying t with
  |some .string=>some (.int .i64 s.length)
  |_=>none
 | .sl _ xs _=>match P.underlying t with
  |some (.slice _)=>some (.int .i64 xs.length)
  |_=>none
 | .rs _ _ _ n=>match P.underlying t with
  |some (.slice _)=>some (.int .i64 n)
  |_=>none
 | .nilsl=>match P.underlying t with
  |some (.slice _)=>some (.int .i64 0)
  |_=>none
 | .nilmap=>match P.underlying t with
  |some (.map _ _)=>some (.int .i64 0)
  |_=>none
 |_=>none
def qP (P:Program) (mu:Bool) (nid:Nat) (t:TypeId) (l c:D) (h:Heap):VR:=
 match qO P t,l,c with
 |some e, .int _ l, .int _ c=>
  match qK P e with
  |some z=>
   let sz:=szT P e
   if z.notTuple&&z.cells.length=sz&&decide (0<sz)&&decide (0<=l)&&decide (l=c)&&decide (l.toNat*ye P e<=lim)&&decide (l.toNat<=lim) then
    (if mu then some (.rs nid sz 0 l.toNat,h.new nid (.row (si l.toNat z.cells))) else some (.sl sz (List.replicate l.toNat z.cells) .full,h))
   else none
  |none=>none
 |_,_,_=>none
def sy (ks:List Kd) (k:D):List (D×D)->Option (Option D)
 | []=>some none
 |(k',v)::es=>match eqK ks k.cells k'.cells with
  |some true=>some (some v)
  |some false=>sy ks k es
  |none=>none
def Va (ks:List Kd) (k v:D):List (D×D)->Option (List (D×D))
 | []=>some [(k,v)]
 |(k',v')::es=>match eqK ks k.cells k'.cells with
  |some true=>some ((k,v)::es)
  |some false=>(Va ks k v es).map ((k',v'):: ·)
  |none=>none
def Vb (P:Program) (t:TypeId):Option (TypeId×TypeId):=
 match P.underlying t with
 |some (.map k e)=>some (k,e)
 |_=>none
def zV:Bool->D->Bool
 |true, .agg _=>true
 |true,_=>false
 |false, .agg _=>false
 |false,_=>true
def Vc (P:Program) (t:TypeId):Option (Bool×List Kd):=
 match wg P 8 t,agT P t with
 |some ks,some ag=>some (ag,ks)
 |_,_=>none
def de (m:D) (h:Heap):Option (List (D×D)):=
 match m with
 | .nilmap=>some []
 | .map id=>match h.at' id with
  |some (.map es)=>some es
  |_=>none
 |_=>none
def o5 (ok:Bool) (z:D):Option D->D
 |some v=>if ok then .tuple [v, .bool true] else v
 |none=>if ok then .tuple [z, .bool false] else z
def pd (ag:Bool) (ks:List Kd) (z k:D) (ok:Bool) (es:List (D×D)):Option D:=
 if zV ag k&&(eqK ks k.cells k.cells).isSome&&es.all (λx=>zV ag x.1) then
  match sy ks k es with
  |some o=>some (o5 ok z o)
  |none=>none
 else none
def yi (P:Program) (t:TypeId) (m k:D) (ok:Bool) (h:Heap):Option D:=
 match Vb P t with
 |none=>none
 |some (kt,e)=>
  match Vc P kt with
  |none=>none
  |some (ag,ks)=>
   match qK P e with
   |none=>none
   |some z=>
    match de m h with
    |none=>none
    |some es=>pd ag ks z k ok es
def yV (P:Program) (t:TypeId) (m k v:D) (h:Heap):Option Heap:=
 match Vb P t with
 |none=>none
 |some (kt,_)=>
  match Vc P kt with
  |some (ag,ks)=>
   match m with
   | .map id=>match h.at' id with
    |some (.map es)=>if zV ag k&&(eqK ks k.cells k.cells).isSome&&es.all (λx=>zV ag x.1)&&(sy ks k es).isSome then(match Va ks k v es with
     |some es'=>some (h.set id (.map es'))
     |none=>none) else none
    |_=>none
   |_=>none
  |none=>none
def so (x:D) (i:Nat):Option D:=
 match x with
 | .tuple vs=>vs[i]?
 |_=>none
def uc:List D->Option (List UInt8)
 | []=>some []
 |d::ds=>match d with
  | .int k n=>match k with
   | .u8=>match uc ds with
    |some s=>some (UInt8.ofNat n.toNat::s)
    |none=>none
   |_=>none
  |_=>none
def u9 (P:Program) (src dst:TypeId) (x:D):Option D:=
 match x with
 | .int _ n=>match P.underlying src with
  |some (.int _)=>match P.underlying dst with
   |some (.int k)=>some (.int k (k.wrap n))
   |_=>none
  |_=>none
 | .str s=>match P.underlying src with
  |some .string=>match P.underlying dst with
   |some .string=>some (.str s)
   |some (.slice e)=>match P.underlying e with
    |some (.int .u8)=>some (.sl 1 (s.map λb=>[.int .u8 b.toNat]) .no)
    |_=>none
   |_=>none
  |_=>none
 | .sl sz xs _=>match P.underlying src with
  |some (.slice e)=>match P.underlying e with
   |some (.int .u8)=>match P.underlying dst with
    |some .string=>if sz=1 then(match uc xs.flatten with
     |some s=>some (.str s)
     |none=>none) else none
    |_=>none
   |_=>none
  |_=>none
 |_=>none
def QB (P:Program) (s d:TypeId) (id:Nat) (h:Heap):Option D:=
 match h.at' id with
 |some (.trow u full cs)=>match full with
  |true=>match P.underlying s with
   |some (.pointer t)=>match P.underlying d with
    |some .unsafePointer=>match P.info? t with
     |some j=>if decide (j.size≠0)&&decide (0<cs.length) then some (.ptr id 0) else none
     |none=>none
    |_=>none
   |some .unsafePointer=>match P.underlying d with
    |some (.pointer t)=>match P.info? t with
     |some _=>if liesAt P P.depth u (cs.length/P.cellsOf u) 0 t 1 then some (.ptr id 0) else none
     |none=>none
    |_=>none
   |_=>none
  |false=>none
 |_=>none
def np (P:Program) (s d:TypeId) (x:D) (h:Heap):Option D:=
 match x with
 | .ptr id off=>match off with
  |0=>QB P s d id h
  |_=>none
 |y=>u9 P s d y
def zBP (P:Program) (t:TypeId):Bool:=
 match P.underlying t with
 |some (.pointer _)=>true
 |some .unsafePointer=>true
 |_=>false
def ze (x:D):Option D:=
 match x with
 | .ptr id off=>some (.ptr id off)
 | .iptr cs off=>some (.iptr cs off)
 | .fn (.func f) a c=>some (.fn (.func f) a c)
 | .yld i=>some (.yld i)
 |_=>none
def R8:D->D->Option D
 | .int k a, .int k' b=>if k=k' then some (.int k (if b<a then b else a)) else none
 |_,_=>none
def lO (t:TypeId) (cs:List D):Obj:=
 match cs with
 | []=> .row []
 |d::ds=>match d with
  | .nilptr=>match ds with
   | []=> .row (d::ds)
   |e::es=>match e with
    | .nilsl=>match es with
     | []=> .trow t true (d::ds)
     |_=> .row (d::ds)
    |_=> .row (d::ds)
  |_=> .row (d::ds)
def L9:D->D->Option D
 | .int k a, .int k' b=>if k=k' then some (.int k (if b>a then b else a)) else none
 |_,_=>none
def X4:D->List D->Option D
 |x,[]=>some x
 |x,y::rest=>match L9 x y with
  |some z=>X4 z rest
  |none=>none
def uJ (P:Program) (t:TypeId):Bool:=
 match P.underlying t with
 |some (.int _)=>false
 |some _=>true
 |none=>false
def o6 (P:Program) (t:TypeId) (x:D) (h:Heap):Option Heap:=
 match x with
 | .nilsl=>match P.underlying t with
  |some (.slice _)=>some h
  |_=>none
 | .sl _ xs _=>match P.underlying t with
  |some (.slice _)=>if xs.length=0 then some h else none
  |_=>none
 | .rs id sz off n=>match qO P t with
  |none=>none
  |some e=>match qK P e with
   |none=>none
   |some z=>if n=0 then some h else if z.notTuple&&decide (z.cells.length=sz) then
     match h.at' id with
     |some (.row cs)=>if off+n*sz<=cs.length then some (h.set id (.row (yU cs (si n z.cells) off))) else none
     |_=>none
    else none
 | .map id=>match P.underlying t with
  |some (.map _ _)=>match h.at' id with
   |some (.map _)=>some (h.set id (.map []))
   |_=>none
  |_=>none
 |_=>none
def jY (P:Program) (e:TypeId) (id:Nat) (n:Int) (h:Heap):VR:=
 match h.at' id with
 |some (.trow e2 _ cs)=>
  if decide (e2=e)&&decide (szT P e=1)&&decide (0<n)&&decide (n.toNat<=cs.length)&&decide (n.toNat<=lim) then
   match uc (cs.take n.toNat) with
   |some s=>some (.str s,h.del id)
   |none=>none
  else none
 |_=>none
def rP (P:Program) (t:TypeId) (x y:D) (h:Heap):VR:=
 match P.underlying t with
 |some (.pointer e)=>match P.underlying e with
  |some (.int .u8)=>match x with
   | .ptr id off=>match off with
    |0=>match y with
     | .int .i64 n=>jY P e id n h
     |_=>none
    |_=>none
   | .nilptr=>match y with
    | .int .i64 n=>if n=0 then some (.str [],h) else none
    |_=>none
   |_=>none
  |_=>none
 |_=>none
def tn (P:Program) (mu:Bool) (nid:Nat) (b:Builtin) (ats:List TypeId) (args:List D) (h:Heap):VR:=
 match b with
 | .len=>match ats with
  | [t]=>match args with
   | [x]=>(tU P t x h).map (·,h)
   |_=>none
  |_=>none
 | .append=>match ats with
  | [t,u]=>match args with
   | [s,x]=>if uJ P u then tj P mu nid t s x h else tm P mu nid t u s x h
   |_=>none
  |_=>none
 | .min=>match args with
  | [x,y]=>(R8 x y).map (·,h)
  |_=>none
 | .max=>match args with
  |x::y::rest=>(X4 x (y::rest)).map (·,h)
  |_=>none
 | .cap=>match ats with
  | [t]=>match args with
   | [x]=>match x with
    | .nilsl=>match P.underlying t with
     |some (.slice _)=>some (.int .i64 0,h)
     |_=>none
    |_=>none
   |_=>none
  |_=>none
 | .unsafeSliceData=>match ats with
  | [_]=>match args with
   | [x]=>match x with
    | .rs id _ off n=>match n,off with
     |0,_=>none
     |_,0=>some (.ptr id 0,h)
     |_,_=>none
    | .nilsl=>some (.nilptr,h)
    |_=>none
   |_=>none
  |_=>none
 | .unsafeString=>match ats with
  | [t,_]=>match args with
   | [x,y]=>rP P t x y h
   |_=>none
  |_=>none
 | .clear=>match ats with
  | [t]=>match args with
   | [x]=>(o6 P t x h).map (wO,·)
   |_=>none
  |_=>none
 |_=>none
def CT (P:Program) (t:TypeId):Bool:=
 match P.underlying t with
 |some (.interface _)=>false
 |some _=>true
 |none=>false
def Ib (P:Program) (t:TypeId) (x:D) (f:Nat):Option D:=
 match zl P t f with
 |some (off,ft)=>match x with
  | .agg cs=>match agT P ft with
   |some ag=>zM ag (szT P ft) cs off
   |none=>none
  |_=>none
 |none=>none
def wQ (s:List UInt8) (pos:Nat):Nat×Nat:=Utf8.decode ⟨s.toArray⟩ pos
def df (x:D) (isS:Bool) (h:Heap):VR:=
 match x with
 | .ptr id off=>match h.at' id with
  |some (.siter s pos)=>
   if isS&&decide (off=0) then
    if pos<s.length then
     (if decide (s.length<=lim)&&IntKind.i32.wrap (wQ s pos).1==((wQ s pos).1:Int) then some (.tuple [.bool true, .int .i64 pos, .int .i32 (wQ s pos).1],h.set id (.siter s (pos+(wQ s pos).2))) else none)
    else some (.tuple [.bool false],h)
   else none
  |_=>none
 |_=>none
def kR (P:Program) (nid:Nat) (t:TypeId) (x:D) (h:Heap):VR:=
 match x with
 | .str s=>match P.underlying t with
  |some .string=>some (.ptr nid 0,h.new nid (.siter s 0))
  |_=>none
 |_=>none
def vop (P:Program) (mu:Bool) (nid:Nat) (o:Op) (ev:Operand->D) (h:Heap):VR:=
 match o with
 | .move x=>some (ev x,h)
 | .assign x=>some (ev x,h)
 | .pick c a b=>match ev c with
  | .bool true=>some (ev a,h)
  | .bool false=>some (ev b,h)
  |_=>none
 | .alloc t=>match qK P t with
  |some z=>if z.notTuple then some (.ptr nid 0,h.new nid (lO t z.cells)) else none
  |none=>none
 | .box _ x=>if(ev x).notTuple then(if mu then some (.ptr nid 0,h.new nid (.row (ev x).cells)) else some (.iptr (ev x).cells 0,h)) else none
 | .build t parts=>(zt P t (parts.toList.map λp=>(p.1,ev p.2))).map (·,h)
 | .buildSlice t n parts=>zI P mu nid t n (parts.toList.map λp=>(p.1,ev p.2)) h
 | .load t a=>(sH P t (ev a) h).map (·,h)
 | .store t a x=>(zP P t (ev a) (ev x) h).map (wO,·)
 | .nilCheck x=>(ze (ev x)).map (·,h)
 | .binOp op t x y _=>(pb P op t (isC x||isC y) (ev x) (ev y)).map (·,h)
 | .unOp op _ x=>(vun op (ev x)).map (·,h)
 | .convert s d x=>(np P s d (ev x) h).map (·,h)
 | .makeFunc g a c=>match g with
  | .func f=>some (.fn (.func f) (a.toList.map ev) (c.toList.map ev),h)
  |_=>none
 | .makeMap _ r=>match r with
  |none=>some (.map nid,h.new nid (.map []))
  |some _=>none
 | .makeSlice t l c=>qP P mu nid t (ev l) (ev c) h
 | .slice t x lo hi mx=>(yh P t (ev x) (lo.map ev) (hi.map ev) (mx.map ev) h).map (·,h)
 | .fieldAddr s x f=>(t7 P s (ev x) f).map (·,h)
 | .field s x f=>(Ib P s (ev x) f).map (·,h)
 | .indexAddr t x i=>(zQ P t (ev x) (ev i)).map (·,h)
 | .index t x i=>(tF P t (ev x) (ev i)).map (·,h)
 | .lookup t m k ok=>(yi P t (ev m) (ev k) ok h).map (·,h)
 | .mapUpdate t m k v=>(yV P t (ev m) (ev k) (ev v) h).map (wO,·)
 | .insert t m k v=>(yV P t (ev m) (ev k) (ev v) h).map (wO,·)
 | .extract x i=>(so (ev x) i).map (·,h)
 | .range t x=>kR P nid t (ev x) h
 | .next x isS=>df (ev x) isS h
 | .makeInterface t x=>if CT P t then some (.iface t (ev x),h) else none
 | .call c=>match c.callee with
  | .builtin b=>tn P mu nid b c.argTypes.toList (c.args.toList.map ev) h
  |_=>none
 |_=>none
end Go.V
