/- A machine of abstract values for programs of the model, and its soundness, part 1. No condition. -/
import Derived.RangeFuncLeaves
import Derived.OrdersIn
import Derived.TacticsIn
import Derived.Laws.AppendOwn
import Derived.Below
set_option linter.all false
set_option maxHeartbeats 8000000
namespace Go.V
theorem ow{p:Prop}(h:p:=by omega):p:=h
theorem ip{c:Prop}{_:Decidable c}(h:c){α:Sort _}{t e:α}:ite c t e=t:=if_pos h
theorem iq{c:Prop}{_:Decidable c}(h:¬c){α:Sort _}{t e:α}:ite c t e=e:=if_neg h
def xc(l:List Nat)(t:Nat):Bool:=List.contains l t
@[go_sem] theorem xE(l:List Nat)(t:Nat):xc l t=List.contains l t:=(rfl)
theorem kr{p:Prop}(h:p:=by kernel_rfl):p:=h
def mq:=@Array.any_eq_true'
def sr:=@Array.ext'
def wx:=@Array.getD_eq_getD_getElem?
def tm:=@Array.getElem?_append_left
def t8:=@Array.getElem?_eq_getElem
def s8:=@Array.getElem?_eq_none
def yE:=@Array.getElem?_eq_some_iff
def rI:=@Array.getElem?_modify
def tA:=@Array.getElem?_setIfInBounds
def qX:=@Array.getElem?_toList
def yJ:=@Array.length_toList
def mC:=@Array.toList_append
def uI:=@Array.toList_map
def dA:=@Bool.and_assoc
def oe:=@Bool.and_eq_false_iff
def zC:=@Bool.and_eq_true
def qK:=@Bool.and_false
def yr:=@Bool.and_self
def qd:=@Bool.and_true
def ka:=@Bool.beq_comm
def tR:=@Bool.eq_iff_iff
def yV:=@Bool.false_and
def zW:=@Bool.false_eq_true
def zf:=@Bool.false_ne_true
def qe:=@Bool.false_or
def pk:=@Bool.not_eq_false'
def nC:=@Bool.not_eq_true
def qF:=@Bool.not_eq_true'
def qY:=@Bool.not_false
def wX:=@Bool.not_not
def wH:=@Bool.not_true
def wQ:=@Bool.or_eq_false_iff
def yS:=@Bool.or_eq_true
def wA:=@Bool.or_false
def wj:=@Bool.or_self
def wk:=@Bool.or_true
def yL:=@Bool.true_and
def qy:=@Bool.true_or
def jv:=@DataW.trod_bool
def dB:=@DataW.trod_int
def jc:=@DataW.trod_slice
def kA:=@DataW.trod_string
def kC:=@DataW.trod_struct
def kb:=@Int.eq_ofNat_of_zero_le
def ke:=@Int.le_refl
def zF:=@Int.ofNat_zero
def rY:=@Int.toNat_natCast
def uf:=@List.all_append
def tB:=@List.all_cons
def ze:=@List.all_eq_true
def jw:=@List.any_append
def sQ:=@List.any_cons
def rZ:=@List.any_eq_false
def yZ:=@List.any_eq_true
def ah:=@List.any_map
def z8:=@List.append_assoc
def jo:=@List.append_eq_nil_iff
def zp:=@List.append_nil
def mD:=@List.attach_map_subtype_val
def rJ:=@List.cons.injEq
def z9:=@List.cons_append
def rt:=@List.contains_eq_mem
def nP:=@List.count_le_length
def jd:=@List.drop_append
def nD:=@List.drop_append_of_le_length
def tI:=@List.drop_drop
def z6:=@List.drop_eq_getElem_cons
def wp:=@List.drop_eq_nil_of_le
def tr:=@List.drop_length
def wq:=@List.drop_of_length_le
def mF:=@List.drop_set_of_lt
def dC:=@List.drop_take
def uX:=@List.drop_zero
def yM:=@List.eq_nil_of_length_eq_zero
def jx:=@List.eq_nil_or_concat
def oC:=@List.ext_getElem?
def rC:=@List.filter_append
def sd:=@List.filter_cons
def kg:=@List.filter_cons_of_neg
def uY:=@List.findIdx?_eq_none_iff
def ql:=@List.findIdx?_eq_some_iff_getElem
def dU:=@List.findIdx_append
def tS:=@List.flatMap_append
def tP:=@List.flatMap_cons
def je:=@List.flatMap_nil
def yc:=@List.flatten_cons
def zK:=@List.getD_eq_getElem?_getD
def yk:=@List.getElem?_append_left
def yf:=@List.getElem?_append_right
def tC:=@List.getElem?_cons_succ
def wb:=@List.getElem?_cons_zero
def yh:=@List.getElem?_drop
def zE:=@List.getElem?_eq_getElem
def og:=@List.getElem?_eq_none
def pA:=@List.getElem?_eq_none_iff
def zR:=@List.getElem?_eq_some_iff
def yK:=@List.getElem?_map
def yC:=@List.getElem?_take
def tu:=@List.getElem?_toArray
def p8:=@List.getElem_cons_succ
def zG:=@List.getElem_mem
def om:=@List.getElem_set_self
def s9:=@List.head?_eq_getElem?
def zM:=@List.length_append
def zm:=@List.length_cons
def uw:=@List.length_drop
def yv:=@List.length_eq_zero_iff
def qM:=@List.length_filter_le
def zI:=@List.length_map
def yw:=@List.length_nil
def yF:=@List.length_pos_iff
def kE:=@List.length_range
def dV:=@List.length_reverse
def rK:=@List.length_set
def ug:=@List.length_singleton
def z7:=@List.length_take
def lP:=@List.lt_irrefl
def yX:=@List.map_append
def wI:=@List.map_congr_left
def qL:=@List.map_cons
def qU:=@List.map_eq_nil_iff
def qm:=@List.map_map
def rL:=@List.map_nil
def mr:=@List.map_set
def nW:=@List.map_take
def jh:=@List.map_toArray
def yD:=@List.mem_append
def qV:=@List.mem_append_left
def qn:=@List.mem_append_right
def zt:=@List.mem_cons
def qI:=@List.mem_cons_of_mem
def mv:=@List.mem_cons_self
def pn:=@List.mem_filter
def zw:=@List.mem_flatMap
def yH:=@List.mem_iff_getElem
def yY:=@List.mem_iff_getElem?
def zT:=@List.mem_map
def lQ:=@List.mem_of_find?_eq_some
def zh:=@List.mem_of_getElem?
def jy:=@List.mem_of_mem_head?
def lR:=@List.mem_or_eq_of_mem_set
def uZ:=@List.mem_range
def zY:=@List.mem_singleton
def pB:=@List.mem_take_iff_getElem
def yT:=@List.nil_append
def cL:=@List.nil_perm
def po:=@List.nodup_cons
def lS:=@List.nodup_nil
def wr:=@List.not_mem_nil
def wg:=@List.pairwise_append
def qQ:=@List.pairwise_cons
def ua:=@List.pairwise_iff_getElem
def kF:=@List.pairwise_map
def tD:=@List.pairwise_singleton
def nE:=@List.perm_middle
def sG:=@List.range_succ
def wJ:=@List.replicate_succ
def dW:=@List.replicate_zero
def oo:=@List.set_append_right
def mw:=@List.set_cons_zero
def jz:=@List.singleton_append
def qi:=@List.size_toArray
def yp:=@List.take_append_drop
def uy:=@List.take_append_of_le_length
def j0:=@List.take_left'
def zb:=@List.take_length
def yj:=@List.take_of_length_le
def km:=@List.take_one
def mG:=@List.take_set_of_le
def mH:=@List.take_succ_cons
def zH:=@List.take_succ_eq_append_getElem
def ss:=@List.take_zero
def pp:=@List.zip_cons_cons
def wB:=@Nat.add_assoc
def j5:=@Nat.add_comm
def wF:=@Nat.add_mul
def uA:=@Nat.add_sub_cancel
def pq:=@Nat.add_sub_cancel_left
def wl:=@Nat.add_zero
def bn:=@Nat.blt_eq
def ou:=@Nat.div_lt_iff_lt_mul
def yq:=@Nat.eq_of_beq_eq_true
def my:=@Nat.eq_zero_or_pos
def jj:=@Nat.le_max_right
def mz:=@Nat.le_of_lt
def zD:=@Nat.le_refl
def za:=@Nat.le_trans
def uB:=@Nat.lt_irrefl
def zy:=@Nat.lt_of_lt_of_le
def j6:=@Nat.lt_or_ge
def zo:=@Nat.lt_succ_iff_lt_or_eq
def se:=@Nat.lt_succ_self
def mI:=@Nat.min_eq_left
def jk:=@Nat.mod_eq_of_lt
def fC:=@Nat.mod_lt
def tn:=@Nat.mod_two_eq_zero_or_one
def pU:=@Nat.mul_comm
def ur:=@Nat.mul_div_cancel
def dD:=@Nat.mul_le_mul
def yW:=@Nat.mul_le_mul_right
def uz:=@Nat.mul_one
def aj:=@Nat.ne_of_lt
def zj:=@Nat.not_lt_zero
def dX:=@Nat.one_mul
def an:=@Nat.sub_self
def tv:=@Nat.sub_zero
def nF:=@Nat.succ_lt_succ
def qf:=@Nat.succ_mul
def yo:=@Nat.zero_add
def yg:=@Nat.zero_le
def pV:=@Nat.zero_mul
def j7:=@Ne.symm
def sR:=@Option.bind_eq_some_iff
def sf:=@Option.bind_some
def zA:=@Option.getD_some
def uu:=@Option.isSome_iff_exists
def rD:=@Option.isSome_none
def tz:=@Option.isSome_some
def zZ:=@Option.map_eq_some_iff
def qo:=@Option.map_some
def rM:=@Option.some.inj
def wt:=@Option.some.injEq
def zX:=@Result.andThen_ok
def zu:=@Sem.run_bind
def yG:=@Sem.run_pure
def j8:=@UInt8.toNat_inj
def lT:=@World.alloc_eq
def wh:=@World.cell?_of_block
def zS:=@and_true
def qv:=@beq_eq_false_iff_ne
def yU:=@beq_iff_eq
def wM:=@beq_self_eq_true
def fD:=@bne_iff_ne
def ax:=@callsIn_wide
def zO:=@decide_eq_false
def yy:=@decide_eq_false_iff_not
def zN:=@decide_eq_true
def zP:=@decide_eq_true_eq
def uk:=@decide_false
def uQ:=@decide_true
def Yq:=@getD_set_ne
def uJ:=@getElem!_pos
def Yr:=@grownCap_ge
def yz:=@if_false
def qG:=@if_true
def ZE:=@not_or
def zq:=@of_decide_eq_false
def zg:=@of_decide_eq_true
def bG:=@or_assoc
def tN:=@or_congr_right
def lI:=@or_false
def aS:=@run_newObj
def sK:=@run_storeCells_at
def zU:=@run_underlying
def mZ:=@setRow_heap
def o8:=@setRow_other
def bN:=@setRow_output
def cB:=@setRow_size
def XZ:=@setRow_tape
def dN:=@size_zeroCells
def zQ:=@true_and
def kY:=@wpIn_mono
inductive Tk where
 |no|full|own (t:Nat)
inductive D where
 |bool (b:Bool)
 |int (k:IntKind) (n:Int)
 |str (s:List UInt8)
 |nilptr
 |ptr (id off:Nat)
 |iptr (cs:List D) (off:Nat)
 |nilsl
 |sl (sz:Nat) (xs:List (List D)) (tk:Tk)
 |rs (id sz off len:Nat)
 |nilmap
 |map (id:Nat)
 |fn (f:Fn) (first cap:List D)
 |yld (id:Nat)
 |nilfn
 |agg (cs:List D)
 |tuple (cs:List D)
 |iface (t:TypeId) (v:D)
 |niliface
abbrev Frm:=Nat->D
def sn:D:=.tuple []
structure LRec where
 st:LoopState
 pending:Option Code
 fr:Frm
 params:Array Tmp
 assign:Code
 body:Code
 n:Nat
inductive Obj where
 |row (cs:List D)
 |tok
 |map (es:List (D×D))
 |loop (r:LRec)
 |siter (s:List UInt8) (pos:Nat)
 |trow (t:TypeId) (full:Bool) (cs:List D)
structure Heap where
 next:Nat
 at':Nat->Option Obj
def Heap.set(h:Heap)(i:Nat)(o:Obj):Heap:= { next:=h.next,at':=λj=>if j=i then some o else h.at' j }
def Heap.del(h:Heap)(i:Nat):Heap:= { next:=h.next,at':=λj=>if j=i then none else h.at' j }
def Heap.new(h:Heap)(i:Nat)(o:Obj):Heap:= { next:=max h.next (i+1),at':=λj=>if j=i then some o else h.at' j }
def D.cells:D->List D
 |.agg cs=>cs
 |d=>[d]
def D.flat:D->Bool
 |.agg _=>false
 |.tuple _=>false
 |_=>true
def D.notTuple:D->Bool
 |.tuple _=>false
 |_=>true
def lim:Nat:=140737488355328
mutual
def cst:Value->D
 |.bool b=>.bool b
 |.int k n=>.int k n
 |.string s=>.str s.data.toList
 |.pointer none=>.nilptr
 |.slice none 0 0=>.nilsl
 |.map none=>.nilmap
 |.nilFunc=>.nilfn
 |.nilIface=>.niliface
 |.agg cs=>.agg (EA cs.toList)
 |.tuple cs=>.tuple (EA cs.toList)
 |_=>.tuple []
def EA:List Value->List D
 | []=>[]
 |v::vs=>cst v::EA vs
end
mutual
def kK:Value->Bool
 |.bool _=>true
 |.int k n=>k.wrap n==n
 |.string s=>decide (s.data.toList.length<=lim)
 |.pointer none=>true
 |.slice none 0 0=>true
 |.map none=>true
 |.nilFunc=>true
 |.nilIface=>true
 |.agg cs=>Yg cs.toList&&cs.toList.all (·.oneCell')
 |.tuple cs=>Yg cs.toList
 |_=>false
def Yg:List Value->Bool
 | []=>true
 |v::vs=>kK v&&Yg vs
end
def qt(fr:Frm):Operand->D
 |.tmp t=>fr t
 |.const v=>cst v
 |.global _=>.tuple []
 |.func f=>.fn (.func f) [] []
def l8(a b:List UInt8):Bool:=Op.bytesLess a b
def Nx(op:BinOp)(k:IntKind)(a b:Int):Option D:=
 match op with
 |.add=>some (.int k (k.wrap (a+b)))
 |.sub=>some (.int k (k.wrap (a-b)))
 |.mul=>some (.int k (k.wrap (a*b)))
 |.quo=>if b=0 then none else some (.int k (k.wrap (a.tdiv b)))
 |.rem=>if b=0 then none else some (.int k (a.tmod b))
 |.and=>some (.int k (k.wrap (BitVec.ofInt k.bits a &&& BitVec.ofInt k.bits b).toNat))
 |.or=>some (.int k (k.wrap (BitVec.ofInt k.bits a |||BitVec.ofInt k.bits b).toNat))
 |.xor=>some (.int k (k.wrap (BitVec.ofInt k.bits a ^^^ BitVec.ofInt k.bits b).toNat))
 |.andNot=>some (.int k (k.wrap (BitVec.ofInt k.bits a &&& ~~~BitVec.ofInt k.bits b).toNat))
 |.eql=>some (.bool (a==b))
 |.neq=>some (.bool (a !=b))
 |.lss=>some (.bool (decide (a<b)))
 |.leq=>some (.bool (decide (a<=b)))
 |.gtr=>some (.bool (decide (a>b)))
 |.geq=>some (.bool (decide (a>=b)))
 |_=>none
def Ru(op:BinOp)(k:IntKind)(a b:Int):Option D:=
 if b<0 then none else
 match op with
 |.shl=>some (.int k (k.wrap (a*2^ (min b.toNat k.bits))))
 |.shr=>some (.int k (a.fdiv (2^ (min b.toNat k.bits))))
 |_=>none
def Ia(op:BinOp)(a b:List UInt8):Option D:=
 match op with
 |.add=>if a.length+b.length<=lim then some (.str (a++b))else none
 |.eql=>some (.bool (a==b))
 |.neq=>some (.bool (!(a==b)))
 |.lss=>some (.bool (l8 a b))
 |.leq=>some (.bool (l8 a b||a==b))
 |.gtr=>some (.bool !(l8 a b||a==b))
 |.geq=>some (.bool !(l8 a b))
 |_=>none
inductive Kd where
 |b|i|s
def eqK:List Kd->List D->List D->Option Bool
 | [],[],[]=>some true
 |.b::ks,.bool x::as,.bool y::bs=>(eqK ks as bs).map (x==y&& ·)
 |.i::ks,.int k x::as,.int k' y::bs=>if k=k' then(eqK ks as bs).map (x==y&& ·)else none
 |.s::ks,.str x::as,.str y::bs=>(eqK ks as bs).map (x==y&& ·)
 |_,_,_=>none
def veq:Option TypeDesc->D->D->Option Bool
 |some .bool,.bool a,.bool b=>some (a==b)
 |some (.pointer _),.nilptr,.nilptr=>some true
 |some (.pointer _),.nilptr,.ptr _ _=>some false
 |some (.pointer _),.ptr _ _,.nilptr=>some false
 |some (.pointer _),.nilptr,.iptr _ _=>some false
 |some (.pointer _),.iptr _ _,.nilptr=>some false
 |some (.slice _),.nilsl,.nilsl=>some true
 |some (.slice _),.nilsl,.sl _ _ _=>some false
 |some (.slice _),.sl _ _ _,.nilsl=>some false
 |some (.slice _),.nilsl,.rs _ _ _ _=>some false
 |some (.slice _),.rs _ _ _ _,.nilsl=>some false
 |some (.map _ _),.nilmap,.nilmap=>some true
 |some (.map _ _),.nilmap,.map _=>some false
 |some (.map _ _),.map _,.nilmap=>some false
 |some (.func _ _ _),.nilfn,.nilfn=>some true
 |some (.func _ _ _),.nilfn,.fn _ _ _=>some false
 |some (.func _ _ _),.fn _ _ _,.nilfn=>some false
 |some (.func _ _ _),.nilfn,.yld _=>some false
 |some (.func _ _ _),.yld _,.nilfn=>some false
 |_,_,_=>none
def Yx(kd:TypeId->Option (List Kd))(sz:TypeId->Nat):List Field->Nat->Nat->Option (List Kd)
 | [],off,n=>if off==n then some []else none
 |f::fs,off,n=>
  if f.name != "_" &&f.offset==off&&sz f.type !=0 then
   match kd f.type with
   |some ks=>if ks.length==sz f.type then(Yx kd sz fs (off+ks.length) n).map (ks++ ·)else none
   |none=>none
  else none
def rp(P:Program):Nat->TypeId->Option (List Kd)
 |0,_=>none
 |d+1,t=>
  match P.underlying t with
  |some .bool=>if P.cellsOf t==1 then some [.b]else none
  |some (.int _)=>if P.cellsOf t==1 then some [.i]else none
  |some .string=>if P.cellsOf t==1 then some [.s]else none
  |some (.struct fs)=>if P.stoodInHeld t then none else Yx (rp P d) P.cellsOf fs.toList 0 (P.cellsOf t)
  |_=>none
def eqT(P:Program)(t:TypeId):Option (List Kd):=
 match P.underlying t with
 |some (.struct _)=>if P.eqGuardType P.depth t then none else rp P 8 t
 |_=>none
def oA(op:BinOp)(f g:Option D):Option D:=
 match op with
 |.eql=>f
 |.neq=>g
 |_=>none
def GU(P:Program)(op:BinOp)(t:TypeId)(x y:D):Option D:=
 oA op ((veq (P.underlying t) x y).map .bool) ((veq (P.underlying t) x y).map λb=>.bool (!b))
def LD(op:BinOp)(ks:List Kd)(as bs:List D):Option D:=
 oA op ((eqK ks as bs).map .bool) ((eqK ks as bs).map λb=>.bool (!b))
def mg(op:BinOp)(k k':IntKind)(a b:Int):Option D:=
 match op with
 |.shl=>Ru op k a b
 |.shr=>Ru op k a b
 |_=>if k=k' then Nx op k a b else none
def LP(P:Program)(op:BinOp)(t:TypeId)(r:Bool):Option D:=
 match P.underlying t with
 |some (.interface _)=>oA op (some (.bool r)) (some (.bool (!r)))
 |_=>none
def Ew(P:Program)(op:BinOp)(t:TypeId):Option D:=
 match P.underlying t with
 |some (.pointer e)=>match P.info? e with
  |some _=>oA op (some (.bool true)) (some (.bool false))
  |none=>none
 |_=>none
def isC:Operand->Bool
 |.const _=>true
 |_=>false
def fV(P:Program)(op:BinOp)(t:TypeId)(c:Bool)(x y:D):Option D:=
 match x with
 |.niliface=>match y with
  |.niliface=>if c then LP P op t true else none
  |.iface _ _=>LP P op t false
  |_=>none
 |.iface _ _=>match y with
  |.niliface=>LP P op t false
  |_=>none
 |.int k a=>match y with
  |.int k' b=>mg op k k' a b
  |_=>none
 |.str a=>match y with
  |.str b=>Ia op a b
  |_=>none
 |.agg as=>match y with
  |.agg bs=>match eqT P t with
   |some ks=>LD op ks as bs
   |none=>none
  |_=>none
 |.ptr i a=>match y with
  |.ptr j b=>match Nat.beq i j&&Nat.beq a b with
   |true=>Ew P op t
   |false=>none
  |y=>GU P op t (.ptr i a) y
 |x=>GU P op t x y
def vun(op:UnOp)(x:D):Option D:=
 match op,x with
 |.neg,.int k n=>some (.int k (k.wrap (0-n)))
 |.not,.bool b=>some (.bool !b)
 |_,_=>none
def yN(ag:Bool)(n:Nat)(cs:List D)(off:Nat):Option D:=
 if ag then(if n=0 then none else if off+n<=cs.length then some (.agg ((cs.drop off).take n))else none)else cs[off]?
def uG(cs vs:List D)(off:Nat):List D:=cs.take off++vs++cs.drop (off+vs.length)
def agT(P:Program)(t:TypeId):Option Bool:=
 match P.underlying t with
 |some (.struct _)=>some true
 |some (.array _ _)=>some true
 |some _=>some false
 |none=>none
def szT(P:Program)(t:TypeId):Nat:=P.cellsOf t
def sD(P:Program)(t:TypeId):Option D:=
 match(P.info? t).bind (·.zero)with
 |some z=>if kK z then some (cst z)else none
 |none=>none
def qr(P:Program)(t:TypeId)(f:Nat):Option (Nat×TypeId):=
 match P.underlying t with
 |some (.struct fs)=>match fs[f]? with
  |some f=>some (f.offset,f.type)
  |none=>none
 |_=>none
def tQ(P:Program)(t:TypeId):Option TypeId:=
 match P.underlying t with
 |some (.slice e)=>some e
 |_=>none
def X5(P:Program)(t:TypeId):Option (Nat×TypeId):=
 match P.underlying t with
 |some (.array n e)=>some (n,e)
 |_=>none
abbrev VR:=Option (D×Heap)
def kW(P:Program)(t:TypeId)(a:D)(h:Heap):Option D:=
 match agT P t with
 |none=>none
 |some ag=>
  match a with
  |.iptr cs off=>yN ag (szT P t) cs off
  |.ptr id off=>match h.at' id with
   |some (.row cs)=>yN ag (szT P t) cs off
   |some (.trow _ _ cs)=>yN ag (szT P t) cs off
   |_=>none
  |_=>none
def qP(P:Program)(t:TypeId)(a x:D)(h:Heap):Option Heap:=
 match a with
 |.ptr id off=>match h.at' id with
  |some (.row cs)=>
   if szT P t≠0&&x.cells.length=szT P t&&off+x.cells.length<=cs.length&&x.cells.all D.flat then some (h.set id (.row (uG cs x.cells off)))else none
  |some (.trow u b cs)=>
   if szT P t≠0&&x.cells.length=szT P t&&off+x.cells.length<=cs.length&&x.cells.all D.flat then some (h.set id (.trow u b (uG cs x.cells off)))else none
  |_=>none
 |_=>none
def n8(P:Program)(s:TypeId)(x:D)(f:Nat):Option D:=
 match qr P s f with
 |some (off,ft)=>
  if szT P ft=0 then none else
  match x with
  |.iptr cs o=>some (.iptr cs (o+off))
  |.ptr id o=>some (.ptr id (o+off))
  |_=>none
 |none=>none
def yP(P:Program)(t:TypeId)(x i:D):Option D:=
 match i with
 |.int _ n=>
  match tQ P t with
  |some e=>
   match x with
   |.sl sz xs _=>if sz=szT P e then(if 0<=n then(match xs[n.toNat]? with|some c=>some (.iptr c 0)|none=>none)else none)else none
   |.rs id sz off len=>if sz=szT P e&&decide (0<=n)&&decide (n<len)then some (.ptr id (off+n.toNat*sz))else none
   |_=>none
  |none=>
   match X5 P t with
   |some (len,e)=>
    if decide (0<=n)&&decide (n<len)&&decide (szT P e≠0)then
     match x with
     |.iptr cs o=>some (.iptr cs (o+n.toNat*szT P e))
     |.ptr id o=>some (.ptr id (o+n.toNat*szT P e))
     |_=>none
    else none
   |none=>none
 |_=>none
def kV(P:Program)(t:TypeId)(x i:D):Option D:=
 match i with
 |.int _ n=>
  match x with
  |.str s=>match P.underlying t with
   |some .string=>if 0<=n then(match s[n.toNat]? with|some b=>some (.int .u8 b.toNat)|none=>none)else none
   |_=>none
  |.agg cs=>
   match X5 P t with
   |some (len,e)=>match agT P e with
    |some ag=>if decide (0<=n)&&decide (n<len)then yN ag (szT P e) cs (n.toNat*szT P e)else none
    |none=>none
   |none=>none
  |_=>none
 |_=>none
def Zo(n:Nat):Option D->Option Nat
 |none=>some n
 |some (.int _ h)=>if decide (0<=h)&&decide (h<=n)then some h.toNat else none
 |some _=>none
def Xy(h:Nat):Option D->Option Nat
 |none=>some 0
 |some (.int _ l)=>if decide (0<=l)&&decide (l<=h)then some l.toNat else none
 |some _=>none
def to(n:Nat)(lo hi:Option D):Option (Nat×Nat):=
 match Zo n hi with
 |none=>none
 |some h=>match Xy h lo with
  |none=>none
  |some l=>some (l,h)
def Vh(hi:Nat)(n:Nat):Tk->Tk
 |.full=>if hi=n then .full else .no
 |_=>.no
def jW(n:Nat)(lo:Option D)(hi m:D):Option (Nat×Nat):=
 match Zo n (some m)with
 |none=>none
 |some mm=>match Zo mm (some hi)with
  |none=>none
  |some u=>if u=mm then(match Xy u lo with
   |none=>none
   |some l=>some (l,u))else none
def PZ(P:Program)(t:TypeId)(x:D)(lo:Option D)(hi m:D):Option D:=
 match tQ P t with
 |none=>none
 |some e=>if szT P e=0 then none else
  match x with
  |.sl sz xs _=>if sz=szT P e then(match jW xs.length lo hi m with
   |some (l,u)=>some (.sl sz ((xs.take u).drop l) .full)
   |none=>none)else none
  |.rs _ sz _ len=>if sz=szT P e then(match jW len lo hi m with
   |some (l,u)=>if l=u then some (.sl sz [] .full)else none
   |none=>none)else none
  |.nilsl=>match jW 0 lo hi m with
   |some _=>some .nilsl
   |none=>none
  |_=>none
def mj(P:Program)(t:TypeId)(x:D)(lo hi mx:Option D):Option D:=
 match mx with
 |some m=>match hi with
  |some hi=>PZ P t x lo hi m
  |none=>none
 |none=>
  match x with
  |.str s=>match P.underlying t with
   |some .string=>match to s.length lo hi with
    |some (l,h)=>some (.str ((s.take h).drop l))
    |none=>none
   |_=>none
  |.sl sz xs tk=>match tQ P t with
   |some e=>if sz=szT P e then(match to xs.length lo hi with
    |some (l,h)=>some (.sl sz ((xs.take h).drop l) (Vh h xs.length tk))
    |none=>none)else none
   |none=>none
  |.rs id sz off len=>match tQ P t with
   |some e=>if sz=szT P e then(match to len lo hi with
    |some (l,h)=>some (.rs id sz (off+l*sz) (h-l))
    |none=>none)else none
   |none=>none
  |.nilsl=>match tQ P t with
   |some e=>if szT P e=0 then none else match to 0 lo hi with
    |some _=>some .nilsl
    |none=>none
   |none=>none
  |_=>none
def wY(sz:Nat):Nat->List D->List (List D)
 |0,_=>[]
 |n+1,cs=>cs.take sz::wY sz n (cs.drop sz)
def Un(P:Program)(n:Nat)(e:TypeId)(x:D)(lo hi:Option D)(h:Heap):Option D:=
 if decide (0<szT P e)&&decide (n<=lim)then
  match to n lo hi with
  |none=>none
  |some (l,u)=>match x with
   |.ptr id off=>match h.at' id with
    |some (.row cs)=>if off+n*szT P e<=cs.length then some (.rs id (szT P e) (off+l*szT P e) (u-l))else none
    |_=>none
   |.iptr cs off=>if off+n*szT P e<=cs.length then some (.sl (szT P e) (((wY (szT P e) n (cs.drop off)).take u).drop l) (if u=n then .full else .no))else none
   |_=>none
 else none
def wi(P:Program)(t:TypeId)(x:D)(lo hi mx:Option D)(h:Heap):Option D:=
 match X5 P t with
 |some (n,e)=>match mx with
  |none=>Un P n e x lo hi h
  |some _=>none
 |none=>mj P t x lo hi mx
def tp(place:Nat->Option (Nat×Nat))(cs:List D):List (Nat×D)->Option (List D)
 | []=>some cs
 |(i,d)::rest=>match place i with
  |none=>none
  |some (off,size)=>if d.notTuple&&d.cells.length=size&&off+size<=cs.length then tp place (uG cs d.cells off) rest else none
def XM(P:Program):List Field->Option (List (Nat×Nat))
 | []=>some []
 |f::fs=>if szT P f.type=0 then none else(XM P fs).map ((f.offset,szT P f.type):: ·)
def nL(P:Program)(t:TypeId):Option (List (Nat×Nat)):=
 match P.underlying t with
 |some (.struct fs)=>XM P fs.toList
 |_=>none
def wO(P:Program)(t:TypeId)(parts:List (Nat×D)):Option D:=
 match sD P t with
 |none=>none
 |some z=>
  if !z.notTuple then none else
  match nL P t with
  |some ps=>(tp (λi=>ps[i]?) z.cells parts).map .agg
  |none=>match X5 P t with
   |some (_,e)=>if szT P e=0 then none else(tp (λi=>some (i*szT P e,szT P e)) z.cells parts).map .agg
   |none=>none
def nz(n:Nat)(z:List D):List D:=(List.replicate n z).flatten
def yB(P:Program)(mu:Bool)(nid:Nat)(t:TypeId)(n:Nat)(parts:List (Nat×D))(h:Heap):VR:=
 match tQ P t with
 |none=>none
 |some e=>
  match sD P e with
  |none=>none
  |some z=>
   let sz:=szT P e
   if z.notTuple&&z.cells.length=sz&&decide (0<sz)&&decide (n*sz<=16777216)then
    match tp (λi=>some (i*sz,sz)) (nz n z.cells) parts with
    |none=>none
    |some cs=>if mu then some (.rs nid sz 0 n,h.new nid (.row cs))else some (.sl sz (wY sz n cs) .full,h)
   else none
def uW(P:Program)(t:TypeId):Nat:=P.bytesOf t
def LF(sz:Nat)(x:D)(h:Heap):Option (List D):=
 match x with
 |.sl s xs _=>if s=sz then some xs.flatten else none
 |.rs id s off n=>if s=sz then(match h.at' id with
  |some (.row cs)=>if off+n*sz<=cs.length then some ((cs.drop off).take (n*sz))else none
  |_=>none)else none
 |.nilsl=>some []
 |.str s=>if sz=1 then some (s.map λb=>.int .u8 b.toNat)else none
 |_=>none
def X0(P:Program)(e:TypeId):Bool:=
 match sD P e with
 |some z=>z.cells.length==szT P e&&szT P e !=0
 |none=>false
def nU(P:Program)(e:TypeId)(cs:List D):Obj:=
 match P.underlying e with
 |some (.int k)=>match k with
  |.u8=>.trow e false cs
  |_=>.row cs
 |_=>.row cs
def th(P:Program)(mu:Bool)(nid:Nat)(e:TypeId)(sz m:Nat)(s:D)(ys:List D)(h:Heap):VR:=
 match s with
 |.nilsl=>
  if m=0 then some (.nilsl,h)
  else if m*uW P e<=lim&&decide (m<=lim)then
   (if mu then some (.rs nid sz 0 m,h.new nid (nU P e ys))else some (.sl sz (wY sz m ys) (.own nid),h.new nid .tok))
  else none
 |.sl sz' xs tk=>
  if sz'=sz&&decide ((xs.length+m)*uW P e<=lim)&&decide (xs.length+m<=lim)then
   match tk with
   |.no=>none
   |.full=>if m=0 then some (.sl sz xs .full,h)else if mu then some (.rs nid sz 0 (xs.length+m),h.new nid (nU P e (xs.flatten++ys)))else some (.sl sz (xs++wY sz m ys) (.own nid),h.new nid .tok)
   |.own i=>match h.at' i with
    |some .tok=>if mu then none else some (.sl sz (xs++wY sz m ys) (.own nid),(h.del i).new nid .tok)
    |_=>none
  else none
 |.rs id sz' off n=>
  if mu&&decide (sz'=sz)&&decide (off=0)&&decide ((n+m)*uW P e<=lim)&&decide (n+m<=lim)then
   match h.at' id with
   |some (.row cs)=>if cs.length=n*sz then some (.rs nid sz 0 (n+m),(h.del id).new nid (.row (cs++ys)))else none
   |some (.trow e2 full cs)=>match full with
    |true=>none
    |false=>if decide (e2=e)&&decide (cs.length=n*sz)then some (.rs nid sz 0 (n+m),(h.del id).new nid (.trow e false (cs++ys)))else none
   |_=>none
  else none
 |_=>none
def qh(P:Program)(mu:Bool)(nid:Nat)(t:TypeId)(s x:D)(h:Heap):VR:=
 match tQ P t with
 |none=>none
 |some e=>
  if X0 P e then
   match LF (szT P e) x h with
   |none=>none
   |some ys=>th P mu nid e (szT P e) (ys.length/szT P e) s ys h
  else none
def sY(s x:D)(h:Heap):Heap:=
 match s with
 |.rs id sz _ n=>match x with
  |.rs _ _ _ _=>h
  |_=>match h.at' id with
   |some (.row cs)=>if decide (n*sz<cs.length)then h.set id (.row (cs.take (n*sz)))else h
   |_=>h
 |_=>h
def nn(P:Program)(mu:Bool)(nid:Nat)(t:TypeId)(s x:D)(h:Heap):VR:=
 match mu with
 |true=>qh P true nid t s x (sY s x h)
 |false=>qh P false nid t s x h
def np(P:Program)(mu:Bool)(nid:Nat)(t u:TypeId)(s x:D)(h:Heap):VR:=
 match P.underlying u with
 |some (.int _)=>match tQ P t with
  |some e=>match s with
   |.nilsl=>match x with
    |.int k n=>match k with
     |.i64=>match sD P e with
      |some z=>if mu&&z.notTuple&&decide (z.cells.length=szT P e)&&decide (0<szT P e)&&decide (0<n)&&decide (n.toNat*uW P e<=lim)&&decide (n.toNat<=lim)then
       some (.rs nid (szT P e) 0 n.toNat,h.new nid (nU P e (nz n.toNat z.cells)))else none
      |none=>none
     |_=>none
    |_=>none
   |_=>none
  |none=>none
 |_=>none
def js(P:Program)(t:TypeId)(x:D)(_:Heap):Option D:=
 match x with
 |.str s=>match P.underlying t with
  |some .string=>some (.int .i64 s.length)
  |_=>none
 |.sl _ xs _=>match P.underlying t with
  |some (.slice _)=>some (.int .i64 xs.length)
  |_=>none
 |.rs _ _ _ n=>match P.underlying t with
  |some (.slice _)=>some (.int .i64 n)
  |_=>none
 |.nilsl=>match P.underlying t with
  |some (.slice _)=>some (.int .i64 0)
  |_=>none
 |.nilmap=>match P.underlying t with
  |some (.map _ _)=>some (.int .i64 0)
  |_=>none
 |_=>none
def sM(P:Program)(mu:Bool)(nid:Nat)(t:TypeId)(l c:D)(h:Heap):VR:=
 match tQ P t,l,c with
 |some e,.int _ l,.int _ c=>
  match sD P e with
  |some z=>
   let sz:=szT P e
   if z.notTuple&&z.cells.length=sz&&decide (0<sz)&&decide (0<=l)&&decide (l=c)&&decide (l.toNat*uW P e<=lim)&&decide (l.toNat<=lim)then
    (if mu then some (.rs nid sz 0 l.toNat,h.new nid (.row (nz l.toNat z.cells)))else some (.sl sz (List.replicate l.toNat z.cells) .full,h))
   else none
  |none=>none
 |_,_,_=>none
def lh(ks:List Kd)(k:D):List (D×D)->Option (Option D)
 | []=>some none
 |(k',v)::es=>match eqK ks k.cells k'.cells with
  |some true=>some (some v)
  |some false=>lh ks k es
  |none=>none
def NY(ks:List Kd)(k v:D):List (D×D)->Option (List (D×D))
 | []=>some [(k,v)]
 |(k',v')::es=>match eqK ks k.cells k'.cells with
  |some true=>some ((k,v)::es)
  |some false=>(NY ks k v es).map ((k',v'):: ·)
  |none=>none
def NS(P:Program)(t:TypeId):Option (TypeId×TypeId):=
 match P.underlying t with
 |some (.map k e)=>some (k,e)
 |_=>none
def yi:Bool->D->Bool
 |true,.agg _=>true
 |true,_=>false
 |false,.agg _=>false
 |false,_=>true
def NM(P:Program)(t:TypeId):Option (Bool×List Kd):=
 match rp P 8 t,agT P t with
 |some ks,some ag=>some (ag,ks)
 |_,_=>none
def WE(m:D)(h:Heap):Option (List (D×D)):=
 match m with
 |.nilmap=>some []
 |.map id=>match h.at' id with
  |some (.map es)=>some es
  |_=>none
 |_=>none
def dS(ok:Bool)(z:D):Option D->D
 |some v=>if ok then .tuple [v,.bool true]else v
 |none=>if ok then .tuple [z,.bool false]else z
def gy(ag:Bool)(ks:List Kd)(z k:D)(ok:Bool)(es:List (D×D)):Option D:=
 if yi ag k&&(eqK ks k.cells k.cells).isSome&&es.all (λx=>yi ag x.1)then
  match lh ks k es with
  |some o=>some (dS ok z o)
  |none=>none
 else none
def uF(P:Program)(t:TypeId)(m k:D)(ok:Bool)(h:Heap):Option D:=
 match NS P t with
 |none=>none
 |some (kt,e)=>
  match NM P kt with
  |none=>none
  |some (ag,ks)=>
   match sD P e with
   |none=>none
   |some z=>
    match WE m h with
    |none=>none
    |some es=>gy ag ks z k ok es
def wv(P:Program)(t:TypeId)(m k v:D)(h:Heap):Option Heap:=
 match NS P t with
 |none=>none
 |some (kt,_)=>
  match NM P kt with
  |some (ag,ks)=>
   match m with
   |.map id=>match h.at' id with
    |some (.map es)=>if yi ag k&&(eqK ks k.cells k.cells).isSome&&es.all (λx=>yi ag x.1)&&(lh ks k es).isSome then(match NY ks k v es with
     |some es'=>some (h.set id (.map es'))
     |none=>none)else none
    |_=>none
   |_=>none
  |none=>none
def lO(x:D)(i:Nat):Option D:=
 match x with
 |.tuple vs=>vs[i]?
 |_=>none
def oH:List D->Option (List UInt8)
 | []=>some []
 |d::ds=>match d with
  |.int k n=>match k with
   |.u8=>match oH ds with
    |some s=>some (UInt8.ofNat n.toNat::s)
    |none=>none
   |_=>none
  |_=>none
def oc(P:Program)(src dst:TypeId)(x:D):Option D:=
 match x with
 |.int _ n=>match P.underlying src with
  |some (.int _)=>match P.underlying dst with
   |some (.int k)=>some (.int k (k.wrap n))
   |_=>none
  |_=>none
 |.str s=>match P.underlying src with
  |some .string=>match P.underlying dst with
   |some .string=>some (.str s)
   |some (.slice e)=>match P.underlying e with
    |some (.int .u8)=>some (.sl 1 (s.map λb=>[.int .u8 b.toNat]) .no)
    |_=>none
   |_=>none
  |_=>none
 |.sl sz xs _=>match P.underlying src with
  |some (.slice e)=>match P.underlying e with
   |some (.int .u8)=>match P.underlying dst with
    |some .string=>if sz=1 then(match oH xs.flatten with
     |some s=>some (.str s)
     |none=>none)else none
    |_=>none
   |_=>none
  |_=>none
 |_=>none
def J6(P:Program)(s d:TypeId)(id:Nat)(h:Heap):Option D:=
 match h.at' id with
 |some (.trow u full cs)=>match full with
  |true=>match P.underlying s with
   |some (.pointer t)=>match P.underlying d with
    |some .unsafePointer=>match P.info? t with
     |some j=>if decide (j.size≠0)&&decide (0<cs.length)then some (.ptr id 0)else none
     |none=>none
    |_=>none
   |some .unsafePointer=>match P.underlying d with
    |some (.pointer t)=>match P.info? t with
     |some _=>if liesAt P P.depth u (cs.length/P.cellsOf u) 0 t 1 then some (.ptr id 0)else none
     |none=>none
    |_=>none
   |_=>none
  |false=>none
 |_=>none
def bY(P:Program)(s d:TypeId)(x:D)(h:Heap):Option D:=
 match x with
 |.ptr id off=>match off with
  |0=>J6 P s d id h
  |_=>none
 |y=>oc P s d y
def zH6(P:Program)(t:TypeId):Bool:=
 match P.underlying t with
 |some (.pointer _)=>true
 |some .unsafePointer=>true
 |_=>false
def qH(x:D):Option D:=
 match x with
 |.ptr id off=>some (.ptr id off)
 |.iptr cs off=>some (.iptr cs off)
 |.fn (.func f) a c=>some (.fn (.func f) a c)
 |.yld i=>some (.yld i)
 |_=>none
def LZ:D->D->Option D
 |.int k a,.int k' b=>if k=k' then some (.int k (if b<a then b else a))else none
 |_,_=>none
def Za(t:TypeId)(cs:List D):Obj:=
 match cs with
 | []=>.row []
 |d::ds=>match d with
  |.nilptr=>match ds with
   | []=>.row (d::ds)
   |e::es=>match e with
    |.nilsl=>match es with
     | []=>.trow t true (d::ds)
     |_=>.row (d::ds)
    |_=>.row (d::ds)
  |_=>.row (d::ds)
def GW:D->D->Option D
 |.int k a,.int k' b=>if k=k' then some (.int k (if b>a then b else a))else none
 |_,_=>none
def PY:D->List D->Option D
 |x,[]=>some x
 |x,y::rest=>match GW x y with
  |some z=>PY z rest
  |none=>none
def oR(P:Program)(t:TypeId):Bool:=
 match P.underlying t with
 |some (.int _)=>false
 |some _=>true
 |none=>false
def dQ(P:Program)(t:TypeId)(x:D)(h:Heap):Option Heap:=
 match x with
 |.nilsl=>match P.underlying t with
  |some (.slice _)=>some h
  |_=>none
 |.sl _ xs _=>match P.underlying t with
  |some (.slice _)=>if xs.length=0 then some h else none
  |_=>none
 |.rs id sz off n=>match tQ P t with
  |none=>none
  |some e=>match sD P e with
   |none=>none
   |some z=>if n=0 then some h else if z.notTuple&&decide (z.cells.length=sz)then
     match h.at' id with
     |some (.row cs)=>if off+n*sz<=cs.length then some (h.set id (.row (uG cs (nz n z.cells) off)))else none
     |_=>none
    else none
 |.map id=>match P.underlying t with
  |some (.map _ _)=>match h.at' id with
   |some (.map _)=>some (h.set id (.map []))
   |_=>none
  |_=>none
 |_=>none
def Z8(P:Program)(e:TypeId)(id:Nat)(n:Int)(h:Heap):VR:=
 match h.at' id with
 |some (.trow e2 _ cs)=>
  if decide (e2=e)&&decide (szT P e=1)&&decide (0<n)&&decide (n.toNat<=cs.length)&&decide (n.toNat<=lim)then
   match oH (cs.take n.toNat)with
   |some s=>some (.str s,h.del id)
   |none=>none
  else none
 |_=>none
def kX(P:Program)(t:TypeId)(x y:D)(h:Heap):VR:=
 match P.underlying t with
 |some (.pointer e)=>match P.underlying e with
  |some (.int .u8)=>match x with
   |.ptr id off=>match off with
    |0=>match y with
     |.int .i64 n=>Z8 P e id n h
     |_=>none
    |_=>none
   |.nilptr=>match y with
    |.int .i64 n=>if n=0 then some (.str [],h)else none
    |_=>none
   |_=>none
  |_=>none
 |_=>none
def nq(P:Program)(mu:Bool)(nid:Nat)(b:Builtin)(ats:List TypeId)(args:List D)(h:Heap):VR:=
 match b with
 |.len=>match ats with
  | [t]=>match args with
   | [x]=>(js P t x h).map (·,h)
   |_=>none
  |_=>none
 |.append=>match ats with
  | [t,u]=>match args with
   | [s,x]=>if oR P u then nn P mu nid t s x h else np P mu nid t u s x h
   |_=>none
  |_=>none
 |.min=>match args with
  | [x,y]=>(LZ x y).map (·,h)
  |_=>none
 |.max=>match args with
  |x::y::rest=>(PY x (y::rest)).map (·,h)
  |_=>none
 |.cap=>match ats with
  | [t]=>match args with
   | [x]=>match x with
    |.nilsl=>match P.underlying t with
     |some (.slice _)=>some (.int .i64 0,h)
     |_=>none
    |_=>none
   |_=>none
  |_=>none
 |.unsafeSliceData=>match ats with
  | [_]=>match args with
   | [x]=>match x with
    |.rs id _ off n=>match n,off with
     |0,_=>none
     |_,0=>some (.ptr id 0,h)
     |_,_=>none
    |.nilsl=>some (.nilptr,h)
    |_=>none
   |_=>none
  |_=>none
 |.unsafeString=>match ats with
  | [t,_]=>match args with
   | [x,y]=>kX P t x y h
   |_=>none
  |_=>none
 |.clear=>match ats with
  | [t]=>match args with
   | [x]=>(dQ P t x h).map (sn,·)
   |_=>none
  |_=>none
 |_=>none
def zCN(P:Program)(t:TypeId):Bool:=
 match P.underlying t with
 |some (.interface _)=>false
 |some _=>true
 |none=>false
def Ev(P:Program)(t:TypeId)(x:D)(f:Nat):Option D:=
 match qr P t f with
 |some (off,ft)=>match x with
  |.agg cs=>match agT P ft with
   |some ag=>yN ag (szT P ft) cs off
   |none=>none
  |_=>none
 |none=>none
def sL(s:List UInt8)(pos:Nat):Nat×Nat:=Utf8.decode ⟨s.toArray⟩ pos
def WQ(x:D)(isS:Bool)(h:Heap):VR:=
 match x with
 |.ptr id off=>match h.at' id with
  |some (.siter s pos)=>
   if isS&&decide (off=0)then
    if pos<s.length then
     (if decide (s.length<=lim)&&IntKind.i32.wrap (sL s pos).1==((sL s pos).1:Int)then some (.tuple [.bool true,.int .i64 pos,.int .i32 (sL s pos).1],h.set id (.siter s (pos+(sL s pos).2)))else none)
    else some (.tuple [.bool false],h)
   else none
  |_=>none
 |_=>none
def ZP(P:Program)(nid:Nat)(t:TypeId)(x:D)(h:Heap):VR:=
 match x with
 |.str s=>match P.underlying t with
  |some .string=>some (.ptr nid 0,h.new nid (.siter s 0))
  |_=>none
 |_=>none
def vop(P:Program)(mu:Bool)(nid:Nat)(o:Op)(ev:Operand->D)(h:Heap):VR:=
 match o with
 |.move x=>some (ev x,h)
 |.assign x=>some (ev x,h)
 |.pick c a b=>match ev c with
  |.bool true=>some (ev a,h)
  |.bool false=>some (ev b,h)
  |_=>none
 |.alloc t=>match sD P t with
  |some z=>if z.notTuple then some (.ptr nid 0,h.new nid (Za t z.cells))else none
  |none=>none
 |.box _ x=>if(ev x).notTuple then(if mu then some (.ptr nid 0,h.new nid (.row (ev x).cells))else some (.iptr (ev x).cells 0,h))else none
 |.build t parts=>(wO P t (parts.toList.map λp=>(p.1,ev p.2))).map (·,h)
 |.buildSlice t n parts=>yB P mu nid t n (parts.toList.map λp=>(p.1,ev p.2)) h
 |.load t a=>(kW P t (ev a) h).map (·,h)
 |.store t a x=>(qP P t (ev a) (ev x) h).map (sn,·)
 |.nilCheck x=>(qH (ev x)).map (·,h)
 |.binOp op t x y _=>(fV P op t (isC x||isC y) (ev x) (ev y)).map (·,h)
 |.unOp op _ x=>(vun op (ev x)).map (·,h)
 |.convert s d x=>(bY P s d (ev x) h).map (·,h)
 |.makeFunc g a c=>match g with
  |.func f=>some (.fn (.func f) (a.toList.map ev) (c.toList.map ev),h)
  |_=>none
 |.makeMap _ r=>match r with
  |none=>some (.map nid,h.new nid (.map []))
  |some _=>none
 |.makeSlice t l c=>sM P mu nid t (ev l) (ev c) h
 |.slice t x lo hi mx=>(wi P t (ev x) (lo.map ev) (hi.map ev) (mx.map ev) h).map (·,h)
 |.fieldAddr s x f=>(n8 P s (ev x) f).map (·,h)
 |.field s x f=>(Ev P s (ev x) f).map (·,h)
 |.indexAddr t x i=>(yP P t (ev x) (ev i)).map (·,h)
 |.index t x i=>(kV P t (ev x) (ev i)).map (·,h)
 |.lookup t m k ok=>(uF P t (ev m) (ev k) ok h).map (·,h)
 |.mapUpdate t m k v=>(wv P t (ev m) (ev k) (ev v) h).map (sn,·)
 |.insert t m k v=>(wv P t (ev m) (ev k) (ev v) h).map (sn,·)
 |.extract x i=>(lO (ev x) i).map (·,h)
 |.range t x=>ZP P nid t (ev x) h
 |.next x isS=>WQ (ev x) isS h
 |.makeInterface t x=>if zCN P t then some (.iface t (ev x),h)else none
 |.call c=>match c.callee with
  |.builtin b=>nq P mu nid b c.argTypes.toList (c.args.toList.map ev) h
  |_=>none
 |_=>none
end Go.V
