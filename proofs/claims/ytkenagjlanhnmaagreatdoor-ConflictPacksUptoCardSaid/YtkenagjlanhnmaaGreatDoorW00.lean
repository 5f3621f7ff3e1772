/- A machine of abstract values for programs of the model, and its soundness, part 1. No condition. -/
import Derived.RangeFuncLeaves
import Derived.OrdersIn
import Derived.TacticsIn
import Derived.Laws.AppendOwn
import Derived.Below
set_option linter.all false
set_option maxHeartbeats 8000000
namespace Go.V
theorem jS{p:Prop}(h:p:=by simp):p:=h
theorem jD{p:Prop}(h:p:=by decide):p:=h
theorem jL{p:Prop}(h:p:=by unfold lim;omega):p:=h
theorem jO{p:Prop}(h:p:=by simp;omega):p:=h
theorem ow{p:Prop}(h:p:=by omega):p:=h
theorem ip{c:Prop}{_:Decidable c}(h:c){α:Sort _}{t e:α}:ite c t e=t:=if_pos h
theorem iq{c:Prop}{_:Decidable c}(h:¬c){α:Sort _}{t e:α}:ite c t e=e:=if_neg h
def xc(l:List Nat)(t:Nat):Bool:=List.contains l t
@[go_sem] theorem xE(l:List Nat)(t:Nat):xc l t=List.contains l t:=(rfl)
theorem kr{p:Prop}(h:p:=by kernel_rfl):p:=h
def lm:=@Array.any_eq_true'
def sY:=@Array.ext'
def uN:=@Array.getD_eq_getD_getElem?
def tu:=@Array.getElem?_append_left
def sM:=@Array.getElem?_eq_getElem
def rQ:=@Array.getElem?_eq_none
def yS:=@Array.getElem?_eq_some_iff
def rZ:=@Array.getElem?_modify
def tG:=@Array.getElem?_setIfInBounds
def qo:=@Array.getElem?_toList
def yX:=@Array.length_toList
def ml:=@Array.toList_append
def uX:=@Array.toList_map
def cH:=@Bool.and_assoc
def gY:=@Bool.and_eq_false_iff
def zF:=@Bool.and_eq_true
def pZ:=@Bool.and_false
def wt:=@Bool.and_self
def pF:=@Bool.and_true
def jY:=@Bool.beq_comm
def sZ:=@Bool.eq_false_iff
def wR:=@Bool.false_and
def zf:=@Bool.false_eq_true
def zV:=@Bool.false_ne_true
def t7:=@Bool.false_or
def pG:=@Bool.not_eq_false
def qH:=@Bool.not_eq_true'
def sN:=@Bool.not_false
def oQ:=@Bool.not_true
def sT:=@Bool.or_eq_false_iff
def qN:=@Bool.or_eq_true
def pH:=@Bool.or_false
def ln:=@Bool.or_self
def nh:=@Bool.or_true
def tH:=@Bool.true_and
def oD:=@Bool.true_or
def kF:=@Classical.byContradiction
def gZ:=@DataW.trod_bool
def cI:=@DataW.trod_int
def gE:=@DataW.trod_slice
def kZ:=@DataW.trod_string
def kg:=@DataW.trod_struct
def nE:=@Function.comp_def
def tI:=@Int.eq_ofNat_of_zero_le
def mo:=@Int.natCast_mul
def zG:=@Int.ofNat_zero
def wE:=@Int.toNat_natCast
def uO:=@List.all_append
def um:=@List.all_cons
def zb:=@List.all_eq_true
def bf:=@List.any_cons
def nF:=@List.any_eq_false
def qF:=@List.any_eq_true
def YI:=@List.any_map
def yY:=@List.append_assoc
def gP:=@List.append_eq_nil_iff
def yC:=@List.append_nil
def mq:=@List.attach_map_subtype_val
def bg:=@List.cons.inj
def sd:=@List.cons.injEq
def zq:=@List.cons_append
def uP:=@List.contains_cons
def sU:=@List.contains_eq_mem
def mO:=@List.count_le_length
def gF:=@List.drop_append
def mH:=@List.drop_append_of_le_length
def uM:=@List.drop_drop
def z8:=@List.drop_eq_getElem_cons
def wo:=@List.drop_eq_nil_of_le
def mI:=@List.drop_length
def tm:=@List.drop_of_length_le
def mr:=@List.drop_set_of_lt
def wS:=@List.drop_zero
def ye:=@List.eq_nil_of_length_eq_zero
def wW:=@List.eraseIdx_sublist
def pa:=@List.exists_mem_of_ne_nil
def tR:=@List.ext_getElem?
def gb:=@List.filterMap_append
def cr:=@List.filterMap_cons
def sf:=@List.filterMap_cons_some
def t8:=@List.filter_append
def tB:=@List.filter_cons
def tJ:=@List.filter_cons_of_neg
def tK:=@List.filter_cons_of_pos
def px:=@List.filter_sublist
def lq:=@List.find?_eq_none
def sn:=@List.find?_eq_some_iff_getElem
def wq:=@List.findIdx?_eq_none_iff
def qi:=@List.findIdx?_eq_some_iff_getElem
def ct:=@List.findIdx_append
def o8:=@List.findIdx_lt_length
def py:=@List.flatMap_append
def nG:=@List.flatMap_cons
def oR:=@List.flatMap_eq_nil_iff
def mv:=@List.flatten_append
def yH:=@List.flatten_cons
def mJ:=@List.flatten_nil
def zC:=@List.getD_eq_getElem?_getD
def yi:=@List.getElem?_append_left
def yT:=@List.getElem?_append_right
def wb:=@List.getElem?_cons_succ
def wJ:=@List.getElem?_cons_zero
def qY:=@List.getElem?_drop
def zB:=@List.getElem?_eq_getElem
def wx:=@List.getElem?_eq_none
def pb:=@List.getElem?_eq_none_iff
def zK:=@List.getElem?_eq_some_iff
def zh:=@List.getElem?_map
def tX:=@List.getElem?_range
def pI:=@List.getElem?_set
def pT:=@List.getElem?_set_ne
def gQ:=@List.getElem?_set_self
def yI:=@List.getElem?_take
def t9:=@List.getElem?_toArray
def o9:=@List.getElem_cons_succ
def uY:=@List.getElem_map
def zI:=@List.getElem_mem
def ni:=@List.getElem_set_self
def tn:=@List.head?_eq_getElem?
def to:=@List.head?_eq_none_iff
def zS:=@List.length_append
def zu:=@List.length_cons
def tC:=@List.length_drop
def yN:=@List.length_eq_zero_iff
def mP:=@List.length_eraseIdx
def wH:=@List.length_filter_le
def zH:=@List.length_map
def qO:=@List.length_nil
def z7:=@List.length_pos_iff
def uA:=@List.length_range
def gf:=@List.length_replicate
def cy:=@List.length_reverse
def uQ:=@List.length_set
def wX:=@List.length_singleton
def yK:=@List.length_take
def qf:=@List.map_append
def wY:=@List.map_congr_left
def qV:=@List.map_cons
def gg:=@List.map_const'
def ue:=@List.map_eq_nil_iff
def wA:=@List.map_map
def oE:=@List.map_nil
def tN:=@List.map_set
def jZ:=@List.map_take
def gG:=@List.map_toArray
def yv:=@List.mem_append
def mQ:=@List.mem_append_left
def rc:=@List.mem_append_right
def yE:=@List.mem_cons
def yG:=@List.mem_cons_of_mem
def qZ:=@List.mem_cons_self
def wO:=@List.mem_filter
def z6:=@List.mem_flatMap
def zy:=@List.mem_iff_getElem
def yy:=@List.mem_iff_getElem?
def zN:=@List.mem_map
def zj:=@List.mem_of_getElem?
def dz:=@List.mem_of_mem_drop
def re:=@List.mem_of_mem_head?
def sV:=@List.mem_of_mem_take
def sO:=@List.mem_or_eq_of_mem_set
def yn:=@List.mem_range
def zi:=@List.mem_singleton
def yL:=@List.nil_append
def bh:=@List.nil_perm
def kn:=@List.nodup_append
def oS:=@List.nodup_cons
def nc:=@List.nodup_nil
def wu:=@List.not_mem_nil
def sC:=@List.pairwise_cons
def uo:=@List.pairwise_iff_getElem
def nH:=@List.pairwise_map
def rg:=@List.range_succ
def tY:=@List.replicate_succ
def gh:=@List.set_append_right
def lr:=@List.set_cons_succ
def sD:=@List.set_cons_zero
def gi:=@List.set_getElem_self
def qw:=@List.size_toArray
def yk:=@List.take_append_drop
def qm:=@List.take_append_of_le_length
def gj:=@List.take_left'
def zt:=@List.take_length
def yO:=@List.take_of_length_le
def ja:=@List.take_one
def mw:=@List.take_set_of_le
def pz:=@List.take_succ_cons
def zM:=@List.take_succ_eq_append_getElem
def pc:=@List.take_zero
def oT:=@List.zip_cons_cons
def qn:=@Nat.add_assoc
def gk:=@Nat.add_comm
def qy:=@Nat.add_mul
def uR:=@Nat.add_sub_cancel_left
def wZ:=@Nat.add_zero
def kp:=@Nat.blt_eq
def nj:=@Nat.div_lt_iff_lt_mul
def yZ:=@Nat.eq_of_beq_eq_true
def lu:=@Nat.eq_zero_or_pos
def gH:=@Nat.le_max_right
def gR:=@Nat.le_mul_of_pos_left
def nk:=@Nat.le_of_ble_eq_true
def zD:=@Nat.le_refl
def zY:=@Nat.le_trans
def wK:=@Nat.lt_irrefl
def zl:=@Nat.lt_of_lt_of_le
def zx:=@Nat.lt_succ_iff_lt_or_eq
def s9:=@Nat.lt_succ_self
def oU:=@Nat.min_eq_left
def ZW:=@Nat.mod_lt
def tz:=@Nat.mod_two_eq_zero_or_one
def gp:=@Nat.mul_comm
def u0:=@Nat.mul_div_cancel
def kG:=@Nat.mul_le_mul
def my:=@Nat.mul_le_mul_left
def yt:=@Nat.mul_le_mul_right
def wF:=@Nat.mul_one
def XW:=@Nat.mul_pos
def YJ:=@Nat.ne_of_lt
def ym:=@Nat.not_lt_zero
def nJ:=@Nat.one_mul
def lv:=@Nat.sub_self
def tO:=@Nat.sub_zero
def mK:=@Nat.succ_lt_succ
def qp:=@Nat.succ_mul
def yP:=@Nat.zero_add
def yD:=@Nat.zero_le
def sr:=@Nat.zero_mul
def gq:=@Ne.symm
def su:=@Option.bind_eq_some_iff
def rC:=@Option.bind_some
def zA:=@Option.getD_some
def u9:=@Option.isSome_iff_exists
def sE:=@Option.isSome_none
def sF:=@Option.isSome_some
def ze:=@Option.map_eq_some_iff
def qt:=@Option.map_some
def oW:=@Option.some.inj
def uB:=@Option.some.injEq
def zd:=@Result.andThen_ok
def zz:=@Sem.run_bind
def yU:=@Sem.run_pure
def gu:=@UInt8.toNat_inj
def kH:=@World.alloc_eq
def wi:=@World.cell?_of_block
def zT:=@and_true
def yf:=@beq_eq_false_iff_ne
def qj:=@beq_iff_eq
def po:=@beq_self_eq_true
def dJ:=@bne_iff_ne
def YS:=@callsIn_wide
def zO:=@decide_eq_false
def wc:=@decide_eq_false_iff_not
def zR:=@decide_eq_true
def zP:=@decide_eq_true_eq
def bC:=@decide_true
def WA:=@getD_set_ne
def uF:=@getElem!_pos
def WB:=@grownCap_ge
def yr:=@if_false
def qK:=@if_true
def Wd:=@not_or
def yJ:=@of_decide_eq_false
def yB:=@of_decide_eq_true
def jz:=@or_false
def Z6:=@run_newObj
def si:=@run_storeCells_at
def zX:=@run_underlying
def lP:=@setRow_heap
def mC:=@setRow_other
def ae:=@setRow_output
def bT:=@setRow_size
def Wy:=@setRow_tape
def cW:=@size_zeroCells
def zQ:=@true_and
def jW:=@wpIn_mono
inductive Tk where
 |no|full|own (t:Nat)
inductive D where
 |bool (b:Bool)
 |int (k:IntKind) (n:Int)
 |str (s:List UInt8)
 |nilptr
 |ptr (id off:Nat)
 |iptr (cs:List D) (off:Nat)
 |nilsl
 |sl (sz:Nat) (xs:List (List D)) (tk:Tk)
 |rs (id sz off len:Nat)
 |nilmap
 |map (id:Nat)
 |fn (f:Fn) (first cap:List D)
 |yld (id:Nat)
 |nilfn
 |agg (cs:List D)
 |tuple (cs:List D)
 |iface (t:TypeId) (v:D)
 |niliface
abbrev Frm:=Nat->D
def rJ:D:=.tuple []
structure LRec where
 st:LoopState
 pending:Option Code
 fr:Frm
 params:Array Tmp
 assign:Code
 body:Code
 n:Nat
inductive Obj where
 |row (cs:List D)
 |tok
 |map (es:List (D×D))
 |loop (r:LRec)
 |siter (s:List UInt8) (pos:Nat)
 |trow (t:TypeId) (full:Bool) (cs:List D)
structure Heap where
 next:Nat
 at':Nat->Option Obj
def Heap.set(h:Heap)(i:Nat)(o:Obj):Heap:= { next:=h.next,at':=λj=>if j=i then some o else h.at' j }
def Heap.del(h:Heap)(i:Nat):Heap:= { next:=h.next,at':=λj=>if j=i then none else h.at' j }
def Heap.new(h:Heap)(i:Nat)(o:Obj):Heap:= { next:=max h.next (i+1),at':=λj=>if j=i then some o else h.at' j }
def D.cells:D->List D
 |.agg cs=>cs
 |d=>[d]
def D.flat:D->Bool
 |.agg _=>false
 |.tuple _=>false
 |_=>true
def D.notTuple:D->Bool
 |.tuple _=>false
 |_=>true
def lim:Nat:=140737488355328
mutual
def cst:Value->D
 |.bool b=>.bool b
 |.int k n=>.int k n
 |.string s=>.str s.data.toList
 |.pointer none=>.nilptr
 |.slice none 0 0=>.nilsl
 |.map none=>.nilmap
 |.nilFunc=>.nilfn
 |.nilIface=>.niliface
 |.agg cs=>.agg (Bt cs.toList)
 |.tuple cs=>.tuple (Bt cs.toList)
 |_=>.tuple []
def Bt:List Value->List D
 | []=>[]
 |v::vs=>cst v::Bt vs
end
mutual
def jC:Value->Bool
 |.bool _=>true
 |.int k n=>k.wrap n==n
 |.string s=>decide (s.data.toList.length<=lim)
 |.pointer none=>true
 |.slice none 0 0=>true
 |.map none=>true
 |.nilFunc=>true
 |.nilIface=>true
 |.agg cs=>Xz cs.toList&&cs.toList.all (·.oneCell')
 |.tuple cs=>Xz cs.toList
 |_=>false
def Xz:List Value->Bool
 | []=>true
 |v::vs=>jC v&&Xz vs
end
def qz(fr:Frm):Operand->D
 |.tmp t=>fr t
 |.const v=>cst v
 |.global _=>.tuple []
 |.func f=>.fn (.func f) [] []
def VN(a b:List UInt8):Bool:=Op.bytesLess a b
def KI(op:BinOp)(k:IntKind)(a b:Int):Option D:=
 match op with
 |.add=>some (.int k (k.wrap (a+b)))
 |.sub=>some (.int k (k.wrap (a-b)))
 |.mul=>some (.int k (k.wrap (a*b)))
 |.quo=>if b=0 then none else some (.int k (k.wrap (a.tdiv b)))
 |.rem=>if b=0 then none else some (.int k (a.tmod b))
 |.and=>some (.int k (k.wrap (BitVec.ofInt k.bits a &&& BitVec.ofInt k.bits b).toNat))
 |.or=>some (.int k (k.wrap (BitVec.ofInt k.bits a |||BitVec.ofInt k.bits b).toNat))
 |.xor=>some (.int k (k.wrap (BitVec.ofInt k.bits a ^^^ BitVec.ofInt k.bits b).toNat))
 |.andNot=>some (.int k (k.wrap (BitVec.ofInt k.bits a &&& ~~~BitVec.ofInt k.bits b).toNat))
 |.eql=>some (.bool (a==b))
 |.neq=>some (.bool (a !=b))
 |.lss=>some (.bool (decide (a<b)))
 |.leq=>some (.bool (decide (a<=b)))
 |.gtr=>some (.bool (decide (a>b)))
 |.geq=>some (.bool (decide (a>=b)))
 |_=>none
def Pm(op:BinOp)(k:IntKind)(a b:Int):Option D:=
 if b<0 then none else
 match op with
 |.shl=>some (.int k (k.wrap (a*2^ (min b.toNat k.bits))))
 |.shr=>some (.int k (a.fdiv (2^ (min b.toNat k.bits))))
 |_=>none
def Fa(op:BinOp)(a b:List UInt8):Option D:=
 match op with
 |.add=>if a.length+b.length<=lim then some (.str (a++b))else none
 |.eql=>some (.bool (a==b))
 |.neq=>some (.bool (!(a==b)))
 |.lss=>some (.bool (VN a b))
 |.leq=>some (.bool (VN a b||a==b))
 |.gtr=>some (.bool !(VN a b||a==b))
 |.geq=>some (.bool !(VN a b))
 |_=>none
inductive Kd where
 |b|i|s
def eqK:List Kd->List D->List D->Option Bool
 | [],[],[]=>some true
 |.b::ks,.bool x::as,.bool y::bs=>(eqK ks as bs).map (x==y&& ·)
 |.i::ks,.int k x::as,.int k' y::bs=>if k=k' then(eqK ks as bs).map (x==y&& ·)else none
 |.s::ks,.str x::as,.str y::bs=>(eqK ks as bs).map (x==y&& ·)
 |_,_,_=>none
def veq:Option TypeDesc->D->D->Option Bool
 |some .bool,.bool a,.bool b=>some (a==b)
 |some (.pointer _),.nilptr,.nilptr=>some true
 |some (.pointer _),.nilptr,.ptr _ _=>some false
 |some (.pointer _),.ptr _ _,.nilptr=>some false
 |some (.pointer _),.nilptr,.iptr _ _=>some false
 |some (.pointer _),.iptr _ _,.nilptr=>some false
 |some (.slice _),.nilsl,.nilsl=>some true
 |some (.slice _),.nilsl,.sl _ _ _=>some false
 |some (.slice _),.sl _ _ _,.nilsl=>some false
 |some (.slice _),.nilsl,.rs _ _ _ _=>some false
 |some (.slice _),.rs _ _ _ _,.nilsl=>some false
 |some (.map _ _),.nilmap,.nilmap=>some true
 |some (.map _ _),.nilmap,.map _=>some false
 |some (.map _ _),.map _,.nilmap=>some false
 |some (.func _ _ _),.nilfn,.nilfn=>some true
 |some (.func _ _ _),.nilfn,.fn _ _ _=>some false
 |some (.func _ _ _),.fn _ _ _,.nilfn=>some false
 |some (.func _ _ _),.nilfn,.yld _=>some false
 |some (.func _ _ _),.yld _,.nilfn=>some false
 |_,_,_=>none
def WH(kd:TypeId->Option (List Kd))(sz:TypeId->Nat):List Field->Nat->Nat->Option (List Kd)
 | [],off,n=>if off==n then some []else none
 |f::fs,off,n=>
  if f.name != "_" &&f.offset==off&&sz f.type !=0 then
   match kd f.type with
   |some ks=>if ks.length==sz f.type then(WH kd sz fs (off+ks.length) n).map (ks++ ·)else none
   |none=>none
  else none
def pS(P:Program):Nat->TypeId->Option (List Kd)
 |0,_=>none
 |d+1,t=>
  match P.underlying t with
  |some .bool=>if P.cellsOf t==1 then some [.b]else none
  |some (.int _)=>if P.cellsOf t==1 then some [.i]else none
  |some .string=>if P.cellsOf t==1 then some [.s]else none
  |some (.struct fs)=>if P.stoodInHeld t then none else WH (pS P d) P.cellsOf fs.toList 0 (P.cellsOf t)
  |_=>none
def eqT(P:Program)(t:TypeId):Option (List Kd):=
 match P.underlying t with
 |some (.struct _)=>if P.eqGuardType P.depth t then none else pS P 8 t
 |_=>none
def nD(op:BinOp)(f g:Option D):Option D:=
 match op with
 |.eql=>f
 |.neq=>g
 |_=>none
def Da(P:Program)(op:BinOp)(t:TypeId)(x y:D):Option D:=
 nD op ((veq (P.underlying t) x y).map .bool) ((veq (P.underlying t) x y).map λb=>.bool (!b))
def Ji(op:BinOp)(ks:List Kd)(as bs:List D):Option D:=
 nD op ((eqK ks as bs).map .bool) ((eqK ks as bs).map λb=>.bool (!b))
def lX(op:BinOp)(k k':IntKind)(a b:Int):Option D:=
 match op with
 |.shl=>Pm op k a b
 |.shr=>Pm op k a b
 |_=>if k=k' then KI op k a b else none
def Jo(P:Program)(op:BinOp)(t:TypeId)(r:Bool):Option D:=
 match P.underlying t with
 |some (.interface _)=>nD op (some (.bool r)) (some (.bool (!r)))
 |_=>none
def A8(P:Program)(op:BinOp)(t:TypeId):Option D:=
 match P.underlying t with
 |some (.pointer e)=>match P.info? e with
  |some _=>nD op (some (.bool true)) (some (.bool false))
  |none=>none
 |_=>none
def isC:Operand->Bool
 |.const _=>true
 |_=>false
def jR(P:Program)(op:BinOp)(t:TypeId)(c:Bool)(x y:D):Option D:=
 match x with
 |.niliface=>match y with
  |.niliface=>if c then Jo P op t true else none
  |.iface _ _=>Jo P op t false
  |_=>none
 |.iface _ _=>match y with
  |.niliface=>Jo P op t false
  |_=>none
 |.int k a=>match y with
  |.int k' b=>lX op k k' a b
  |_=>none
 |.str a=>match y with
  |.str b=>Fa op a b
  |_=>none
 |.agg as=>match y with
  |.agg bs=>match eqT P t with
   |some ks=>Ji op ks as bs
   |none=>none
  |_=>none
 |.ptr i a=>match y with
  |.ptr j b=>match Nat.beq i j&&Nat.beq a b with
   |true=>A8 P op t
   |false=>none
  |y=>Da P op t (.ptr i a) y
 |x=>Da P op t x y
def vun(op:UnOp)(x:D):Option D:=
 match op,x with
 |.neg,.int k n=>some (.int k (k.wrap (0-n)))
 |.not,.bool b=>some (.bool !b)
 |_,_=>none
def yQ(ag:Bool)(n:Nat)(cs:List D)(off:Nat):Option D:=
 if ag then(if n=0 then none else if off+n<=cs.length then some (.agg ((cs.drop off).take n))else none)else cs[off]?
def wg(cs vs:List D)(off:Nat):List D:=cs.take off++vs++cs.drop (off+vs.length)
def agT(P:Program)(t:TypeId):Option Bool:=
 match P.underlying t with
 |some (.struct _)=>some true
 |some (.array _ _)=>some true
 |some _=>some false
 |none=>none
def szT(P:Program)(t:TypeId):Nat:=P.cellsOf t
def uw(P:Program)(t:TypeId):Option D:=
 match(P.info? t).bind (·.zero)with
 |some z=>if jC z then some (cst z)else none
 |none=>none
def qT(P:Program)(t:TypeId)(f:Nat):Option (Nat×TypeId):=
 match P.underlying t with
 |some (.struct fs)=>match fs[f]? with
  |some f=>some (f.offset,f.type)
  |none=>none
 |_=>none
def ur(P:Program)(t:TypeId):Option TypeId:=
 match P.underlying t with
 |some (.slice e)=>some e
 |_=>none
def Vt(P:Program)(t:TypeId):Option (Nat×TypeId):=
 match P.underlying t with
 |some (.array n e)=>some (n,e)
 |_=>none
abbrev VR:=Option (D×Heap)
def jT(P:Program)(t:TypeId)(a:D)(h:Heap):Option D:=
 match agT P t with
 |none=>none
 |some ag=>
  match a with
  |.iptr cs off=>yQ ag (szT P t) cs off
  |.ptr id off=>match h.at' id with
   |some (.row cs)=>yQ ag (szT P t) cs off
   |some (.trow _ _ cs)=>yQ ag (szT P t) cs off
   |_=>none
  |_=>none
def yR(P:Program)(t:TypeId)(a x:D)(h:Heap):Option Heap:=
 match a with
 |.ptr id off=>match h.at' id with
  |some (.row cs)=>
   if szT P t≠0&&x.cells.length=szT P t&&off+x.cells.length<=cs.length&&x.cells.all D.flat then some (h.set id (.row (wg cs x.cells off)))else none
  |some (.trow u b cs)=>
   if szT P t≠0&&x.cells.length=szT P t&&off+x.cells.length<=cs.length&&x.cells.all D.flat then some (h.set id (.trow u b (wg cs x.cells off)))else none
  |_=>none
 |_=>none
def oM(P:Program)(s:TypeId)(x:D)(f:Nat):Option D:=
 match qT P s f with
 |some (off,ft)=>
  if szT P ft=0 then none else
  match x with
  |.iptr cs o=>some (.iptr cs (o+off))
  |.ptr id o=>some (.ptr id (o+off))
  |_=>none
 |none=>none
def yj(P:Program)(t:TypeId)(x i:D):Option D:=
 match i with
 |.int _ n=>
  match ur P t with
  |some e=>
   match x with
   |.sl sz xs _=>if sz=szT P e then(if 0<=n then(match xs[n.toNat]? with|some c=>some (.iptr c 0)|none=>none)else none)else none
   |.rs id sz off len=>if sz=szT P e&&decide (0<=n)&&decide (n<len)then some (.ptr id (off+n.toNat*sz))else none
   |_=>none
  |none=>
   match Vt P t with
   |some (len,e)=>
    if decide (0<=n)&&decide (n<len)&&decide (szT P e≠0)then
     match x with
     |.iptr cs o=>some (.iptr cs (o+n.toNat*szT P e))
     |.ptr id o=>some (.ptr id (o+n.toNat*szT P e))
     |_=>none
    else none
   |none=>none
 |_=>none
def mG(P:Program)(t:TypeId)(x i:D):Option D:=
 match i with
 |.int _ n=>
  match x with
  |.str s=>match P.underlying t with
   |some .string=>if 0<=n then(match s[n.toNat]? with|some b=>some (.int .u8 b.toNat)|none=>none)else none
   |_=>none
  |.agg cs=>
   match Vt P t with
   |some (len,e)=>match agT P e with
    |some ag=>if decide (0<=n)&&decide (n<len)then yQ ag (szT P e) cs (n.toNat*szT P e)else none
    |none=>none
   |none=>none
  |_=>none
 |_=>none
def V8(n:Nat):Option D->Option Nat
 |none=>some n
 |some (.int _ h)=>if decide (0<=h)&&decide (h<=n)then some h.toNat else none
 |some _=>none
def Ri(h:Nat):Option D->Option Nat
 |none=>some 0
 |some (.int _ l)=>if decide (0<=l)&&decide (l<=h)then some l.toNat else none
 |some _=>none
def rT(n:Nat)(lo hi:Option D):Option (Nat×Nat):=
 match V8 n hi with
 |none=>none
 |some h=>match Ri h lo with
  |none=>none
  |some l=>some (l,h)
def NV(hi:Nat)(n:Nat):Tk->Tk
 |.full=>if hi=n then .full else .no
 |_=>.no
def hZ(n:Nat)(lo:Option D)(hi m:D):Option (Nat×Nat):=
 match V8 n (some m)with
 |none=>none
 |some mm=>match V8 mm (some hi)with
  |none=>none
  |some u=>if u=mm then(match Ri u lo with
   |none=>none
   |some l=>some (l,u))else none
def MV(P:Program)(t:TypeId)(x:D)(lo:Option D)(hi m:D):Option D:=
 match ur P t with
 |none=>none
 |some e=>if szT P e=0 then none else
  match x with
  |.sl sz xs _=>if sz=szT P e then(match hZ xs.length lo hi m with
   |some (l,u)=>some (.sl sz ((xs.take u).drop l) .full)
   |none=>none)else none
  |.rs _ sz _ len=>if sz=szT P e then(match hZ len lo hi m with
   |some (l,u)=>if l=u then some (.sl sz [] .full)else none
   |none=>none)else none
  |.nilsl=>match hZ 0 lo hi m with
   |some _=>some .nilsl
   |none=>none
  |_=>none
def dC(P:Program)(t:TypeId)(x:D)(lo hi mx:Option D):Option D:=
 match mx with
 |some m=>match hi with
  |some hi=>MV P t x lo hi m
  |none=>none
 |none=>
  match x with
  |.str s=>match P.underlying t with
   |some .string=>match rT s.length lo hi with
    |some (l,h)=>some (.str ((s.take h).drop l))
    |none=>none
   |_=>none
  |.sl sz xs tk=>match ur P t with
   |some e=>if sz=szT P e then(match rT xs.length lo hi with
    |some (l,h)=>some (.sl sz ((xs.take h).drop l) (NV h xs.length tk))
    |none=>none)else none
   |none=>none
  |.rs id sz off len=>match ur P t with
   |some e=>if sz=szT P e then(match rT len lo hi with
    |some (l,h)=>some (.rs id sz (off+l*sz) (h-l))
    |none=>none)else none
   |none=>none
  |.nilsl=>match ur P t with
   |some e=>if szT P e=0 then none else match rT 0 lo hi with
    |some _=>some .nilsl
    |none=>none
   |none=>none
  |_=>none
def wP(sz:Nat):Nat->List D->List (List D)
 |0,_=>[]
 |n+1,cs=>cs.take sz::wP sz n (cs.drop sz)
def Ra(P:Program)(n:Nat)(e:TypeId)(x:D)(lo hi:Option D)(h:Heap):Option D:=
 if decide (0<szT P e)&&decide (n<=lim)then
  match rT n lo hi with
  |none=>none
  |some (l,u)=>match x with
   |.ptr id off=>match h.at' id with
    |some (.row cs)=>if off+n*szT P e<=cs.length then some (.rs id (szT P e) (off+l*szT P e) (u-l))else none
    |_=>none
   |.iptr cs off=>if off+n*szT P e<=cs.length then some (.sl (szT P e) (((wP (szT P e) n (cs.drop off)).take u).drop l) (if u=n then .full else .no))else none
   |_=>none
 else none
def ww(P:Program)(t:TypeId)(x:D)(lo hi mx:Option D)(h:Heap):Option D:=
 match Vt P t with
 |some (n,e)=>match mx with
  |none=>Ra P n e x lo hi h
  |some _=>none
 |none=>dC P t x lo hi mx
def uc(place:Nat->Option (Nat×Nat))(cs:List D):List (Nat×D)->Option (List D)
 | []=>some cs
 |(i,d)::rest=>match place i with
  |none=>none
  |some (off,size)=>if d.notTuple&&d.cells.length=size&&off+size<=cs.length then uc place (wg cs d.cells off) rest else none
def Wf(P:Program):List Field->Option (List (Nat×Nat))
 | []=>some []
 |f::fs=>if szT P f.type=0 then none else(Wf P fs).map ((f.offset,szT P f.type):: ·)
def ru(P:Program)(t:TypeId):Option (List (Nat×Nat)):=
 match P.underlying t with
 |some (.struct fs)=>Wf P fs.toList
 |_=>none
def qX(P:Program)(t:TypeId)(parts:List (Nat×D)):Option D:=
 match uw P t with
 |none=>none
 |some z=>
  if !z.notTuple then none else
  match ru P t with
  |some ps=>(uc (λi=>ps[i]?) z.cells parts).map .agg
  |none=>match Vt P t with
   |some (_,e)=>if szT P e=0 then none else(uc (λi=>some (i*szT P e,szT P e)) z.cells parts).map .agg
   |none=>none
def ma(n:Nat)(z:List D):List D:=(List.replicate n z).flatten
def yA(P:Program)(mu:Bool)(nid:Nat)(t:TypeId)(n:Nat)(parts:List (Nat×D))(h:Heap):VR:=
 match ur P t with
 |none=>none
 |some e=>
  match uw P e with
  |none=>none
  |some z=>
   let sz:=szT P e
   if z.notTuple&&z.cells.length=sz&&decide (0<sz)&&decide (n*sz<=16777216)then
    match uc (λi=>some (i*sz,sz)) (ma n z.cells) parts with
    |none=>none
    |some cs=>if mu then some (.rs nid sz 0 n,h.new nid (.row cs))else some (.sl sz (wP sz n cs) .full,h)
   else none
def wr(P:Program)(t:TypeId):Nat:=P.bytesOf t
def Us(sz:Nat)(x:D)(h:Heap):Option (List D):=
 match x with
 |.sl s xs _=>if s=sz then some xs.flatten else none
 |.rs id s off n=>if s=sz then(match h.at' id with
  |some (.row cs)=>if off+n*sz<=cs.length then some ((cs.drop off).take (n*sz))else none
  |_=>none)else none
 |.nilsl=>some []
 |.str s=>if sz=1 then some (s.map λb=>.int .u8 b.toNat)else none
 |_=>none
def ZU(P:Program)(e:TypeId):Bool:=
 match uw P e with
 |some z=>z.cells.length==szT P e&&szT P e !=0
 |none=>false
def oH(P:Program)(e:TypeId)(cs:List D):Obj:=
 match P.underlying e with
 |some (.int k)=>match k with
  |.u8=>.trow e false cs
  |_=>.row cs
 |_=>.row cs
def tt(P:Program)(mu:Bool)(nid:Nat)(e:TypeId)(sz m:Nat)(s:D)(ys:List D)(h:Heap):VR:=
 match s with
 |.nilsl=>
  if m=0 then some (.nilsl,h)
  else if m*wr P e<=lim&&decide (m<=lim)then
   (if mu then some (.rs nid sz 0 m,h.new nid (oH P e ys))else some (.sl sz (wP sz m ys) (.own nid),h.new nid .tok))
  else none
 |.sl sz' xs tk=>
  if sz'=sz&&decide ((xs.length+m)*wr P e<=lim)&&decide (xs.length+m<=lim)then
   match tk with
   |.no=>none
   |.full=>if m=0 then some (.sl sz xs .full,h)else if mu then some (.rs nid sz 0 (xs.length+m),h.new nid (oH P e (xs.flatten++ys)))else some (.sl sz (xs++wP sz m ys) (.own nid),h.new nid .tok)
   |.own i=>match h.at' i with
    |some .tok=>if mu then none else some (.sl sz (xs++wP sz m ys) (.own nid),(h.del i).new nid .tok)
    |_=>none
  else none
 |.rs id sz' off n=>
  if mu&&decide (sz'=sz)&&decide (off=0)&&decide ((n+m)*wr P e<=lim)&&decide (n+m<=lim)then
   match h.at' id with
   |some (.row cs)=>if cs.length=n*sz then some (.rs nid sz 0 (n+m),(h.del id).new nid (.row (cs++ys)))else none
   |some (.trow e2 full cs)=>match full with
    |true=>none
    |false=>if decide (e2=e)&&decide (cs.length=n*sz)then some (.rs nid sz 0 (n+m),(h.del id).new nid (.trow e false (cs++ys)))else none
   |_=>none
  else none
 |_=>none
def qg(P:Program)(mu:Bool)(nid:Nat)(t:TypeId)(s x:D)(h:Heap):VR:=
 match ur P t with
 |none=>none
 |some e=>
  if ZU P e then
   match Us (szT P e) x h with
   |none=>none
   |some ys=>tt P mu nid e (szT P e) (ys.length/szT P e) s ys h
  else none
def t6(s x:D)(h:Heap):Heap:=
 match s with
 |.rs id sz _ n=>match x with
  |.rs _ _ _ _=>h
  |_=>match h.at' id with
   |some (.row cs)=>if decide (n*sz<cs.length)then h.set id (.row (cs.take (n*sz)))else h
   |_=>h
 |_=>h
def md(P:Program)(mu:Bool)(nid:Nat)(t:TypeId)(s x:D)(h:Heap):VR:=
 match mu with
 |true=>qg P true nid t s x (t6 s x h)
 |false=>qg P false nid t s x h
def me(P:Program)(mu:Bool)(nid:Nat)(t u:TypeId)(s x:D)(h:Heap):VR:=
 match P.underlying u with
 |some (.int _)=>match ur P t with
  |some e=>match s with
   |.nilsl=>match x with
    |.int k n=>match k with
     |.i64=>match uw P e with
      |some z=>if mu&&z.notTuple&&decide (z.cells.length=szT P e)&&decide (0<szT P e)&&decide (0<n)&&decide (n.toNat*wr P e<=lim)&&decide (n.toNat<=lim)then
       some (.rs nid (szT P e) 0 n.toNat,h.new nid (oH P e (ma n.toNat z.cells)))else none
      |none=>none
     |_=>none
    |_=>none
   |_=>none
  |none=>none
 |_=>none
def o5(P:Program)(t:TypeId)(x:D)(_:Heap):Option D:=
 match x with
 |.str s=>match P.underlying t with
  |some .string=>some (.int .i64 s.length)
  |_=>none
 |.sl _ xs _=>match P.underlying t with
  |some (.slice _)=>some (.int .i64 xs.length)
  |_=>none
 |.rs _ _ _ n=>match P.underlying t with
  |some (.slice _)=>some (.int .i64 n)
  |_=>none
 |.nilsl=>match P.underlying t with
  |some (.slice _)=>some (.int .i64 0)
  |_=>none
 |.nilmap=>match P.underlying t with
  |some (.map _ _)=>some (.int .i64 0)
  |_=>none
 |_=>none
def uk(P:Program)(mu:Bool)(nid:Nat)(t:TypeId)(l c:D)(h:Heap):VR:=
 match ur P t,l,c with
 |some e,.int _ l,.int _ c=>
  match uw P e with
  |some z=>
   let sz:=szT P e
   if z.notTuple&&z.cells.length=sz&&decide (0<sz)&&decide (0<=l)&&decide (l=c)&&decide (l.toNat*wr P e<=lim)&&decide (l.toNat<=lim)then
    (if mu then some (.rs nid sz 0 l.toNat,h.new nid (.row (ma l.toNat z.cells)))else some (.sl sz (List.replicate l.toNat z.cells) .full,h))
   else none
  |none=>none
 |_,_,_=>none
def kQ(ks:List Kd)(k:D):List (D×D)->Option (Option D)
 | []=>some none
 |(k',v)::es=>match eqK ks k.cells k'.cells with
  |some true=>some (some v)
  |some false=>kQ ks k es
  |none=>none
def LY(ks:List Kd)(k v:D):List (D×D)->Option (List (D×D))
 | []=>some [(k,v)]
 |(k',v')::es=>match eqK ks k.cells k'.cells with
  |some true=>some ((k,v)::es)
  |some false=>(LY ks k v es).map ((k',v'):: ·)
  |none=>none
def No(P:Program)(t:TypeId):Option (TypeId×TypeId):=
 match P.underlying t with
 |some (.map k e)=>some (k,e)
 |_=>none
def yz:Bool->D->Bool
 |true,.agg _=>true
 |true,_=>false
 |false,.agg _=>false
 |false,_=>true
def LH(P:Program)(t:TypeId):Option (Bool×List Kd):=
 match pS P 8 t,agT P t with
 |some ks,some ag=>some (ag,ks)
 |_,_=>none
def VZ(m:D)(h:Heap):Option (List (D×D)):=
 match m with
 |.nilmap=>some []
 |.map id=>match h.at' id with
  |some (.map es)=>some es
  |_=>none
 |_=>none
def gO(ok:Bool)(z:D):Option D->D
 |some v=>if ok then .tuple [v,.bool true]else v
 |none=>if ok then .tuple [z,.bool false]else z
def fw(ag:Bool)(ks:List Kd)(z k:D)(ok:Bool)(es:List (D×D)):Option D:=
 if yz ag k&&(eqK ks k.cells k.cells).isSome&&es.all (λx=>yz ag x.1)then
  match kQ ks k es with
  |some o=>some (gO ok z o)
  |none=>none
 else none
def uW(P:Program)(t:TypeId)(m k:D)(ok:Bool)(h:Heap):Option D:=
 match No P t with
 |none=>none
 |some (kt,e)=>
  match LH P kt with
  |none=>none
  |some (ag,ks)=>
   match uw P e with
   |none=>none
   |some z=>
    match VZ m h with
    |none=>none
    |some es=>fw ag ks z k ok es
def uH(P:Program)(t:TypeId)(m k v:D)(h:Heap):Option Heap:=
 match No P t with
 |none=>none
 |some (kt,_)=>
  match LH P kt with
  |some (ag,ks)=>
   match m with
   |.map id=>match h.at' id with
    |some (.map es)=>if yz ag k&&(eqK ks k.cells k.cells).isSome&&es.all (λx=>yz ag x.1)&&(kQ ks k es).isSome then(match LY ks k v es with
     |some es'=>some (h.set id (.map es'))
     |none=>none)else none
    |_=>none
   |_=>none
  |none=>none
def kE(x:D)(i:Nat):Option D:=
 match x with
 |.tuple vs=>vs[i]?
 |_=>none
def nL:List D->Option (List UInt8)
 | []=>some []
 |d::ds=>match d with
  |.int k n=>match k with
   |.u8=>match nL ds with
    |some s=>some (UInt8.ofNat n.toNat::s)
    |none=>none
   |_=>none
  |_=>none
def ng(P:Program)(src dst:TypeId)(x:D):Option D:=
 match x with
 |.int _ n=>match P.underlying src with
  |some (.int _)=>match P.underlying dst with
   |some (.int k)=>some (.int k (k.wrap n))
   |_=>none
  |_=>none
 |.str s=>match P.underlying src with
  |some .string=>match P.underlying dst with
   |some .string=>some (.str s)
   |some (.slice e)=>match P.underlying e with
    |some (.int .u8)=>some (.sl 1 (s.map λb=>[.int .u8 b.toNat]) .no)
    |_=>none
   |_=>none
  |_=>none
 |.sl sz xs _=>match P.underlying src with
  |some (.slice e)=>match P.underlying e with
   |some (.int .u8)=>match P.underlying dst with
    |some .string=>if sz=1 then(match nL xs.flatten with
     |some s=>some (.str s)
     |none=>none)else none
    |_=>none
   |_=>none
  |_=>none
 |_=>none
def Gy(P:Program)(s d:TypeId)(id:Nat)(h:Heap):Option D:=
 match h.at' id with
 |some (.trow u full cs)=>match full with
  |true=>match P.underlying s with
   |some (.pointer t)=>match P.underlying d with
    |some .unsafePointer=>match P.info? t with
     |some j=>if decide (j.size≠0)&&decide (0<cs.length)then some (.ptr id 0)else none
     |none=>none
    |_=>none
   |some .unsafePointer=>match P.underlying d with
    |some (.pointer t)=>match P.info? t with
     |some _=>if liesAt P P.depth u (cs.length/P.cellsOf u) 0 t 1 then some (.ptr id 0)else none
     |none=>none
    |_=>none
   |_=>none
  |false=>none
 |_=>none
def ZH(P:Program)(s d:TypeId)(x:D)(h:Heap):Option D:=
 match x with
 |.ptr id off=>match off with
  |0=>Gy P s d id h
  |_=>none
 |y=>ng P s d y
def zNG(P:Program)(t:TypeId):Bool:=
 match P.underlying t with
 |some (.pointer _)=>true
 |some .unsafePointer=>true
 |_=>false
def qU(x:D):Option D:=
 match x with
 |.ptr id off=>some (.ptr id off)
 |.iptr cs off=>some (.iptr cs off)
 |.fn (.func f) a c=>some (.fn (.func f) a c)
 |.yld i=>some (.yld i)
 |_=>none
def Jy:D->D->Option D
 |.int k a,.int k' b=>if k=k' then some (.int k (if b<a then b else a))else none
 |_,_=>none
def Zu(t:TypeId)(cs:List D):Obj:=
 match cs with
 | []=>.row []
 |d::ds=>match d with
  |.nilptr=>match ds with
   | []=>.row (d::ds)
   |e::es=>match e with
    |.nilsl=>match es with
     | []=>.trow t true (d::ds)
     |_=>.row (d::ds)
    |_=>.row (d::ds)
  |_=>.row (d::ds)
def Dc:D->D->Option D
 |.int k a,.int k' b=>if k=k' then some (.int k (if b>a then b else a))else none
 |_,_=>none
def MU:D->List D->Option D
 |x,[]=>some x
 |x,y::rest=>match Dc x y with
  |some z=>MU z rest
  |none=>none
def rS(P:Program)(t:TypeId):Bool:=
 match P.underlying t with
 |some (.int _)=>false
 |some _=>true
 |none=>false
def lW(P:Program)(t:TypeId)(x:D)(h:Heap):Option Heap:=
 match x with
 |.nilsl=>match P.underlying t with
  |some (.slice _)=>some h
  |_=>none
 |.sl _ xs _=>match P.underlying t with
  |some (.slice _)=>if xs.length=0 then some h else none
  |_=>none
 |.rs id sz off n=>match ur P t with
  |none=>none
  |some e=>match uw P e with
   |none=>none
   |some z=>if n=0 then some h else if z.notTuple&&decide (z.cells.length=sz)then
     match h.at' id with
     |some (.row cs)=>if off+n*sz<=cs.length then some (h.set id (.row (wg cs (ma n z.cells) off)))else none
     |_=>none
    else none
 |.map id=>match P.underlying t with
  |some (.map _ _)=>match h.at' id with
   |some (.map _)=>some (h.set id (.map []))
   |_=>none
  |_=>none
 |_=>none
def XS(P:Program)(e:TypeId)(id:Nat)(n:Int)(h:Heap):VR:=
 match h.at' id with
 |some (.trow e2 _ cs)=>
  if decide (e2=e)&&decide (szT P e=1)&&decide (0<n)&&decide (n.toNat<=cs.length)&&decide (n.toNat<=lim)then
   match nL (cs.take n.toNat)with
   |some s=>some (.str s,h.del id)
   |none=>none
  else none
 |_=>none
def jU(P:Program)(t:TypeId)(x y:D)(h:Heap):VR:=
 match P.underlying t with
 |some (.pointer e)=>match P.underlying e with
  |some (.int .u8)=>match x with
   |.ptr id off=>match off with
    |0=>match y with
     |.int .i64 n=>XS P e id n h
     |_=>none
    |_=>none
   |.nilptr=>match y with
    |.int .i64 n=>if n=0 then some (.str [],h)else none
    |_=>none
   |_=>none
  |_=>none
 |_=>none
def mf(P:Program)(mu:Bool)(nid:Nat)(b:Builtin)(ats:List TypeId)(args:List D)(h:Heap):VR:=
 match b with
 |.len=>match ats with
  | [t]=>match args with
   | [x]=>(o5 P t x h).map (·,h)
   |_=>none
  |_=>none
 |.append=>match ats with
  | [t,u]=>match args with
   | [s,x]=>if rS P u then md P mu nid t s x h else me P mu nid t u s x h
   |_=>none
  |_=>none
 |.min=>match args with
  | [x,y]=>(Jy x y).map (·,h)
  |_=>none
 |.max=>match args with
  |x::y::rest=>(MU x (y::rest)).map (·,h)
  |_=>none
 |.cap=>match ats with
  | [t]=>match args with
   | [x]=>match x with
    |.nilsl=>match P.underlying t with
     |some (.slice _)=>some (.int .i64 0,h)
     |_=>none
    |_=>none
   |_=>none
  |_=>none
 |.unsafeSliceData=>match ats with
  | [_]=>match args with
   | [x]=>match x with
    |.rs id _ off n=>match n,off with
     |0,_=>none
     |_,0=>some (.ptr id 0,h)
     |_,_=>none
    |.nilsl=>some (.nilptr,h)
    |_=>none
   |_=>none
  |_=>none
 |.unsafeString=>match ats with
  | [t,_]=>match args with
   | [x,y]=>jU P t x y h
   |_=>none
  |_=>none
 |.clear=>match ats with
  | [t]=>match args with
   | [x]=>(lW P t x h).map (rJ,·)
   |_=>none
  |_=>none
 |_=>none
def zGH(P:Program)(t:TypeId):Bool:=
 match P.underlying t with
 |some (.interface _)=>false
 |some _=>true
 |none=>false
def A6(P:Program)(t:TypeId)(x:D)(f:Nat):Option D:=
 match qT P t f with
 |some (off,ft)=>match x with
  |.agg cs=>match agT P ft with
   |some ag=>yQ ag (szT P ft) cs off
   |none=>none
  |_=>none
 |none=>none
def rx(s:List UInt8)(pos:Nat):Nat×Nat:=Utf8.decode ⟨s.toArray⟩ pos
def Vl(x:D)(isS:Bool)(h:Heap):VR:=
 match x with
 |.ptr id off=>match h.at' id with
  |some (.siter s pos)=>
   if isS&&decide (off=0)then
    if pos<s.length then
     (if decide (s.length<=lim)&&IntKind.i32.wrap (rx s pos).1==((rx s pos).1:Int)then some (.tuple [.bool true,.int .i64 pos,.int .i32 (rx s pos).1],h.set id (.siter s (pos+(rx s pos).2)))else none)
    else some (.tuple [.bool false],h)
   else none
  |_=>none
 |_=>none
def VE(P:Program)(nid:Nat)(t:TypeId)(x:D)(h:Heap):VR:=
 match x with
 |.str s=>match P.underlying t with
  |some .string=>some (.ptr nid 0,h.new nid (.siter s 0))
  |_=>none
 |_=>none
def vop(P:Program)(mu:Bool)(nid:Nat)(o:Op)(ev:Operand->D)(h:Heap):VR:=
 match o with
 |.move x=>some (ev x,h)
 |.assign x=>some (ev x,h)
 |.pick c a b=>match ev c with
  |.bool true=>some (ev a,h)
  |.bool false=>some (ev b,h)
  |_=>none
 |.alloc t=>match uw P t with
  |some z=>if z.notTuple then some (.ptr nid 0,h.new nid (Zu t z.cells))else none
  |none=>none
 |.box _ x=>if(ev x).notTuple then(if mu then some (.ptr nid 0,h.new nid (.row (ev x).cells))else some (.iptr (ev x).cells 0,h))else none
 |.build t parts=>(qX P t (parts.toList.map λp=>(p.1,ev p.2))).map (·,h)
 |.buildSlice t n parts=>yA P mu nid t n (parts.toList.map λp=>(p.1,ev p.2)) h
 |.load t a=>(jT P t (ev a) h).map (·,h)
 |.store t a x=>(yR P t (ev a) (ev x) h).map (rJ,·)
 |.nilCheck x=>(qU (ev x)).map (·,h)
 |.binOp op t x y _=>(jR P op t (isC x||isC y) (ev x) (ev y)).map (·,h)
 |.unOp op _ x=>(vun op (ev x)).map (·,h)
 |.convert s d x=>(ZH P s d (ev x) h).map (·,h)
 |.makeFunc g a c=>match g with
  |.func f=>some (.fn (.func f) (a.toList.map ev) (c.toList.map ev),h)
  |_=>none
 |.makeMap _ r=>match r with
  |none=>some (.map nid,h.new nid (.map []))
  |some _=>none
 |.makeSlice t l c=>uk P mu nid t (ev l) (ev c) h
 |.slice t x lo hi mx=>(ww P t (ev x) (lo.map ev) (hi.map ev) (mx.map ev) h).map (·,h)
 |.fieldAddr s x f=>(oM P s (ev x) f).map (·,h)
 |.field s x f=>(A6 P s (ev x) f).map (·,h)
 |.indexAddr t x i=>(yj P t (ev x) (ev i)).map (·,h)
 |.index t x i=>(mG P t (ev x) (ev i)).map (·,h)
 |.lookup t m k ok=>(uW P t (ev m) (ev k) ok h).map (·,h)
 |.mapUpdate t m k v=>(uH P t (ev m) (ev k) (ev v) h).map (rJ,·)
 |.insert t m k v=>(uH P t (ev m) (ev k) (ev v) h).map (rJ,·)
 |.extract x i=>(kE (ev x) i).map (·,h)
 |.range t x=>VE P nid t (ev x) h
 |.next x isS=>Vl (ev x) isS h
 |.makeInterface t x=>if zGH P t then some (.iface t (ev x),h)else none
 |.call c=>match c.callee with
  |.builtin b=>mf P mu nid b c.argTypes.toList (c.args.toList.map ev) h
  |_=>none
 |_=>none
end Go.V
