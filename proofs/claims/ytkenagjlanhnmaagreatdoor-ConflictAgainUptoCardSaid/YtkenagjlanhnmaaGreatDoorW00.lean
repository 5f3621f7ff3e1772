/- A machine of abstract values for programs of the model, and its soundness, part 1. No condition. -/
import Derived.RangeFuncLeaves
import Derived.OrdersIn
import Derived.TacticsIn
import Derived.Laws.AppendOwn
import Derived.Below
set_option linter.all false
set_option maxHeartbeats 8000000
namespace Go.V
theorem ow{p:Prop}(h:p:=by omega):p:=h
theorem ip{c:Prop}{_:Decidable c}(h:c){α:Sort _}{t e:α}:ite c t e=t:=if_pos h
theorem iq{c:Prop}{_:Decidable c}(h:¬c){α:Sort _}{t e:α}:ite c t e=e:=if_neg h
def xc(l:List Nat)(t:Nat):Bool:=List.contains l t
@[go_sem] theorem xE(l:List Nat)(t:Nat):xc l t=List.contains l t:=(rfl)
theorem kr{p:Prop}(h:p:=by kernel_rfl):p:=h
def lW:=@Array.any_eq_true'
def sS:=@Array.ext'
def uO:=@Array.getD_eq_getD_getElem?
def tr:=@Array.getElem?_append_left
def sK:=@Array.getElem?_eq_getElem
def rL:=@Array.getElem?_eq_none
def yJ:=@Array.getElem?_eq_some_iff
def rV:=@Array.getElem?_modify
def tL:=@Array.getElem?_setIfInBounds
def qn:=@Array.getElem?_toList
def yQ:=@Array.length_toList
def mZ:=@Array.toList_append
def ua:=@Array.toList_map
def dP:=@Bool.and_assoc
def zF:=@Bool.and_eq_true
def pU:=@Bool.and_false
def wu:=@Bool.and_self
def rx:=@Bool.and_true
def jJ:=@Bool.beq_comm
def kR:=@Bool.eq_false_iff
def wV:=@Bool.false_and
def zl:=@Bool.false_eq_true
def zZ:=@Bool.false_ne_true
def ry:=@Bool.false_or
def rz:=@Bool.not_eq_false
def qM:=@Bool.not_eq_true'
def nO:=@Bool.not_false
def pM:=@Bool.or_eq_false_iff
def qB:=@Bool.or_eq_true
def cj:=@Bool.or_false
def ZX:=@Bool.or_self
def gL:=@Bool.or_true
def tz:=@Bool.true_and
def lX:=@Bool.true_or
def uu:=@Classical.byContradiction
def gM:=@DataW.trod_bool
def dQ:=@DataW.trod_int
def j0:=@DataW.trod_slice
def kS:=@DataW.trod_string
def kT:=@DataW.trod_struct
def kV:=@Function.comp_def
def tM:=@Int.eq_ofNat_of_zero_le
def jK:=@Int.le_refl
def ma:=@Int.natCast_mul
def zI:=@Int.ofNat_zero
def ui:=@Int.toNat_natCast
def uP:=@List.all_append
def uv:=@List.all_cons
def zo:=@List.all_eq_true
def cn:=@List.any_cons
def pC:=@List.any_eq_false
def yu:=@List.any_eq_true
def ZY:=@List.any_map
def qh:=@List.append_assoc
def hZ:=@List.append_eq_nil_iff
def yL:=@List.append_nil
def mb:=@List.attach_map_subtype_val
def cq:=@List.cons.inj
def rW:=@List.cons.injEq
def yE:=@List.cons_append
def u9:=@List.contains_cons
def pN:=@List.contains_eq_mem
def mD:=@List.count_le_length
def j5:=@List.drop_append
def nv:=@List.drop_append_of_le_length
def uN:=@List.drop_drop
def yf:=@List.drop_eq_getElem_cons
def rM:=@List.drop_eq_nil_of_le
def nw:=@List.drop_length
def th:=@List.drop_of_length_le
def mc:=@List.drop_set_of_lt
def wb:=@List.drop_zero
def yY:=@List.eq_nil_of_length_eq_zero
def wx:=@List.eraseIdx_sublist
def lT:=@List.exists_cons_of_ne_nil
def kA:=@List.exists_mem_of_ne_nil
def j6:=@List.ext_getElem
def sT:=@List.ext_getElem?
def md:=@List.filterMap_cons
def sU:=@List.filterMap_cons_some
def lY:=@List.filterMap_map
def oG:=@List.filter_append
def su:=@List.filter_cons
def tN:=@List.filter_cons_of_neg
def tO:=@List.filter_cons_of_pos
def lZ:=@List.find?_eq_none
def sX:=@List.find?_eq_some_iff_getElem
def wq:=@List.findIdx?_eq_none_iff
def qi:=@List.findIdx?_eq_some_iff_getElem
def dy:=@List.findIdx_append
def sO:=@List.findIdx_getElem
def ug:=@List.findIdx_lt_length
def pp:=@List.flatMap_append
def oo:=@List.flatMap_cons
def oH:=@List.flatMap_eq_nil_iff
def yS:=@List.flatten_cons
def zC:=@List.getD_eq_getElem?_getD
def yg:=@List.getElem?_append_left
def yT:=@List.getElem?_append_right
def we:=@List.getElem?_cons_succ
def wK:=@List.getElem?_cons_zero
def qX:=@List.getElem?_drop
def zB:=@List.getElem?_eq_getElem
def t4:=@List.getElem?_eq_none
def pV:=@List.getElem?_eq_none_iff
def zK:=@List.getElem?_eq_some_iff
def gA:=@List.getElem?_eraseIdx
def zj:=@List.getElem?_map
def me:=@List.getElem?_range
def ou:=@List.getElem?_set
def pO:=@List.getElem?_set_ne
def gB:=@List.getElem?_set_self
def yF:=@List.getElem?_take
def t5:=@List.getElem?_toArray
def oZ:=@List.getElem_cons_succ
def qr:=@List.getElem_map
def zH:=@List.getElem_mem
def nS:=@List.getElem_set_self
def tj:=@List.head?_eq_getElem?
def rO:=@List.head?_eq_none_iff
def zR:=@List.length_append
def zm:=@List.length_cons
def tF:=@List.length_drop
def yM:=@List.length_eq_zero_iff
def pP:=@List.length_eraseIdx
def uA:=@List.length_filter_le
def zG:=@List.length_map
def yo:=@List.length_nil
def yA:=@List.length_pos_iff
def pD:=@List.length_range
def gN:=@List.length_replicate
def dz:=@List.length_reverse
def uQ:=@List.length_set
def t6:=@List.length_singleton
def yR:=@List.length_take
def dR:=@List.lt_irrefl
def wH:=@List.map_append
def wL:=@List.map_congr_left
def qm:=@List.map_cons
def wv:=@List.map_eq_nil_iff
def d7:=@List.map_id
def wF:=@List.map_map
def nT:=@List.map_nil
def tR:=@List.map_set
def jL:=@List.map_take
def j7:=@List.map_toArray
def yp:=@List.mem_append
def tK:=@List.mem_append_left
def rX:=@List.mem_append_right
def zw:=@List.mem_cons
def zt:=@List.mem_cons_of_mem
def qG:=@List.mem_cons_self
def wZ:=@List.mem_filter
def z5:=@List.mem_flatMap
def yD:=@List.mem_iff_getElem
def yw:=@List.mem_iff_getElem?
def zM:=@List.mem_map
def zg:=@List.mem_of_getElem?
def dG:=@List.mem_of_mem_drop
def t7:=@List.mem_of_mem_head?
def sP:=@List.mem_of_mem_take
def uw:=@List.mem_or_eq_of_mem_set
def qT:=@List.mem_range
def ze:=@List.mem_singleton
def lg:=@List.ne_nil_of_mem
def yc:=@List.nil_append
def cr:=@List.nil_perm
def oI:=@List.nodup_cons
def kC:=@List.nodup_nil
def qt:=@List.not_mem_nil
def t8:=@List.pairwise_cons
def uy:=@List.pairwise_iff_getElem
def tT:=@List.pairwise_map
def jM:=@List.pairwise_singleton
def mf:=@List.range_succ
def tX:=@List.replicate_succ
def nU:=@List.set_append_right
def lh:=@List.set_cons_succ
def t9:=@List.set_cons_zero
def gO:=@List.set_getElem_self
def qy:=@List.size_toArray
def qP:=@List.take_append_drop
def wQ:=@List.take_append_of_le_length
def gP:=@List.take_left'
def z6:=@List.take_length
def yV:=@List.take_of_length_le
def jN:=@List.take_one
def mg:=@List.take_set_of_le
def pq:=@List.take_succ_cons
def zQ:=@List.take_succ_eq_append_getElem
def kD:=@List.take_zero
def oJ:=@List.zip_cons_cons
def wA:=@Nat.add_assoc
def gQ:=@Nat.add_comm
def wD:=@Nat.add_mul
def uR:=@Nat.add_sub_cancel_left
def uB:=@Nat.add_zero
def kW:=@Nat.blt_eq
def nV:=@Nat.div_lt_iff_lt_mul
def ye:=@Nat.eq_of_beq_eq_true
def lm:=@Nat.eq_zero_or_pos
def j8:=@Nat.le_max_right
def gD:=@Nat.le_mul_of_pos_left
def nW:=@Nat.le_of_ble_eq_true
def zD:=@Nat.le_refl
def zf:=@Nat.le_trans
def wN:=@Nat.lt_irrefl
def zq:=@Nat.lt_of_lt_of_le
def z7:=@Nat.lt_succ_iff_lt_or_eq
def sv:=@Nat.lt_succ_self
def mh:=@Nat.min_eq_left
def aX:=@Nat.mod_lt
def tt:=@Nat.mod_two_eq_zero_or_one
def gR:=@Nat.mul_comm
def tA:=@Nat.mul_div_cancel
def kE:=@Nat.mul_le_mul
def mi:=@Nat.mul_le_mul_left
def yv:=@Nat.mul_le_mul_right
def ww:=@Nat.mul_one
def Yh:=@Nat.mul_pos
def ZZ:=@Nat.ne_of_lt
def yq:=@Nat.not_lt_zero
def ov:=@Nat.one_mul
def ln:=@Nat.sub_self
def sY:=@Nat.sub_zero
def ny:=@Nat.succ_lt_succ
def qf:=@Nat.succ_mul
def yZ:=@Nat.zero_add
def yC:=@Nat.zero_le
def sZ:=@Nat.zero_mul
def jO:=@Ne.symm
def sg:=@Option.bind_eq_some_iff
def sw:=@Option.bind_some
def zA:=@Option.getD_some
def uC:=@Option.isSome_iff_exists
def sC:=@Option.isSome_none
def sD:=@Option.isSome_some
def zh:=@Option.map_eq_some_iff
def wB:=@Option.map_some
def oK:=@Option.some.inj
def uD:=@Option.some.injEq
def zX:=@Result.andThen_ok
def zx:=@Sem.run_bind
def yN:=@Sem.run_pure
def gS:=@UInt8.toNat_inj
def kF:=@World.alloc_eq
def wj:=@World.cell?_of_block
def zV:=@and_true
def yr:=@beq_eq_false_iff_ne
def qN:=@beq_iff_eq
def nz:=@beq_self_eq_true
def fX:=@bne_iff_ne
def Zg:=@callsIn_wide
def zP:=@decide_eq_false
def wg:=@decide_eq_false_iff_not
def zS:=@decide_eq_true
def zO:=@decide_eq_true_eq
def cG:=@decide_true
def XO:=@getD_set_ne
def uH:=@getElem!_pos
def XP:=@grownCap_ge
def yy:=@if_false
def qS:=@if_true
def Xk:=@not_or
def yO:=@of_decide_eq_false
def yK:=@of_decide_eq_true
def pj:=@or_false
def ZJ:=@run_newObj
def sV:=@run_storeCells_at
def zU:=@run_underlying
def lK:=@setRow_heap
def ni:=@setRow_other
def bq:=@setRow_output
def cT:=@setRow_size
def X6:=@setRow_tape
def df:=@size_zeroCells
def zT:=@true_and
def jG:=@wpIn_mono
inductive Tk where
 |no|full|own (t:Nat)
inductive D where
 |bool (b:Bool)
 |int (k:IntKind) (n:Int)
 |str (s:List UInt8)
 |nilptr
 |ptr (id off:Nat)
 |iptr (cs:List D) (off:Nat)
 |nilsl
 |sl (sz:Nat) (xs:List (List D)) (tk:Tk)
 |rs (id sz off len:Nat)
 |nilmap
 |map (id:Nat)
 |fn (f:Fn) (first cap:List D)
 |yld (id:Nat)
 |nilfn
 |agg (cs:List D)
 |tuple (cs:List D)
 |iface (t:TypeId) (v:D)
 |niliface
abbrev Frm:=Nat->D
def rD:D:=.tuple []
structure LRec where
 st:LoopState
 pending:Option Code
 fr:Frm
 params:Array Tmp
 assign:Code
 body:Code
 n:Nat
inductive Obj where
 |row (cs:List D)
 |tok
 |map (es:List (D×D))
 |loop (r:LRec)
 |siter (s:List UInt8) (pos:Nat)
 |trow (t:TypeId) (full:Bool) (cs:List D)
structure Heap where
 next:Nat
 at':Nat->Option Obj
def Heap.set(h:Heap)(i:Nat)(o:Obj):Heap:= { next:=h.next,at':=λj=>if j=i then some o else h.at' j }
def Heap.del(h:Heap)(i:Nat):Heap:= { next:=h.next,at':=λj=>if j=i then none else h.at' j }
def Heap.new(h:Heap)(i:Nat)(o:Obj):Heap:= { next:=max h.next (i+1),at':=λj=>if j=i then some o else h.at' j }
def D.cells:D->List D
 |.agg cs=>cs
 |d=>[d]
def D.flat:D->Bool
 |.agg _=>false
 |.tuple _=>false
 |_=>true
def D.notTuple:D->Bool
 |.tuple _=>false
 |_=>true
def lim:Nat:=140737488355328
mutual
def cst:Value->D
 |.bool b=>.bool b
 |.int k n=>.int k n
 |.string s=>.str s.data.toList
 |.pointer none=>.nilptr
 |.slice none 0 0=>.nilsl
 |.map none=>.nilmap
 |.nilFunc=>.nilfn
 |.nilIface=>.niliface
 |.agg cs=>.agg (D6 cs.toList)
 |.tuple cs=>.tuple (D6 cs.toList)
 |_=>.tuple []
def D6:List Value->List D
 | []=>[]
 |v::vs=>cst v::D6 vs
end
mutual
def kb:Value->Bool
 |.bool _=>true
 |.int k n=>k.wrap n==n
 |.string s=>decide (s.data.toList.length<=lim)
 |.pointer none=>true
 |.slice none 0 0=>true
 |.map none=>true
 |.nilFunc=>true
 |.nilIface=>true
 |.agg cs=>XB cs.toList&&cs.toList.all (·.oneCell')
 |.tuple cs=>XB cs.toList
 |_=>false
def XB:List Value->Bool
 | []=>true
 |v::vs=>kb v&&XB vs
end
def wE(fr:Frm):Operand->D
 |.tmp t=>fr t
 |.const v=>cst v
 |.global _=>.tuple []
 |.func f=>.fn (.func f) [] []
def WS(a b:List UInt8):Bool:=Op.bytesLess a b
def Ml(op:BinOp)(k:IntKind)(a b:Int):Option D:=
 match op with
 |.add=>some (.int k (k.wrap (a+b)))
 |.sub=>some (.int k (k.wrap (a-b)))
 |.mul=>some (.int k (k.wrap (a*b)))
 |.quo=>if b=0 then none else some (.int k (k.wrap (a.tdiv b)))
 |.rem=>if b=0 then none else some (.int k (a.tmod b))
 |.and=>some (.int k (k.wrap (BitVec.ofInt k.bits a &&& BitVec.ofInt k.bits b).toNat))
 |.or=>some (.int k (k.wrap (BitVec.ofInt k.bits a |||BitVec.ofInt k.bits b).toNat))
 |.xor=>some (.int k (k.wrap (BitVec.ofInt k.bits a ^^^ BitVec.ofInt k.bits b).toNat))
 |.andNot=>some (.int k (k.wrap (BitVec.ofInt k.bits a &&& ~~~BitVec.ofInt k.bits b).toNat))
 |.eql=>some (.bool (a==b))
 |.neq=>some (.bool (a !=b))
 |.lss=>some (.bool (decide (a<b)))
 |.leq=>some (.bool (decide (a<=b)))
 |.gtr=>some (.bool (decide (a>b)))
 |.geq=>some (.bool (decide (a>=b)))
 |_=>none
def QY(op:BinOp)(k:IntKind)(a b:Int):Option D:=
 if b<0 then none else
 match op with
 |.shl=>some (.int k (k.wrap (a*2^ (min b.toNat k.bits))))
 |.shr=>some (.int k (a.fdiv (2^ (min b.toNat k.bits))))
 |_=>none
def Hm(op:BinOp)(a b:List UInt8):Option D:=
 match op with
 |.add=>if a.length+b.length<=lim then some (.str (a++b))else none
 |.eql=>some (.bool (a==b))
 |.neq=>some (.bool (!(a==b)))
 |.lss=>some (.bool (WS a b))
 |.leq=>some (.bool (WS a b||a==b))
 |.gtr=>some (.bool !(WS a b||a==b))
 |.geq=>some (.bool !(WS a b))
 |_=>none
inductive Kd where
 |b|i|s
def eqK:List Kd->List D->List D->Option Bool
 | [],[],[]=>some true
 |.b::ks,.bool x::as,.bool y::bs=>(eqK ks as bs).map (x==y&& ·)
 |.i::ks,.int k x::as,.int k' y::bs=>if k=k' then(eqK ks as bs).map (x==y&& ·)else none
 |.s::ks,.str x::as,.str y::bs=>(eqK ks as bs).map (x==y&& ·)
 |_,_,_=>none
def veq:Option TypeDesc->D->D->Option Bool
 |some .bool,.bool a,.bool b=>some (a==b)
 |some (.pointer _),.nilptr,.nilptr=>some true
 |some (.pointer _),.nilptr,.ptr _ _=>some false
 |some (.pointer _),.ptr _ _,.nilptr=>some false
 |some (.pointer _),.nilptr,.iptr _ _=>some false
 |some (.pointer _),.iptr _ _,.nilptr=>some false
 |some (.slice _),.nilsl,.nilsl=>some true
 |some (.slice _),.nilsl,.sl _ _ _=>some false
 |some (.slice _),.sl _ _ _,.nilsl=>some false
 |some (.slice _),.nilsl,.rs _ _ _ _=>some false
 |some (.slice _),.rs _ _ _ _,.nilsl=>some false
 |some (.map _ _),.nilmap,.nilmap=>some true
 |some (.map _ _),.nilmap,.map _=>some false
 |some (.map _ _),.map _,.nilmap=>some false
 |some (.func _ _ _),.nilfn,.nilfn=>some true
 |some (.func _ _ _),.nilfn,.fn _ _ _=>some false
 |some (.func _ _ _),.fn _ _ _,.nilfn=>some false
 |some (.func _ _ _),.nilfn,.yld _=>some false
 |some (.func _ _ _),.yld _,.nilfn=>some false
 |_,_,_=>none
def XW(kd:TypeId->Option (List Kd))(sz:TypeId->Nat):List Field->Nat->Nat->Option (List Kd)
 | [],off,n=>if off==n then some []else none
 |f::fs,off,n=>
  if f.name != "_" &&f.offset==off&&sz f.type !=0 then
   match kd f.type with
   |some ks=>if ks.length==sz f.type then(XW kd sz fs (off+ks.length) n).map (ks++ ·)else none
   |none=>none
  else none
def pK(P:Program):Nat->TypeId->Option (List Kd)
 |0,_=>none
 |d+1,t=>
  match P.underlying t with
  |some .bool=>if P.cellsOf t==1 then some [.b]else none
  |some (.int _)=>if P.cellsOf t==1 then some [.i]else none
  |some .string=>if P.cellsOf t==1 then some [.s]else none
  |some (.struct fs)=>if P.stoodInHeld t then none else XW (pK P d) P.cellsOf fs.toList 0 (P.cellsOf t)
  |_=>none
def eqT(P:Program)(t:TypeId):Option (List Kd):=
 match P.underlying t with
 |some (.struct _)=>if P.eqGuardType P.depth t then none else pK P 8 t
 |_=>none
def oe(op:BinOp)(f g:Option D):Option D:=
 match op with
 |.eql=>f
 |.neq=>g
 |_=>none
def FZ(P:Program)(op:BinOp)(t:TypeId)(x y:D):Option D:=
 oe op ((veq (P.underlying t) x y).map .bool) ((veq (P.underlying t) x y).map λb=>.bool (!b))
def KA(op:BinOp)(ks:List Kd)(as bs:List D):Option D:=
 oe op ((eqK ks as bs).map .bool) ((eqK ks as bs).map λb=>.bool (!b))
def lQ(op:BinOp)(k k':IntKind)(a b:Int):Option D:=
 match op with
 |.shl=>QY op k a b
 |.shr=>QY op k a b
 |_=>if k=k' then Ml op k a b else none
def KH(P:Program)(op:BinOp)(t:TypeId)(r:Bool):Option D:=
 match P.underlying t with
 |some (.interface _)=>oe op (some (.bool r)) (some (.bool (!r)))
 |_=>none
def BJ(P:Program)(op:BinOp)(t:TypeId):Option D:=
 match P.underlying t with
 |some (.pointer e)=>match P.info? e with
  |some _=>oe op (some (.bool true)) (some (.bool false))
  |none=>none
 |_=>none
def isC:Operand->Bool
 |.const _=>true
 |_=>false
def jI(P:Program)(op:BinOp)(t:TypeId)(c:Bool)(x y:D):Option D:=
 match x with
 |.niliface=>match y with
  |.niliface=>if c then KH P op t true else none
  |.iface _ _=>KH P op t false
  |_=>none
 |.iface _ _=>match y with
  |.niliface=>KH P op t false
  |_=>none
 |.int k a=>match y with
  |.int k' b=>lQ op k k' a b
  |_=>none
 |.str a=>match y with
  |.str b=>Hm op a b
  |_=>none
 |.agg as=>match y with
  |.agg bs=>match eqT P t with
   |some ks=>KA op ks as bs
   |none=>none
  |_=>none
 |.ptr i a=>match y with
  |.ptr j b=>match Nat.beq i j&&Nat.beq a b with
   |true=>BJ P op t
   |false=>none
  |y=>FZ P op t (.ptr i a) y
 |x=>FZ P op t x y
def vun(op:UnOp)(x:D):Option D:=
 match op,x with
 |.neg,.int k n=>some (.int k (k.wrap (0-n)))
 |.not,.bool b=>some (.bool !b)
 |_,_=>none
def yW(ag:Bool)(n:Nat)(cs:List D)(off:Nat):Option D:=
 if ag then(if n=0 then none else if off+n<=cs.length then some (.agg ((cs.drop off).take n))else none)else cs[off]?
def wo(cs vs:List D)(off:Nat):List D:=cs.take off++vs++cs.drop (off+vs.length)
def agT(P:Program)(t:TypeId):Option Bool:=
 match P.underlying t with
 |some (.struct _)=>some true
 |some (.array _ _)=>some true
 |some _=>some false
 |none=>none
def szT(P:Program)(t:TypeId):Nat:=P.cellsOf t
def tJ(P:Program)(t:TypeId):Option D:=
 match(P.info? t).bind (·.zero)with
 |some z=>if kb z then some (cst z)else none
 |none=>none
def qV(P:Program)(t:TypeId)(f:Nat):Option (Nat×TypeId):=
 match P.underlying t with
 |some (.struct fs)=>match fs[f]? with
  |some f=>some (f.offset,f.type)
  |none=>none
 |_=>none
def tG(P:Program)(t:TypeId):Option TypeId:=
 match P.underlying t with
 |some (.slice e)=>some e
 |_=>none
def Wt(P:Program)(t:TypeId):Option (Nat×TypeId):=
 match P.underlying t with
 |some (.array n e)=>some (n,e)
 |_=>none
abbrev VR:=Option (D×Heap)
def lR(P:Program)(t:TypeId)(a:D)(h:Heap):Option D:=
 match agT P t with
 |none=>none
 |some ag=>
  match a with
  |.iptr cs off=>yW ag (szT P t) cs off
  |.ptr id off=>match h.at' id with
   |some (.row cs)=>yW ag (szT P t) cs off
   |some (.trow _ _ cs)=>yW ag (szT P t) cs off
   |_=>none
  |_=>none
def yX(P:Program)(t:TypeId)(a x:D)(h:Heap):Option Heap:=
 match a with
 |.ptr id off=>match h.at' id with
  |some (.row cs)=>
   if szT P t≠0&&x.cells.length=szT P t&&off+x.cells.length<=cs.length&&x.cells.all D.flat then some (h.set id (.row (wo cs x.cells off)))else none
  |some (.trow u b cs)=>
   if szT P t≠0&&x.cells.length=szT P t&&off+x.cells.length<=cs.length&&x.cells.all D.flat then some (h.set id (.trow u b (wo cs x.cells off)))else none
  |_=>none
 |_=>none
def p7(P:Program)(s:TypeId)(x:D)(f:Nat):Option D:=
 match qV P s f with
 |some (off,ft)=>
  if szT P ft=0 then none else
  match x with
  |.iptr cs o=>some (.iptr cs (o+off))
  |.ptr id o=>some (.ptr id (o+off))
  |_=>none
 |none=>none
def yt(P:Program)(t:TypeId)(x i:D):Option D:=
 match i with
 |.int _ n=>
  match tG P t with
  |some e=>
   match x with
   |.sl sz xs _=>if sz=szT P e then(if 0<=n then(match xs[n.toNat]? with|some c=>some (.iptr c 0)|none=>none)else none)else none
   |.rs id sz off len=>if sz=szT P e&&decide (0<=n)&&decide (n<len)then some (.ptr id (off+n.toNat*sz))else none
   |_=>none
  |none=>
   match Wt P t with
   |some (len,e)=>
    if decide (0<=n)&&decide (n<len)&&decide (szT P e≠0)then
     match x with
     |.iptr cs o=>some (.iptr cs (o+n.toNat*szT P e))
     |.ptr id o=>some (.ptr id (o+n.toNat*szT P e))
     |_=>none
    else none
   |none=>none
 |_=>none
def nn(P:Program)(t:TypeId)(x i:D):Option D:=
 match i with
 |.int _ n=>
  match x with
  |.str s=>match P.underlying t with
   |some .string=>if 0<=n then(match s[n.toNat]? with|some b=>some (.int .u8 b.toNat)|none=>none)else none
   |_=>none
  |.agg cs=>
   match Wt P t with
   |some (len,e)=>match agT P e with
    |some ag=>if decide (0<=n)&&decide (n<len)then yW ag (szT P e) cs (n.toNat*szT P e)else none
    |none=>none
   |none=>none
  |_=>none
 |_=>none
def VA(n:Nat):Option D->Option Nat
 |none=>some n
 |some (.int _ h)=>if decide (0<=h)&&decide (h<=n)then some h.toNat else none
 |some _=>none
def Td(h:Nat):Option D->Option Nat
 |none=>some 0
 |some (.int _ l)=>if decide (0<=l)&&decide (l<=h)then some l.toNat else none
 |some _=>none
def rR(n:Nat)(lo hi:Option D):Option (Nat×Nat):=
 match VA n hi with
 |none=>none
 |some h=>match Td h lo with
  |none=>none
  |some l=>some (l,h)
def PE(hi:Nat)(n:Nat):Tk->Tk
 |.full=>if hi=n then .full else .no
 |_=>.no
def jv(n:Nat)(lo:Option D)(hi m:D):Option (Nat×Nat):=
 match VA n (some m)with
 |none=>none
 |some mm=>match VA mm (some hi)with
  |none=>none
  |some u=>if u=mm then(match Td u lo with
   |none=>none
   |some l=>some (l,u))else none
def ND(P:Program)(t:TypeId)(x:D)(lo:Option D)(hi m:D):Option D:=
 match tG P t with
 |none=>none
 |some e=>if szT P e=0 then none else
  match x with
  |.sl sz xs _=>if sz=szT P e then(match jv xs.length lo hi m with
   |some (l,u)=>some (.sl sz ((xs.take u).drop l) .full)
   |none=>none)else none
  |.rs _ sz _ len=>if sz=szT P e then(match jv len lo hi m with
   |some (l,u)=>if l=u then some (.sl sz [] .full)else none
   |none=>none)else none
  |.nilsl=>match jv 0 lo hi m with
   |some _=>some .nilsl
   |none=>none
  |_=>none
def fR(P:Program)(t:TypeId)(x:D)(lo hi mx:Option D):Option D:=
 match mx with
 |some m=>match hi with
  |some hi=>ND P t x lo hi m
  |none=>none
 |none=>
  match x with
  |.str s=>match P.underlying t with
   |some .string=>match rR s.length lo hi with
    |some (l,h)=>some (.str ((s.take h).drop l))
    |none=>none
   |_=>none
  |.sl sz xs tk=>match tG P t with
   |some e=>if sz=szT P e then(match rR xs.length lo hi with
    |some (l,h)=>some (.sl sz ((xs.take h).drop l) (PE h xs.length tk))
    |none=>none)else none
   |none=>none
  |.rs id sz off len=>match tG P t with
   |some e=>if sz=szT P e then(match rR len lo hi with
    |some (l,h)=>some (.rs id sz (off+l*sz) (h-l))
    |none=>none)else none
   |none=>none
  |.nilsl=>match tG P t with
   |some e=>if szT P e=0 then none else match rR 0 lo hi with
    |some _=>some .nilsl
    |none=>none
   |none=>none
  |_=>none
def wR(sz:Nat):Nat->List D->List (List D)
 |0,_=>[]
 |n+1,cs=>cs.take sz::wR sz n (cs.drop sz)
def TV(P:Program)(n:Nat)(e:TypeId)(x:D)(lo hi:Option D)(h:Heap):Option D:=
 if decide (0<szT P e)&&decide (n<=lim)then
  match rR n lo hi with
  |none=>none
  |some (l,u)=>match x with
   |.ptr id off=>match h.at' id with
    |some (.row cs)=>if off+n*szT P e<=cs.length then some (.rs id (szT P e) (off+l*szT P e) (u-l))else none
    |_=>none
   |.iptr cs off=>if off+n*szT P e<=cs.length then some (.sl (szT P e) (((wR (szT P e) n (cs.drop off)).take u).drop l) (if u=n then .full else .no))else none
   |_=>none
 else none
def uZ(P:Program)(t:TypeId)(x:D)(lo hi mx:Option D)(h:Heap):Option D:=
 match Wt P t with
 |some (n,e)=>match mx with
  |none=>TV P n e x lo hi h
  |some _=>none
 |none=>fR P t x lo hi mx
def ur(place:Nat->Option (Nat×Nat))(cs:List D):List (Nat×D)->Option (List D)
 | []=>some cs
 |(i,d)::rest=>match place i with
  |none=>none
  |some (off,size)=>if d.notTuple&&d.cells.length=size&&off+size<=cs.length then ur place (wo cs d.cells off) rest else none
def Xo(P:Program):List Field->Option (List (Nat×Nat))
 | []=>some []
 |f::fs=>if szT P f.type=0 then none else(Xo P fs).map ((f.offset,szT P f.type):: ·)
def rh(P:Program)(t:TypeId):Option (List (Nat×Nat)):=
 match P.underlying t with
 |some (.struct fs)=>Xo P fs.toList
 |_=>none
def qd(P:Program)(t:TypeId)(parts:List (Nat×D)):Option D:=
 match tJ P t with
 |none=>none
 |some z=>
  if !z.notTuple then none else
  match rh P t with
  |some ps=>(ur (λi=>ps[i]?) z.cells parts).map .agg
  |none=>match Wt P t with
   |some (_,e)=>if szT P e=0 then none else(ur (λi=>some (i*szT P e,szT P e)) z.cells parts).map .agg
   |none=>none
def lV(n:Nat)(z:List D):List D:=(List.replicate n z).flatten
def yB(P:Program)(mu:Bool)(nid:Nat)(t:TypeId)(n:Nat)(parts:List (Nat×D))(h:Heap):VR:=
 match tG P t with
 |none=>none
 |some e=>
  match tJ P e with
  |none=>none
  |some z=>
   let sz:=szT P e
   if z.notTuple&&z.cells.length=sz&&decide (0<sz)&&decide (n*sz<=16777216)then
    match ur (λi=>some (i*sz,sz)) (lV n z.cells) parts with
    |none=>none
    |some cs=>if mu then some (.rs nid sz 0 n,h.new nid (.row cs))else some (.sl sz (wR sz n cs) .full,h)
   else none
def uE(P:Program)(t:TypeId):Nat:=P.bytesOf t
def QU(sz:Nat)(x:D)(h:Heap):Option (List D):=
 match x with
 |.sl s xs _=>if s=sz then some xs.flatten else none
 |.rs id s off n=>if s=sz then(match h.at' id with
  |some (.row cs)=>if off+n*sz<=cs.length then some ((cs.drop off).take (n*sz))else none
  |_=>none)else none
 |.nilsl=>some []
 |.str s=>if sz=1 then some (s.map λb=>.int .u8 b.toNat)else none
 |_=>none
def ZW(P:Program)(e:TypeId):Bool:=
 match tJ P e with
 |some z=>z.cells.length==szT P e&&szT P e !=0
 |none=>false
def og(P:Program)(e:TypeId)(cs:List D):Obj:=
 match P.underlying e with
 |some (.int k)=>match k with
  |.u8=>.trow e false cs
  |_=>.row cs
 |_=>.row cs
def tp(P:Program)(mu:Bool)(nid:Nat)(e:TypeId)(sz m:Nat)(s:D)(ys:List D)(h:Heap):VR:=
 match s with
 |.nilsl=>
  if m=0 then some (.nilsl,h)
  else if m*uE P e<=lim&&decide (m<=lim)then
   (if mu then some (.rs nid sz 0 m,h.new nid (og P e ys))else some (.sl sz (wR sz m ys) (.own nid),h.new nid .tok))
  else none
 |.sl sz' xs tk=>
  if sz'=sz&&decide ((xs.length+m)*uE P e<=lim)&&decide (xs.length+m<=lim)then
   match tk with
   |.no=>none
   |.full=>if m=0 then some (.sl sz xs .full,h)else if mu then some (.rs nid sz 0 (xs.length+m),h.new nid (og P e (xs.flatten++ys)))else some (.sl sz (xs++wR sz m ys) (.own nid),h.new nid .tok)
   |.own i=>match h.at' i with
    |some .tok=>if mu then none else some (.sl sz (xs++wR sz m ys) (.own nid),(h.del i).new nid .tok)
    |_=>none
  else none
 |.rs id sz' off n=>
  if mu&&decide (sz'=sz)&&decide (off=0)&&decide ((n+m)*uE P e<=lim)&&decide (n+m<=lim)then
   match h.at' id with
   |some (.row cs)=>if cs.length=n*sz then some (.rs nid sz 0 (n+m),(h.del id).new nid (.row (cs++ys)))else none
   |some (.trow e2 full cs)=>match full with
    |true=>none
    |false=>if decide (e2=e)&&decide (cs.length=n*sz)then some (.rs nid sz 0 (n+m),(h.del id).new nid (.trow e false (cs++ys)))else none
   |_=>none
  else none
 |_=>none
def qg(P:Program)(mu:Bool)(nid:Nat)(t:TypeId)(s x:D)(h:Heap):VR:=
 match tG P t with
 |none=>none
 |some e=>
  if ZW P e then
   match QU (szT P e) x h with
   |none=>none
   |some ys=>tp P mu nid e (szT P e) (ys.length/szT P e) s ys h
  else none
def tu(s x:D)(h:Heap):Heap:=
 match s with
 |.rs id sz _ n=>match x with
  |.rs _ _ _ _=>h
  |_=>match h.at' id with
   |some (.row cs)=>if decide (n*sz<cs.length)then h.set id (.row (cs.take (n*sz)))else h
   |_=>h
 |_=>h
def mQ(P:Program)(mu:Bool)(nid:Nat)(t:TypeId)(s x:D)(h:Heap):VR:=
 match mu with
 |true=>qg P true nid t s x (tu s x h)
 |false=>qg P false nid t s x h
def mR(P:Program)(mu:Bool)(nid:Nat)(t u:TypeId)(s x:D)(h:Heap):VR:=
 match P.underlying u with
 |some (.int _)=>match tG P t with
  |some e=>match s with
   |.nilsl=>match x with
    |.int k n=>match k with
     |.i64=>match tJ P e with
      |some z=>if mu&&z.notTuple&&decide (z.cells.length=szT P e)&&decide (0<szT P e)&&decide (0<n)&&decide (n.toNat*uE P e<=lim)&&decide (n.toNat<=lim)then
       some (.rs nid (szT P e) 0 n.toNat,h.new nid (og P e (lV n.toNat z.cells)))else none
      |none=>none
     |_=>none
    |_=>none
   |_=>none
  |none=>none
 |_=>none
def mC(P:Program)(t:TypeId)(x:D)(_:Heap):Option D:=
 match x with
 |.str s=>match P.underlying t with
  |some .string=>some (.int .i64 s.length)
  |_=>none
 |.sl _ xs _=>match P.underlying t with
  |some (.slice _)=>some (.int .i64 xs.length)
  |_=>none
 |.rs _ _ _ n=>match P.underlying t with
  |some (.slice _)=>some (.int .i64 n)
  |_=>none
 |.nilsl=>match P.underlying t with
  |some (.slice _)=>some (.int .i64 0)
  |_=>none
 |.nilmap=>match P.underlying t with
  |some (.map _ _)=>some (.int .i64 0)
  |_=>none
 |_=>none
def tW(P:Program)(mu:Bool)(nid:Nat)(t:TypeId)(l c:D)(h:Heap):VR:=
 match tG P t,l,c with
 |some e,.int _ l,.int _ c=>
  match tJ P e with
  |some z=>
   let sz:=szT P e
   if z.notTuple&&z.cells.length=sz&&decide (0<sz)&&decide (0<=l)&&decide (l=c)&&decide (l.toNat*uE P e<=lim)&&decide (l.toNat<=lim)then
    (if mu then some (.rs nid sz 0 l.toNat,h.new nid (.row (lV l.toNat z.cells)))else some (.sl sz (List.replicate l.toNat z.cells) .full,h))
   else none
  |none=>none
 |_,_,_=>none
def kJ(ks:List Kd)(k:D):List (D×D)->Option (Option D)
 | []=>some none
 |(k',v)::es=>match eqK ks k.cells k'.cells with
  |some true=>some (some v)
  |some false=>kJ ks k es
  |none=>none
def MG(ks:List Kd)(k v:D):List (D×D)->Option (List (D×D))
 | []=>some [(k,v)]
 |(k',v')::es=>match eqK ks k.cells k'.cells with
  |some true=>some ((k,v)::es)
  |some false=>(MG ks k v es).map ((k',v'):: ·)
  |none=>none
def MA(P:Program)(t:TypeId):Option (TypeId×TypeId):=
 match P.underlying t with
 |some (.map k e)=>some (k,e)
 |_=>none
def yz:Bool->D->Bool
 |true,.agg _=>true
 |true,_=>false
 |false,.agg _=>false
 |false,_=>true
def N3(P:Program)(t:TypeId):Option (Bool×List Kd):=
 match pK P 8 t,agT P t with
 |some ks,some ag=>some (ag,ks)
 |_,_=>none
def Wa(m:D)(h:Heap):Option (List (D×D)):=
 match m with
 |.nilmap=>some []
 |.map id=>match h.at' id with
  |some (.map es)=>some es
  |_=>none
 |_=>none
def dw(ok:Bool)(z:D):Option D->D
 |some v=>if ok then .tuple [v,.bool true]else v
 |none=>if ok then .tuple [z,.bool false]else z
def fN(ag:Bool)(ks:List Kd)(z k:D)(ok:Bool)(es:List (D×D)):Option D:=
 if yz ag k&&(eqK ks k.cells k.cells).isSome&&es.all (λx=>yz ag x.1)then
  match kJ ks k es with
  |some o=>some (dw ok z o)
  |none=>none
 else none
def uY(P:Program)(t:TypeId)(m k:D)(ok:Bool)(h:Heap):Option D:=
 match MA P t with
 |none=>none
 |some (kt,e)=>
  match N3 P kt with
  |none=>none
  |some (ag,ks)=>
   match tJ P e with
   |none=>none
   |some z=>
    match Wa m h with
    |none=>none
    |some es=>fN ag ks z k ok es
def uJ(P:Program)(t:TypeId)(m k v:D)(h:Heap):Option Heap:=
 match MA P t with
 |none=>none
 |some (kt,_)=>
  match N3 P kt with
  |some (ag,ks)=>
   match m with
   |.map id=>match h.at' id with
    |some (.map es)=>if yz ag k&&(eqK ks k.cells k.cells).isSome&&es.all (λx=>yz ag x.1)&&(kJ ks k es).isSome then(match MG ks k v es with
     |some es'=>some (h.set id (.map es'))
     |none=>none)else none
    |_=>none
   |_=>none
  |none=>none
def l9(x:D)(i:Nat):Option D:=
 match x with
 |.tuple vs=>vs[i]?
 |_=>none
def o5:List D->Option (List UInt8)
 | []=>some []
 |d::ds=>match d with
  |.int k n=>match k with
   |.u8=>match o5 ds with
    |some s=>some (UInt8.ofNat n.toNat::s)
    |none=>none
   |_=>none
  |_=>none
def nR(P:Program)(src dst:TypeId)(x:D):Option D:=
 match x with
 |.int _ n=>match P.underlying src with
  |some (.int _)=>match P.underlying dst with
   |some (.int k)=>some (.int k (k.wrap n))
   |_=>none
  |_=>none
 |.str s=>match P.underlying src with
  |some .string=>match P.underlying dst with
   |some .string=>some (.str s)
   |some (.slice e)=>match P.underlying e with
    |some (.int .u8)=>some (.sl 1 (s.map λb=>[.int .u8 b.toNat]) .no)
    |_=>none
   |_=>none
  |_=>none
 |.sl sz xs _=>match P.underlying src with
  |some (.slice e)=>match P.underlying e with
   |some (.int .u8)=>match P.underlying dst with
    |some .string=>if sz=1 then(match o5 xs.flatten with
     |some s=>some (.str s)
     |none=>none)else none
    |_=>none
   |_=>none
  |_=>none
 |_=>none
def HD(P:Program)(s d:TypeId)(id:Nat)(h:Heap):Option D:=
 match h.at' id with
 |some (.trow u full cs)=>match full with
  |true=>match P.underlying s with
   |some (.pointer t)=>match P.underlying d with
    |some .unsafePointer=>match P.info? t with
     |some j=>if decide (j.size≠0)&&decide (0<cs.length)then some (.ptr id 0)else none
     |none=>none
    |_=>none
   |some .unsafePointer=>match P.underlying d with
    |some (.pointer t)=>match P.info? t with
     |some _=>if liesAt P P.depth u (cs.length/P.cellsOf u) 0 t 1 then some (.ptr id 0)else none
     |none=>none
    |_=>none
   |_=>none
  |false=>none
 |_=>none
def aL(P:Program)(s d:TypeId)(x:D)(h:Heap):Option D:=
 match x with
 |.ptr id off=>match off with
  |0=>HD P s d id h
  |_=>none
 |y=>nR P s d y
def zLt(P:Program)(t:TypeId):Bool:=
 match P.underlying t with
 |some (.pointer _)=>true
 |some .unsafePointer=>true
 |_=>false
def qQ(x:D):Option D:=
 match x with
 |.ptr id off=>some (.ptr id off)
 |.iptr cs off=>some (.iptr cs off)
 |.fn (.func f) a c=>some (.fn (.func f) a c)
 |.yld i=>some (.yld i)
 |_=>none
def KS:D->D->Option D
 |.int k a,.int k' b=>if k=k' then some (.int k (if b<a then b else a))else none
 |_,_=>none
def ax(t:TypeId)(cs:List D):Obj:=
 match cs with
 | []=>.row []
 |d::ds=>match d with
  |.nilptr=>match ds with
   | []=>.row (d::ds)
   |e::es=>match e with
    |.nilsl=>match es with
     | []=>.trow t true (d::ds)
     |_=>.row (d::ds)
    |_=>.row (d::ds)
  |_=>.row (d::ds)
def Fa:D->D->Option D
 |.int k a,.int k' b=>if k=k' then some (.int k (if b>a then b else a))else none
 |_,_=>none
def P9:D->List D->Option D
 |x,[]=>some x
 |x,y::rest=>match Fa x y with
  |some z=>P9 z rest
  |none=>none
def rp(P:Program)(t:TypeId):Bool:=
 match P.underlying t with
 |some (.int _)=>false
 |some _=>true
 |none=>false
def dp(P:Program)(t:TypeId)(x:D)(h:Heap):Option Heap:=
 match x with
 |.nilsl=>match P.underlying t with
  |some (.slice _)=>some h
  |_=>none
 |.sl _ xs _=>match P.underlying t with
  |some (.slice _)=>if xs.length=0 then some h else none
  |_=>none
 |.rs id sz off n=>match tG P t with
  |none=>none
  |some e=>match tJ P e with
   |none=>none
   |some z=>if n=0 then some h else if z.notTuple&&decide (z.cells.length=sz)then
     match h.at' id with
     |some (.row cs)=>if off+n*sz<=cs.length then some (h.set id (.row (wo cs (lV n z.cells) off)))else none
     |_=>none
    else none
 |.map id=>match P.underlying t with
  |some (.map _ _)=>match h.at' id with
   |some (.map _)=>some (h.set id (.map []))
   |_=>none
  |_=>none
 |_=>none
def Yf(P:Program)(e:TypeId)(id:Nat)(n:Int)(h:Heap):VR:=
 match h.at' id with
 |some (.trow e2 _ cs)=>
  if decide (e2=e)&&decide (szT P e=1)&&decide (0<n)&&decide (n.toNat<=cs.length)&&decide (n.toNat<=lim)then
   match o5 (cs.take n.toNat)with
   |some s=>some (.str s,h.del id)
   |none=>none
  else none
 |_=>none
def jF(P:Program)(t:TypeId)(x y:D)(h:Heap):VR:=
 match P.underlying t with
 |some (.pointer e)=>match P.underlying e with
  |some (.int .u8)=>match x with
   |.ptr id off=>match off with
    |0=>match y with
     |.int .i64 n=>Yf P e id n h
     |_=>none
    |_=>none
   |.nilptr=>match y with
    |.int .i64 n=>if n=0 then some (.str [],h)else none
    |_=>none
   |_=>none
  |_=>none
 |_=>none
def mS(P:Program)(mu:Bool)(nid:Nat)(b:Builtin)(ats:List TypeId)(args:List D)(h:Heap):VR:=
 match b with
 |.len=>match ats with
  | [t]=>match args with
   | [x]=>(mC P t x h).map (·,h)
   |_=>none
  |_=>none
 |.append=>match ats with
  | [t,u]=>match args with
   | [s,x]=>if rp P u then mQ P mu nid t s x h else mR P mu nid t u s x h
   |_=>none
  |_=>none
 |.min=>match args with
  | [x,y]=>(KS x y).map (·,h)
  |_=>none
 |.max=>match args with
  |x::y::rest=>(P9 x (y::rest)).map (·,h)
  |_=>none
 |.cap=>match ats with
  | [t]=>match args with
   | [x]=>match x with
    |.nilsl=>match P.underlying t with
     |some (.slice _)=>some (.int .i64 0,h)
     |_=>none
    |_=>none
   |_=>none
  |_=>none
 |.unsafeSliceData=>match ats with
  | [_]=>match args with
   | [x]=>match x with
    |.rs id _ off n=>match n,off with
     |0,_=>none
     |_,0=>some (.ptr id 0,h)
     |_,_=>none
    |.nilsl=>some (.nilptr,h)
    |_=>none
   |_=>none
  |_=>none
 |.unsafeString=>match ats with
  | [t,_]=>match args with
   | [x,y]=>jF P t x y h
   |_=>none
  |_=>none
 |.clear=>match ats with
  | [t]=>match args with
   | [x]=>(dp P t x h).map (rD,·)
   |_=>none
  |_=>none
 |_=>none
def zES(P:Program)(t:TypeId):Bool:=
 match P.underlying t with
 |some (.interface _)=>false
 |some _=>true
 |none=>false
def BH(P:Program)(t:TypeId)(x:D)(f:Nat):Option D:=
 match qV P t f with
 |some (off,ft)=>match x with
  |.agg cs=>match agT P ft with
   |some ag=>yW ag (szT P ft) cs off
   |none=>none
  |_=>none
 |none=>none
def rn(s:List UInt8)(pos:Nat):Nat×Nat:=Utf8.decode ⟨s.toArray⟩ pos
def Wk(x:D)(isS:Bool)(h:Heap):VR:=
 match x with
 |.ptr id off=>match h.at' id with
  |some (.siter s pos)=>
   if isS&&decide (off=0)then
    if pos<s.length then
     (if decide (s.length<=lim)&&IntKind.i32.wrap (rn s pos).1==((rn s pos).1:Int)then some (.tuple [.bool true,.int .i64 pos,.int .i32 (rn s pos).1],h.set id (.siter s (pos+(rn s pos).2)))else none)
    else some (.tuple [.bool false],h)
   else none
  |_=>none
 |_=>none
def Z1(P:Program)(nid:Nat)(t:TypeId)(x:D)(h:Heap):VR:=
 match x with
 |.str s=>match P.underlying t with
  |some .string=>some (.ptr nid 0,h.new nid (.siter s 0))
  |_=>none
 |_=>none
def vop(P:Program)(mu:Bool)(nid:Nat)(o:Op)(ev:Operand->D)(h:Heap):VR:=
 match o with
 |.move x=>some (ev x,h)
 |.assign x=>some (ev x,h)
 |.pick c a b=>match ev c with
  |.bool true=>some (ev a,h)
  |.bool false=>some (ev b,h)
  |_=>none
 |.alloc t=>match tJ P t with
  |some z=>if z.notTuple then some (.ptr nid 0,h.new nid (ax t z.cells))else none
  |none=>none
 |.box _ x=>if(ev x).notTuple then(if mu then some (.ptr nid 0,h.new nid (.row (ev x).cells))else some (.iptr (ev x).cells 0,h))else none
 |.build t parts=>(qd P t (parts.toList.map λp=>(p.1,ev p.2))).map (·,h)
 |.buildSlice t n parts=>yB P mu nid t n (parts.toList.map λp=>(p.1,ev p.2)) h
 |.load t a=>(lR P t (ev a) h).map (·,h)
 |.store t a x=>(yX P t (ev a) (ev x) h).map (rD,·)
 |.nilCheck x=>(qQ (ev x)).map (·,h)
 |.binOp op t x y _=>(jI P op t (isC x||isC y) (ev x) (ev y)).map (·,h)
 |.unOp op _ x=>(vun op (ev x)).map (·,h)
 |.convert s d x=>(aL P s d (ev x) h).map (·,h)
 |.makeFunc g a c=>match g with
  |.func f=>some (.fn (.func f) (a.toList.map ev) (c.toList.map ev),h)
  |_=>none
 |.makeMap _ r=>match r with
  |none=>some (.map nid,h.new nid (.map []))
  |some _=>none
 |.makeSlice t l c=>tW P mu nid t (ev l) (ev c) h
 |.slice t x lo hi mx=>(uZ P t (ev x) (lo.map ev) (hi.map ev) (mx.map ev) h).map (·,h)
 |.fieldAddr s x f=>(p7 P s (ev x) f).map (·,h)
 |.field s x f=>(BH P s (ev x) f).map (·,h)
 |.indexAddr t x i=>(yt P t (ev x) (ev i)).map (·,h)
 |.index t x i=>(nn P t (ev x) (ev i)).map (·,h)
 |.lookup t m k ok=>(uY P t (ev m) (ev k) ok h).map (·,h)
 |.mapUpdate t m k v=>(uJ P t (ev m) (ev k) (ev v) h).map (rD,·)
 |.insert t m k v=>(uJ P t (ev m) (ev k) (ev v) h).map (rD,·)
 |.extract x i=>(l9 (ev x) i).map (·,h)
 |.range t x=>Z1 P nid t (ev x) h
 |.next x isS=>Wk (ev x) isS h
 |.makeInterface t x=>if zES P t then some (.iface t (ev x),h)else none
 |.call c=>match c.callee with
  |.builtin b=>mS P mu nid b c.argTypes.toList (c.args.toList.map ev) h
  |_=>none
 |_=>none
end Go.V
