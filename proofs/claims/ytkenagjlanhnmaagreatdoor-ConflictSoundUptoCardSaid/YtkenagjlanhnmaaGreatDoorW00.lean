/- A machine of abstract values for programs of the model, and its soundness, part 1. No condition. -/
import Derived.RangeFuncLeaves
import Derived.OrdersIn
import Derived.TacticsIn
import Derived.Laws.AppendOwn
import Derived.Below
set_option linter.all false
set_option maxHeartbeats 8000000
namespace Go.V
theorem jS{p:Prop}(h:p:=by simp):p:=h
theorem jD{p:Prop}(h:p:=by decide):p:=h
theorem jL{p:Prop}(h:p:=by unfold lim;omega):p:=h
theorem jO{p:Prop}(h:p:=by simp;omega):p:=h
theorem ow{p:Prop}(h:p:=by omega):p:=h
theorem ip{c:Prop}{_:Decidable c}(h:c){α:Sort _}{t e:α}:ite c t e=t:=if_pos h
theorem iq{c:Prop}{_:Decidable c}(h:¬c){α:Sort _}{t e:α}:ite c t e=e:=if_neg h
def xc(l:List Nat)(t:Nat):Bool:=List.contains l t
@[go_sem] theorem xE(l:List Nat)(t:Nat):xc l t=List.contains l t:=(rfl)
theorem kr{p:Prop}(h:p:=by kernel_rfl):p:=h
def mz:=@Array.any_eq_true'
def tU:=@Array.ext'
def wQ:=@Array.getD_eq_getD_getElem?
def tP:=@Array.getElem?_append_left
def to:=@Array.getElem?_eq_getElem
def sv:=@Array.getElem?_eq_none
def yF:=@Array.getElem?_eq_some_iff
def rK:=@Array.getElem?_modify
def uv:=@Array.getElem?_setIfInBounds
def qA:=@Array.getElem?_toList
def yI:=@Array.length_toList
def mH:=@Array.toList_append
def wk:=@Array.toList_map
def dO:=@Bool.and_assoc
def jz:=@Bool.and_eq_false_iff
def zF:=@Bool.and_eq_true
def pD:=@Bool.and_false
def wU:=@Bool.and_self
def rh:=@Bool.and_true
def kX:=@Bool.beq_comm
def oK:=@Bool.eq_false_iff
def wi:=@Bool.false_and
def zg:=@Bool.false_eq_true
def zd:=@Bool.false_ne_true
def uw:=@Bool.false_or
def lx:=@Bool.not_eq_false
def qI:=@Bool.not_eq_true'
def sj:=@Bool.not_false
def nj:=@Bool.not_true
def rv:=@Bool.or_eq_false_iff
def yn:=@Bool.or_eq_true
def nk:=@Bool.or_false
def lC:=@Bool.or_self
def nC:=@Bool.or_true
def uT:=@Bool.true_and
def pd:=@Bool.true_or
def lP:=@Classical.byContradiction
def j0:=@Classical.choose_spec
def j5:=@DataW.trod_bool
def dP:=@DataW.trod_int
def jc:=@DataW.trod_slice
def ly:=@DataW.trod_string
def lz:=@DataW.trod_struct
def uy:=@Int.eq_ofNat_of_zero_le
def mI:=@Int.natCast_mul
def zG:=@Int.ofNat_zero
def wV:=@Int.toNat_natCast
def uD:=@List.all_append
def uU:=@List.all_cons
def zT:=@List.all_eq_true
def cr:=@List.any_cons
def oL:=@List.any_eq_false
def yu:=@List.any_eq_true
def ZV:=@List.any_map
def qV:=@List.append_assoc
def jr:=@List.append_eq_nil_iff
def yK:=@List.append_nil
def mJ:=@List.attach_map_subtype_val
def rL:=@List.cons.injEq
def yG:=@List.cons_append
def uc:=@List.contains_cons
def rx:=@List.contains_eq_mem
def nZ:=@List.count_le_length
def nU:=@List.drop_append
def nV:=@List.drop_append_of_le_length
def uC:=@List.drop_drop
def yi:=@List.drop_eq_getElem_cons
def tL:=@List.drop_eq_nil_of_le
def nW:=@List.drop_length
def uQ:=@List.drop_of_length_le
def mK:=@List.drop_set_of_lt
def d7:=@List.drop_succ_cons
def wN:=@List.drop_zero
def yS:=@List.eq_nil_of_length_eq_zero
def oM:=@List.eraseIdx_eq_take_drop_succ
def j6:=@List.eraseIdx_sublist
def lQ:=@List.exists_mem_of_ne_nil
def oN:=@List.ext_getElem?
def mL:=@List.filterMap_cons
def lD:=@List.filter_append
def sW:=@List.filter_cons
def pw:=@List.filter_cons_of_neg
def kZ:=@List.filter_cons_of_pos
def lE:=@List.find?_eq_none
def sI:=@List.find?_eq_some_iff_getElem
def uV:=@List.findIdx?_eq_none_iff
def qw:=@List.findIdx?_eq_some_iff_getElem
def d9:=@List.findIdx_append
def pS:=@List.flatMap_append
def oO:=@List.flatMap_cons
def yT:=@List.flatten_cons
def zE:=@List.getD_eq_getElem?_getD
def yj:=@List.getElem?_append_left
def yf:=@List.getElem?_append_right
def uz:=@List.getElem?_cons_succ
def wW:=@List.getElem?_cons_zero
def yy:=@List.getElem?_drop
def zB:=@List.getElem?_eq_getElem
def nD:=@List.getElem?_eq_none
def pE:=@List.getElem?_eq_none_iff
def zK:=@List.getElem?_eq_some_iff
def zm:=@List.getElem?_map
def oP:=@List.getElem?_set
def ry:=@List.getElem?_set_ne
def js:=@List.getElem?_set_self
def zu:=@List.getElem?_take
def uX:=@List.getElem?_toArray
def oF:=@List.getElem_cons_succ
def tW:=@List.getElem_map
def zH:=@List.getElem_mem
def nE:=@List.getElem_set_self
def tM:=@List.head?_eq_getElem?
def sw:=@List.head?_eq_none_iff
def zQ:=@List.length_append
def zx:=@List.length_cons
def qJ:=@List.length_drop
def ye:=@List.length_eq_zero_iff
def uY:=@List.length_filter_le
def zI:=@List.length_map
def qD:=@List.length_nil
def zy:=@List.length_pos_iff
def oQ:=@List.length_range
def j7:=@List.length_replicate
def cC:=@List.length_reverse
def uE:=@List.length_set
def tX:=@List.length_singleton
def yB:=@List.length_take
def wD:=@List.map_append
def wR:=@List.map_congr_left
def qe:=@List.map_cons
def uR:=@List.map_eq_nil_iff
def wB:=@List.map_map
def nF:=@List.map_nil
def tC:=@List.map_set
def ka:=@List.map_take
def jd:=@List.map_toArray
def qB:=@List.mem_append
def dF:=@List.mem_append_left
def nG:=@List.mem_append_right
def z7:=@List.mem_cons
def z8:=@List.mem_cons_of_mem
def qO:=@List.mem_cons_self
def rM:=@List.mem_filter
def zt:=@List.mem_flatMap
def zz:=@List.mem_iff_getElem
def yh:=@List.mem_iff_getElem?
def zS:=@List.mem_map
def zh:=@List.mem_of_getElem?
def t7:=@List.mem_of_mem_drop
def j8:=@List.mem_of_mem_head?
def nb:=@List.mem_of_mem_take
def tp:=@List.mem_or_eq_of_mem_set
def yz:=@List.mem_range
def zo:=@List.mem_singleton
def lF:=@List.ne_nil_of_mem
def yU:=@List.nil_append
def ct:=@List.nil_perm
def px:=@List.nodup_cons
def lR:=@List.nodup_nil
def wl:=@List.not_mem_nil
def s9:=@List.pairwise_cons
def tr:=@List.pairwise_iff_getElem
def tH:=@List.replicate_succ
def j9:=@List.set_append_right
def lG:=@List.set_cons_succ
def tY:=@List.set_cons_zero
def hP:=@List.set_getElem_self
def qr:=@List.size_toArray
def je:=@List.take_append
def qg:=@List.take_append_drop
def qt:=@List.take_append_of_le_length
def hZ:=@List.take_left'
def yC:=@List.take_length
def yP:=@List.take_of_length_le
def kg:=@List.take_one
def mM:=@List.take_set_of_le
def pT:=@List.take_succ_cons
def zP:=@List.take_succ_eq_append_getElem
def lS:=@List.take_zero
def py:=@List.zip_cons_cons
def qf:=@Nat.add_assoc
def gA:=@Nat.add_comm
def qx:=@Nat.add_mul
def u0:=@Nat.add_sub_cancel_left
def qo:=@Nat.add_zero
def l8:=@Nat.blt_eq
def nH:=@Nat.div_lt_iff_lt_mul
def z6:=@Nat.eq_of_beq_eq_true
def lH:=@Nat.eq_zero_or_pos
def jh:=@Nat.le_max_right
def jt:=@Nat.le_mul_of_pos_left
def rO:=@Nat.le_of_ble_eq_true
def zC:=@Nat.le_refl
def zb:=@Nat.le_trans
def wH:=@Nat.lt_irrefl
def zl:=@Nat.lt_of_lt_of_le
def zp:=@Nat.lt_succ_iff_lt_or_eq
def sX:=@Nat.lt_succ_self
def mN:=@Nat.min_eq_left
def jj:=@Nat.mod_eq_of_lt
def aV:=@Nat.mod_lt
def tQ:=@Nat.mod_two_eq_zero_or_one
def gB:=@Nat.mul_comm
def ue:=@Nat.mul_div_cancel
def lT:=@Nat.mul_le_mul
def mO:=@Nat.mul_le_mul_left
def yg:=@Nat.mul_le_mul_right
def wn:=@Nat.mul_one
def Yf:=@Nat.mul_pos
def ZW:=@Nat.ne_of_lt
def yX:=@Nat.not_lt_zero
def pU:=@Nat.one_mul
def ZX:=@Nat.sub_self
def tD:=@Nat.sub_zero
def nX:=@Nat.succ_lt_succ
def qh:=@Nat.succ_mul
def yH:=@Nat.zero_add
def yM:=@Nat.zero_le
def sK:=@Nat.zero_mul
def km:=@Ne.symm
def sN:=@Option.bind_eq_some_iff
def sY:=@Option.bind_some
def zA:=@Option.getD_some
def uf:=@Option.isSome_iff_exists
def tZ:=@Option.isSome_none
def tc:=@Option.isSome_some
def ze:=@Option.map_eq_some_iff
def qZ:=@Option.map_some
def mP:=@Option.some.inj
def wX:=@Option.some.injEq
def zZ:=@Result.andThen_ok
def zq:=@Sem.run_bind
def yL:=@Sem.run_pure
def gD:=@UInt8.toNat_inj
def lU:=@World.alloc_eq
def wa:=@World.cell?_of_block
def zV:=@and_true
def yv:=@beq_eq_false_iff_ne
def qz:=@beq_iff_eq
def pN:=@beq_self_eq_true
def fN:=@bne_iff_ne
def cF:=@callsIn_of_wp_marks
def gL:=@callsIn_wide
def zN:=@decide_eq_false
def wY:=@decide_eq_false_iff_not
def zR:=@decide_eq_true
def zO:=@decide_eq_true_eq
def cH:=@decide_true
def XO:=@getD_set_ne
def wr:=@getElem!_pos
def XQ:=@grownCap_ge
def yp:=@if_false
def qF:=@if_true
def gX:=@mem_ready
def bg:=@not_or
def yA:=@of_decide_eq_false
def yE:=@of_decide_eq_true
def jP:=@or_false
def ZJ:=@run_newObj
def sF:=@run_storeCells_at
def zU:=@run_underlying
def mh:=@setRow_heap
def nP:=@setRow_other
def br:=@setRow_output
def cV:=@setRow_size
def X7:=@setRow_tape
def dh:=@size_zeroCells
def zM:=@true_and
def rc:=@wpIn_mono
inductive Tk where
 |no|full|own (t:Nat)
inductive D where
 |bool (b:Bool)
 |int (k:IntKind) (n:Int)
 |str (s:List UInt8)
 |nilptr
 |ptr (id off:Nat)
 |iptr (cs:List D) (off:Nat)
 |nilsl
 |sl (sz:Nat) (xs:List (List D)) (tk:Tk)
 |rs (id sz off len:Nat)
 |nilmap
 |map (id:Nat)
 |fn (f:Fn) (first cap:List D)
 |yld (id:Nat)
 |nilfn
 |agg (cs:List D)
 |tuple (cs:List D)
 |iface (t:TypeId) (v:D)
 |niliface
abbrev Frm:=Nat->D
def si:D:=.tuple []
structure LRec where
 st:LoopState
 pending:Option Code
 fr:Frm
 params:Array Tmp
 assign:Code
 body:Code
 n:Nat
inductive Obj where
 |row (cs:List D)
 |tok
 |map (es:List (D×D))
 |loop (r:LRec)
 |siter (s:List UInt8) (pos:Nat)
 |trow (t:TypeId) (full:Bool) (cs:List D)
structure Heap where
 next:Nat
 at':Nat->Option Obj
def Heap.set(h:Heap)(i:Nat)(o:Obj):Heap:= { next:=h.next,at':=λj=>if j=i then some o else h.at' j }
def Heap.del(h:Heap)(i:Nat):Heap:= { next:=h.next,at':=λj=>if j=i then none else h.at' j }
def Heap.new(h:Heap)(i:Nat)(o:Obj):Heap:= { next:=max h.next (i+1),at':=λj=>if j=i then some o else h.at' j }
def D.cells:D->List D
 |.agg cs=>cs
 |d=>[d]
def D.flat:D->Bool
 |.agg _=>false
 |.tuple _=>false
 |_=>true
def D.notTuple:D->Bool
 |.tuple _=>false
 |_=>true
def lim:Nat:=140737488355328
mutual
def cst:Value->D
 |.bool b=>.bool b
 |.int k n=>.int k n
 |.string s=>.str s.data.toList
 |.pointer none=>.nilptr
 |.slice none 0 0=>.nilsl
 |.map none=>.nilmap
 |.nilFunc=>.nilfn
 |.nilIface=>.niliface
 |.agg cs=>.agg (CF cs.toList)
 |.tuple cs=>.tuple (CF cs.toList)
 |_=>.tuple []
def CF:List Value->List D
 | []=>[]
 |v::vs=>cst v::CF vs
end
mutual
def kE:Value->Bool
 |.bool _=>true
 |.int k n=>k.wrap n==n
 |.string s=>decide (s.data.toList.length<=lim)
 |.pointer none=>true
 |.slice none 0 0=>true
 |.map none=>true
 |.nilFunc=>true
 |.nilIface=>true
 |.agg cs=>XC cs.toList&&cs.toList.all (·.oneCell')
 |.tuple cs=>XC cs.toList
 |_=>false
def XC:List Value->Bool
 | []=>true
 |v::vs=>kE v&&XC vs
end
def qy(fr:Frm):Operand->D
 |.tmp t=>fr t
 |.const v=>cst v
 |.global _=>.tuple []
 |.func f=>.fn (.func f) [] []
def WS(a b:List UInt8):Bool:=Op.bytesLess a b
def Mi(op:BinOp)(k:IntKind)(a b:Int):Option D:=
 match op with
 |.add=>some (.int k (k.wrap (a+b)))
 |.sub=>some (.int k (k.wrap (a-b)))
 |.mul=>some (.int k (k.wrap (a*b)))
 |.quo=>if b=0 then none else some (.int k (k.wrap (a.tdiv b)))
 |.rem=>if b=0 then none else some (.int k (a.tmod b))
 |.and=>some (.int k (k.wrap (BitVec.ofInt k.bits a &&& BitVec.ofInt k.bits b).toNat))
 |.or=>some (.int k (k.wrap (BitVec.ofInt k.bits a |||BitVec.ofInt k.bits b).toNat))
 |.xor=>some (.int k (k.wrap (BitVec.ofInt k.bits a ^^^ BitVec.ofInt k.bits b).toNat))
 |.andNot=>some (.int k (k.wrap (BitVec.ofInt k.bits a &&& ~~~BitVec.ofInt k.bits b).toNat))
 |.eql=>some (.bool (a==b))
 |.neq=>some (.bool (a !=b))
 |.lss=>some (.bool (decide (a<b)))
 |.leq=>some (.bool (decide (a<=b)))
 |.gtr=>some (.bool (decide (a>b)))
 |.geq=>some (.bool (decide (a>=b)))
 |_=>none
def Qe(op:BinOp)(k:IntKind)(a b:Int):Option D:=
 if b<0 then none else
 match op with
 |.shl=>some (.int k (k.wrap (a*2^ (min b.toNat k.bits))))
 |.shr=>some (.int k (a.fdiv (2^ (min b.toNat k.bits))))
 |_=>none
def Ho(op:BinOp)(a b:List UInt8):Option D:=
 match op with
 |.add=>if a.length+b.length<=lim then some (.str (a++b))else none
 |.eql=>some (.bool (a==b))
 |.neq=>some (.bool (!(a==b)))
 |.lss=>some (.bool (WS a b))
 |.leq=>some (.bool (WS a b||a==b))
 |.gtr=>some (.bool !(WS a b||a==b))
 |.geq=>some (.bool !(WS a b))
 |_=>none
inductive Kd where
 |b|i|s
def eqK:List Kd->List D->List D->Option Bool
 | [],[],[]=>some true
 |.b::ks,.bool x::as,.bool y::bs=>(eqK ks as bs).map (x==y&& ·)
 |.i::ks,.int k x::as,.int k' y::bs=>if k=k' then(eqK ks as bs).map (x==y&& ·)else none
 |.s::ks,.str x::as,.str y::bs=>(eqK ks as bs).map (x==y&& ·)
 |_,_,_=>none
def veq:Option TypeDesc->D->D->Option Bool
 |some .bool,.bool a,.bool b=>some (a==b)
 |some (.pointer _),.nilptr,.nilptr=>some true
 |some (.pointer _),.nilptr,.ptr _ _=>some false
 |some (.pointer _),.ptr _ _,.nilptr=>some false
 |some (.pointer _),.nilptr,.iptr _ _=>some false
 |some (.pointer _),.iptr _ _,.nilptr=>some false
 |some (.slice _),.nilsl,.nilsl=>some true
 |some (.slice _),.nilsl,.sl _ _ _=>some false
 |some (.slice _),.sl _ _ _,.nilsl=>some false
 |some (.slice _),.nilsl,.rs _ _ _ _=>some false
 |some (.slice _),.rs _ _ _ _,.nilsl=>some false
 |some (.map _ _),.nilmap,.nilmap=>some true
 |some (.map _ _),.nilmap,.map _=>some false
 |some (.map _ _),.map _,.nilmap=>some false
 |some (.func _ _ _),.nilfn,.nilfn=>some true
 |some (.func _ _ _),.nilfn,.fn _ _ _=>some false
 |some (.func _ _ _),.fn _ _ _,.nilfn=>some false
 |some (.func _ _ _),.nilfn,.yld _=>some false
 |some (.func _ _ _),.yld _,.nilfn=>some false
 |_,_,_=>none
def XY(kd:TypeId->Option (List Kd))(sz:TypeId->Nat):List Field->Nat->Nat->Option (List Kd)
 | [],off,n=>if off==n then some []else none
 |f::fs,off,n=>
  if f.name != "_" &&f.offset==off&&sz f.type !=0 then
   match kd f.type with
   |some ks=>if ks.length==sz f.type then(XY kd sz fs (off+ks.length) n).map (ks++ ·)else none
   |none=>none
  else none
def ru(P:Program):Nat->TypeId->Option (List Kd)
 |0,_=>none
 |d+1,t=>
  match P.underlying t with
  |some .bool=>if P.cellsOf t==1 then some [.b]else none
  |some (.int _)=>if P.cellsOf t==1 then some [.i]else none
  |some .string=>if P.cellsOf t==1 then some [.s]else none
  |some (.struct fs)=>if P.stoodInHeld t then none else XY (ru P d) P.cellsOf fs.toList 0 (P.cellsOf t)
  |_=>none
def eqT(P:Program)(t:TypeId):Option (List Kd):=
 match P.underlying t with
 |some (.struct _)=>if P.eqGuardType P.depth t then none else ru P 8 t
 |_=>none
def oH(op:BinOp)(f g:Option D):Option D:=
 match op with
 |.eql=>f
 |.neq=>g
 |_=>none
def Fi(P:Program)(op:BinOp)(t:TypeId)(x y:D):Option D:=
 oH op ((veq (P.underlying t) x y).map .bool) ((veq (P.underlying t) x y).map λb=>.bool (!b))
def L9(op:BinOp)(ks:List Kd)(as bs:List D):Option D:=
 oH op ((eqK ks as bs).map .bool) ((eqK ks as bs).map λb=>.bool (!b))
def mr(op:BinOp)(k k':IntKind)(a b:Int):Option D:=
 match op with
 |.shl=>Qe op k a b
 |.shr=>Qe op k a b
 |_=>if k=k' then Mi op k a b else none
def KH(P:Program)(op:BinOp)(t:TypeId)(r:Bool):Option D:=
 match P.underlying t with
 |some (.interface _)=>oH op (some (.bool r)) (some (.bool (!r)))
 |_=>none
def BQ(P:Program)(op:BinOp)(t:TypeId):Option D:=
 match P.underlying t with
 |some (.pointer e)=>match P.info? e with
  |some _=>oH op (some (.bool true)) (some (.bool false))
  |none=>none
 |_=>none
def isC:Operand->Bool
 |.const _=>true
 |_=>false
def kW(P:Program)(op:BinOp)(t:TypeId)(c:Bool)(x y:D):Option D:=
 match x with
 |.niliface=>match y with
  |.niliface=>if c then KH P op t true else none
  |.iface _ _=>KH P op t false
  |_=>none
 |.iface _ _=>match y with
  |.niliface=>KH P op t false
  |_=>none
 |.int k a=>match y with
  |.int k' b=>mr op k k' a b
  |_=>none
 |.str a=>match y with
  |.str b=>Ho op a b
  |_=>none
 |.agg as=>match y with
  |.agg bs=>match eqT P t with
   |some ks=>L9 op ks as bs
   |none=>none
  |_=>none
 |.ptr i a=>match y with
  |.ptr j b=>match Nat.beq i j&&Nat.beq a b with
   |true=>BQ P op t
   |false=>none
  |y=>Fi P op t (.ptr i a) y
 |x=>Fi P op t x y
def vun(op:UnOp)(x:D):Option D:=
 match op,x with
 |.neg,.int k n=>some (.int k (k.wrap (0-n)))
 |.not,.bool b=>some (.bool !b)
 |_,_=>none
def yO(ag:Bool)(n:Nat)(cs:List D)(off:Nat):Option D:=
 if ag then(if n=0 then none else if off+n<=cs.length then some (.agg ((cs.drop off).take n))else none)else cs[off]?
def wS(cs vs:List D)(off:Nat):List D:=cs.take off++vs++cs.drop (off+vs.length)
def agT(P:Program)(t:TypeId):Option Bool:=
 match P.underlying t with
 |some (.struct _)=>some true
 |some (.array _ _)=>some true
 |some _=>some false
 |none=>none
def szT(P:Program)(t:TypeId):Nat:=P.cellsOf t
def uo(P:Program)(t:TypeId):Option D:=
 match(P.info? t).bind (·.zero)with
 |some z=>if kE z then some (cst z)else none
 |none=>none
def qK(P:Program)(t:TypeId)(f:Nat):Option (Nat×TypeId):=
 match P.underlying t with
 |some (.struct fs)=>match fs[f]? with
  |some f=>some (f.offset,f.type)
  |none=>none
 |_=>none
def uu(P:Program)(t:TypeId):Option TypeId:=
 match P.underlying t with
 |some (.slice e)=>some e
 |_=>none
def Wu(P:Program)(t:TypeId):Option (Nat×TypeId):=
 match P.underlying t with
 |some (.array n e)=>some (n,e)
 |_=>none
abbrev VR:=Option (D×Heap)
def kT(P:Program)(t:TypeId)(a:D)(h:Heap):Option D:=
 match agT P t with
 |none=>none
 |some ag=>
  match a with
  |.iptr cs off=>yO ag (szT P t) cs off
  |.ptr id off=>match h.at' id with
   |some (.row cs)=>yO ag (szT P t) cs off
   |some (.trow _ _ cs)=>yO ag (szT P t) cs off
   |_=>none
  |_=>none
def yW(P:Program)(t:TypeId)(a x:D)(h:Heap):Option Heap:=
 match a with
 |.ptr id off=>match h.at' id with
  |some (.row cs)=>
   if szT P t≠0&&x.cells.length=szT P t&&off+x.cells.length<=cs.length&&x.cells.all D.flat then some (h.set id (.row (wS cs x.cells off)))else none
  |some (.trow u b cs)=>
   if szT P t≠0&&x.cells.length=szT P t&&off+x.cells.length<=cs.length&&x.cells.all D.flat then some (h.set id (.trow u b (wS cs x.cells off)))else none
  |_=>none
 |_=>none
def pk(P:Program)(s:TypeId)(x:D)(f:Nat):Option D:=
 match qK P s f with
 |some (off,ft)=>
  if szT P ft=0 then none else
  match x with
  |.iptr cs o=>some (.iptr cs (o+off))
  |.ptr id o=>some (.ptr id (o+off))
  |_=>none
 |none=>none
def yc(P:Program)(t:TypeId)(x i:D):Option D:=
 match i with
 |.int _ n=>
  match uu P t with
  |some e=>
   match x with
   |.sl sz xs _=>if sz=szT P e then(if 0<=n then(match xs[n.toNat]? with|some c=>some (.iptr c 0)|none=>none)else none)else none
   |.rs id sz off len=>if sz=szT P e&&decide (0<=n)&&decide (n<len)then some (.ptr id (off+n.toNat*sz))else none
   |_=>none
  |none=>
   match Wu P t with
   |some (len,e)=>
    if decide (0<=n)&&decide (n<len)&&decide (szT P e≠0)then
     match x with
     |.iptr cs o=>some (.iptr cs (o+n.toNat*szT P e))
     |.ptr id o=>some (.ptr id (o+n.toNat*szT P e))
     |_=>none
    else none
   |none=>none
 |_=>none
def nS(P:Program)(t:TypeId)(x i:D):Option D:=
 match i with
 |.int _ n=>
  match x with
  |.str s=>match P.underlying t with
   |some .string=>if 0<=n then(match s[n.toNat]? with|some b=>some (.int .u8 b.toNat)|none=>none)else none
   |_=>none
  |.agg cs=>
   match Wu P t with
   |some (len,e)=>match agT P e with
    |some ag=>if decide (0<=n)&&decide (n<len)then yO ag (szT P e) cs (n.toNat*szT P e)else none
    |none=>none
   |none=>none
  |_=>none
 |_=>none
def VA(n:Nat):Option D->Option Nat
 |none=>some n
 |some (.int _ h)=>if decide (0<=h)&&decide (h<=n)then some h.toNat else none
 |some _=>none
def Te(h:Nat):Option D->Option Nat
 |none=>some 0
 |some (.int _ l)=>if decide (0<=l)&&decide (l<=h)then some l.toNat else none
 |some _=>none
def s8(n:Nat)(lo hi:Option D):Option (Nat×Nat):=
 match VA n hi with
 |none=>none
 |some h=>match Te h lo with
  |none=>none
  |some l=>some (l,h)
def PK(hi:Nat)(n:Nat):Tk->Tk
 |.full=>if hi=n then .full else .no
 |_=>.no
def jZ(n:Nat)(lo:Option D)(hi m:D):Option (Nat×Nat):=
 match VA n (some m)with
 |none=>none
 |some mm=>match VA mm (some hi)with
  |none=>none
  |some u=>if u=mm then(match Te u lo with
   |none=>none
   |some l=>some (l,u))else none
def NH(P:Program)(t:TypeId)(x:D)(lo:Option D)(hi m:D):Option D:=
 match uu P t with
 |none=>none
 |some e=>if szT P e=0 then none else
  match x with
  |.sl sz xs _=>if sz=szT P e then(match jZ xs.length lo hi m with
   |some (l,u)=>some (.sl sz ((xs.take u).drop l) .full)
   |none=>none)else none
  |.rs _ sz _ len=>if sz=szT P e then(match jZ len lo hi m with
   |some (l,u)=>if l=u then some (.sl sz [] .full)else none
   |none=>none)else none
  |.nilsl=>match jZ 0 lo hi m with
   |some _=>some .nilsl
   |none=>none
  |_=>none
def fG(P:Program)(t:TypeId)(x:D)(lo hi mx:Option D):Option D:=
 match mx with
 |some m=>match hi with
  |some hi=>NH P t x lo hi m
  |none=>none
 |none=>
  match x with
  |.str s=>match P.underlying t with
   |some .string=>match s8 s.length lo hi with
    |some (l,h)=>some (.str ((s.take h).drop l))
    |none=>none
   |_=>none
  |.sl sz xs tk=>match uu P t with
   |some e=>if sz=szT P e then(match s8 xs.length lo hi with
    |some (l,h)=>some (.sl sz ((xs.take h).drop l) (PK h xs.length tk))
    |none=>none)else none
   |none=>none
  |.rs id sz off len=>match uu P t with
   |some e=>if sz=szT P e then(match s8 len lo hi with
    |some (l,h)=>some (.rs id sz (off+l*sz) (h-l))
    |none=>none)else none
   |none=>none
  |.nilsl=>match uu P t with
   |some e=>if szT P e=0 then none else match s8 0 lo hi with
    |some _=>some .nilsl
    |none=>none
   |none=>none
  |_=>none
def wK(sz:Nat):Nat->List D->List (List D)
 |0,_=>[]
 |n+1,cs=>cs.take sz::wK sz n (cs.drop sz)
def TY(P:Program)(n:Nat)(e:TypeId)(x:D)(lo hi:Option D)(h:Heap):Option D:=
 if decide (0<szT P e)&&decide (n<=lim)then
  match s8 n lo hi with
  |none=>none
  |some (l,u)=>match x with
   |.ptr id off=>match h.at' id with
    |some (.row cs)=>if off+n*szT P e<=cs.length then some (.rs id (szT P e) (off+l*szT P e) (u-l))else none
    |_=>none
   |.iptr cs off=>if off+n*szT P e<=cs.length then some (.sl (szT P e) (((wK (szT P e) n (cs.drop off)).take u).drop l) (if u=n then .full else .no))else none
   |_=>none
 else none
def uN(P:Program)(t:TypeId)(x:D)(lo hi mx:Option D)(h:Heap):Option D:=
 match Wu P t with
 |some (n,e)=>match mx with
  |none=>TY P n e x lo hi h
  |some _=>none
 |none=>fG P t x lo hi mx
def ua(place:Nat->Option (Nat×Nat))(cs:List D):List (Nat×D)->Option (List D)
 | []=>some cs
 |(i,d)::rest=>match place i with
  |none=>none
  |some (off,size)=>if d.notTuple&&d.cells.length=size&&off+size<=cs.length then ua place (wS cs d.cells off) rest else none
def Xo(P:Program):List Field->Option (List (Nat×Nat))
 | []=>some []
 |f::fs=>if szT P f.type=0 then none else(Xo P fs).map ((f.offset,szT P f.type):: ·)
def rz(P:Program)(t:TypeId):Option (List (Nat×Nat)):=
 match P.underlying t with
 |some (.struct fs)=>Xo P fs.toList
 |_=>none
def qW(P:Program)(t:TypeId)(parts:List (Nat×D)):Option D:=
 match uo P t with
 |none=>none
 |some z=>
  if !z.notTuple then none else
  match rz P t with
  |some ps=>(ua (λi=>ps[i]?) z.cells parts).map .agg
  |none=>match Wu P t with
   |some (_,e)=>if szT P e=0 then none else(ua (λi=>some (i*szT P e,szT P e)) z.cells parts).map .agg
   |none=>none
def mw(n:Nat)(z:List D):List D:=(List.replicate n z).flatten
def yD(P:Program)(mu:Bool)(nid:Nat)(t:TypeId)(n:Nat)(parts:List (Nat×D))(h:Heap):VR:=
 match uu P t with
 |none=>none
 |some e=>
  match uo P e with
  |none=>none
  |some z=>
   let sz:=szT P e
   if z.notTuple&&z.cells.length=sz&&decide (0<sz)&&decide (n*sz<=16777216)then
    match ua (λi=>some (i*sz,sz)) (mw n z.cells) parts with
    |none=>none
    |some cs=>if mu then some (.rs nid sz 0 n,h.new nid (.row cs))else some (.sl sz (wK sz n cs) .full,h)
   else none
def uF(P:Program)(t:TypeId):Nat:=P.bytesOf t
def TR(sz:Nat)(x:D)(h:Heap):Option (List D):=
 match x with
 |.sl s xs _=>if s=sz then some xs.flatten else none
 |.rs id s off n=>if s=sz then(match h.at' id with
  |some (.row cs)=>if off+n*sz<=cs.length then some ((cs.drop off).take (n*sz))else none
  |_=>none)else none
 |.nilsl=>some []
 |.str s=>if sz=1 then some (s.map λb=>.int .u8 b.toNat)else none
 |_=>none
def YE(P:Program)(e:TypeId):Bool:=
 match uo P e with
 |some z=>z.cells.length==szT P e&&szT P e !=0
 |none=>false
def oI(P:Program)(e:TypeId)(cs:List D):Obj:=
 match P.underlying e with
 |some (.int k)=>match k with
  |.u8=>.trow e false cs
  |_=>.row cs
 |_=>.row cs
def tB(P:Program)(mu:Bool)(nid:Nat)(e:TypeId)(sz m:Nat)(s:D)(ys:List D)(h:Heap):VR:=
 match s with
 |.nilsl=>
  if m=0 then some (.nilsl,h)
  else if m*uF P e<=lim&&decide (m<=lim)then
   (if mu then some (.rs nid sz 0 m,h.new nid (oI P e ys))else some (.sl sz (wK sz m ys) (.own nid),h.new nid .tok))
  else none
 |.sl sz' xs tk=>
  if sz'=sz&&decide ((xs.length+m)*uF P e<=lim)&&decide (xs.length+m<=lim)then
   match tk with
   |.no=>none
   |.full=>if m=0 then some (.sl sz xs .full,h)else if mu then some (.rs nid sz 0 (xs.length+m),h.new nid (oI P e (xs.flatten++ys)))else some (.sl sz (xs++wK sz m ys) (.own nid),h.new nid .tok)
   |.own i=>match h.at' i with
    |some .tok=>if mu then none else some (.sl sz (xs++wK sz m ys) (.own nid),(h.del i).new nid .tok)
    |_=>none
  else none
 |.rs id sz' off n=>
  if mu&&decide (sz'=sz)&&decide (off=0)&&decide ((n+m)*uF P e<=lim)&&decide (n+m<=lim)then
   match h.at' id with
   |some (.row cs)=>if cs.length=n*sz then some (.rs nid sz 0 (n+m),(h.del id).new nid (.row (cs++ys)))else none
   |some (.trow e2 full cs)=>match full with
    |true=>none
    |false=>if decide (e2=e)&&decide (cs.length=n*sz)then some (.rs nid sz 0 (n+m),(h.del id).new nid (.trow e false (cs++ys)))else none
   |_=>none
  else none
 |_=>none
def qS(P:Program)(mu:Bool)(nid:Nat)(t:TypeId)(s x:D)(h:Heap):VR:=
 match uu P t with
 |none=>none
 |some e=>
  if YE P e then
   match TR (szT P e) x h with
   |none=>none
   |some ys=>tB P mu nid e (szT P e) (ys.length/szT P e) s ys h
  else none
def tT(s x:D)(h:Heap):Heap:=
 match s with
 |.rs id sz _ n=>match x with
  |.rs _ _ _ _=>h
  |_=>match h.at' id with
   |some (.row cs)=>if decide (n*sz<cs.length)then h.set id (.row (cs.take (n*sz)))else h
   |_=>h
 |_=>h
def ny(P:Program)(mu:Bool)(nid:Nat)(t:TypeId)(s x:D)(h:Heap):VR:=
 match mu with
 |true=>qS P true nid t s x (tT s x h)
 |false=>qS P false nid t s x h
def nz(P:Program)(mu:Bool)(nid:Nat)(t u:TypeId)(s x:D)(h:Heap):VR:=
 match P.underlying u with
 |some (.int _)=>match uu P t with
  |some e=>match s with
   |.nilsl=>match x with
    |.int k n=>match k with
     |.i64=>match uo P e with
      |some z=>if mu&&z.notTuple&&decide (z.cells.length=szT P e)&&decide (0<szT P e)&&decide (0<n)&&decide (n.toNat*uF P e<=lim)&&decide (n.toNat<=lim)then
       some (.rs nid (szT P e) 0 n.toNat,h.new nid (oI P e (mw n.toNat z.cells)))else none
      |none=>none
     |_=>none
    |_=>none
   |_=>none
  |none=>none
 |_=>none
def o9(P:Program)(t:TypeId)(x:D)(_:Heap):Option D:=
 match x with
 |.str s=>match P.underlying t with
  |some .string=>some (.int .i64 s.length)
  |_=>none
 |.sl _ xs _=>match P.underlying t with
  |some (.slice _)=>some (.int .i64 xs.length)
  |_=>none
 |.rs _ _ _ n=>match P.underlying t with
  |some (.slice _)=>some (.int .i64 n)
  |_=>none
 |.nilsl=>match P.underlying t with
  |some (.slice _)=>some (.int .i64 0)
  |_=>none
 |.nilmap=>match P.underlying t with
  |some (.map _ _)=>some (.int .i64 0)
  |_=>none
 |_=>none
def tG(P:Program)(mu:Bool)(nid:Nat)(t:TypeId)(l c:D)(h:Heap):VR:=
 match uu P t,l,c with
 |some e,.int _ l,.int _ c=>
  match uo P e with
  |some z=>
   let sz:=szT P e
   if z.notTuple&&z.cells.length=sz&&decide (0<sz)&&decide (0<=l)&&decide (l=c)&&decide (l.toNat*uF P e<=lim)&&decide (l.toNat<=lim)then
    (if mu then some (.rs nid sz 0 l.toNat,h.new nid (.row (mw l.toNat z.cells)))else some (.sl sz (List.replicate l.toNat z.cells) .full,h))
   else none
  |none=>none
 |_,_,_=>none
def lg(ks:List Kd)(k:D):List (D×D)->Option (Option D)
 | []=>some none
 |(k',v)::es=>match eqK ks k.cells k'.cells with
  |some true=>some (some v)
  |some false=>lg ks k es
  |none=>none
def MG(ks:List Kd)(k v:D):List (D×D)->Option (List (D×D))
 | []=>some [(k,v)]
 |(k',v')::es=>match eqK ks k.cells k'.cells with
  |some true=>some ((k,v)::es)
  |some false=>(MG ks k v es).map ((k',v'):: ·)
  |none=>none
def MA(P:Program)(t:TypeId):Option (TypeId×TypeId):=
 match P.underlying t with
 |some (.map k e)=>some (k,e)
 |_=>none
def yo:Bool->D->Bool
 |true,.agg _=>true
 |true,_=>false
 |false,.agg _=>false
 |false,_=>true
def N5(P:Program)(t:TypeId):Option (Bool×List Kd):=
 match ru P 8 t,agT P t with
 |some ks,some ag=>some (ag,ks)
 |_,_=>none
def Wc(m:D)(h:Heap):Option (List (D×D)):=
 match m with
 |.nilmap=>some []
 |.map id=>match h.at' id with
  |some (.map es)=>some es
  |_=>none
 |_=>none
def dx(ok:Bool)(z:D):Option D->D
 |some v=>if ok then .tuple [v,.bool true]else v
 |none=>if ok then .tuple [z,.bool false]else z
def fC(ag:Bool)(ks:List Kd)(z k:D)(ok:Bool)(es:List (D×D)):Option D:=
 if yo ag k&&(eqK ks k.cells k.cells).isSome&&es.all (λx=>yo ag x.1)then
  match lg ks k es with
  |some o=>some (dx ok z o)
  |none=>none
 else none
def uM(P:Program)(t:TypeId)(m k:D)(ok:Bool)(h:Heap):Option D:=
 match MA P t with
 |none=>none
 |some (kt,e)=>
  match N5 P kt with
  |none=>none
  |some (ag,ks)=>
   match uo P e with
   |none=>none
   |some z=>
    match Wc m h with
    |none=>none
    |some es=>fC ag ks z k ok es
def wv(P:Program)(t:TypeId)(m k v:D)(h:Heap):Option Heap:=
 match MA P t with
 |none=>none
 |some (kt,_)=>
  match N5 P kt with
  |some (ag,ks)=>
   match m with
   |.map id=>match h.at' id with
    |some (.map es)=>if yo ag k&&(eqK ks k.cells k.cells).isSome&&es.all (λx=>yo ag x.1)&&(lg ks k es).isSome then(match MG ks k v es with
     |some es'=>some (h.set id (.map es'))
     |none=>none)else none
    |_=>none
   |_=>none
  |none=>none
def lO(x:D)(i:Nat):Option D:=
 match x with
 |.tuple vs=>vs[i]?
 |_=>none
def oS:List D->Option (List UInt8)
 | []=>some []
 |d::ds=>match d with
  |.int k n=>match k with
   |.u8=>match oS ds with
    |some s=>some (UInt8.ofNat n.toNat::s)
    |none=>none
   |_=>none
  |_=>none
def o8(P:Program)(src dst:TypeId)(x:D):Option D:=
 match x with
 |.int _ n=>match P.underlying src with
  |some (.int _)=>match P.underlying dst with
   |some (.int k)=>some (.int k (k.wrap n))
   |_=>none
  |_=>none
 |.str s=>match P.underlying src with
  |some .string=>match P.underlying dst with
   |some .string=>some (.str s)
   |some (.slice e)=>match P.underlying e with
    |some (.int .u8)=>some (.sl 1 (s.map λb=>[.int .u8 b.toNat]) .no)
    |_=>none
   |_=>none
  |_=>none
 |.sl sz xs _=>match P.underlying src with
  |some (.slice e)=>match P.underlying e with
   |some (.int .u8)=>match P.underlying dst with
    |some .string=>if sz=1 then(match oS xs.flatten with
     |some s=>some (.str s)
     |none=>none)else none
    |_=>none
   |_=>none
  |_=>none
 |_=>none
def HB(P:Program)(s d:TypeId)(id:Nat)(h:Heap):Option D:=
 match h.at' id with
 |some (.trow u full cs)=>match full with
  |true=>match P.underlying s with
   |some (.pointer t)=>match P.underlying d with
    |some .unsafePointer=>match P.info? t with
     |some j=>if decide (j.size≠0)&&decide (0<cs.length)then some (.ptr id 0)else none
     |none=>none
    |_=>none
   |some .unsafePointer=>match P.underlying d with
    |some (.pointer t)=>match P.info? t with
     |some _=>if liesAt P P.depth u (cs.length/P.cellsOf u) 0 t 1 then some (.ptr id 0)else none
     |none=>none
    |_=>none
   |_=>none
  |false=>none
 |_=>none
def aK(P:Program)(s d:TypeId)(x:D)(h:Heap):Option D:=
 match x with
 |.ptr id off=>match off with
  |0=>HB P s d id h
  |_=>none
 |y=>o8 P s d y
def zLb(P:Program)(t:TypeId):Bool:=
 match P.underlying t with
 |some (.pointer _)=>true
 |some .unsafePointer=>true
 |_=>false
def qL(x:D):Option D:=
 match x with
 |.ptr id off=>some (.ptr id off)
 |.iptr cs off=>some (.iptr cs off)
 |.fn (.func f) a c=>some (.fn (.func f) a c)
 |.yld i=>some (.yld i)
 |_=>none
def KR:D->D->Option D
 |.int k a,.int k' b=>if k=k' then some (.int k (if b<a then b else a))else none
 |_,_=>none
def ZB(t:TypeId)(cs:List D):Obj:=
 match cs with
 | []=>.row []
 |d::ds=>match d with
  |.nilptr=>match ds with
   | []=>.row (d::ds)
   |e::es=>match e with
    |.nilsl=>match es with
     | []=>.trow t true (d::ds)
     |_=>.row (d::ds)
    |_=>.row (d::ds)
  |_=>.row (d::ds)
def Fk:D->D->Option D
 |.int k a,.int k' b=>if k=k' then some (.int k (if b>a then b else a))else none
 |_,_=>none
def NG:D->List D->Option D
 |x,[]=>some x
 |x,y::rest=>match Fk x y with
  |some z=>NG z rest
  |none=>none
def pC(P:Program)(t:TypeId):Bool:=
 match P.underlying t with
 |some (.int _)=>false
 |some _=>true
 |none=>false
def dq(P:Program)(t:TypeId)(x:D)(h:Heap):Option Heap:=
 match x with
 |.nilsl=>match P.underlying t with
  |some (.slice _)=>some h
  |_=>none
 |.sl _ xs _=>match P.underlying t with
  |some (.slice _)=>if xs.length=0 then some h else none
  |_=>none
 |.rs id sz off n=>match uu P t with
  |none=>none
  |some e=>match uo P e with
   |none=>none
   |some z=>if n=0 then some h else if z.notTuple&&decide (z.cells.length=sz)then
     match h.at' id with
     |some (.row cs)=>if off+n*sz<=cs.length then some (h.set id (.row (wS cs (mw n z.cells) off)))else none
     |_=>none
    else none
 |.map id=>match P.underlying t with
  |some (.map _ _)=>match h.at' id with
   |some (.map _)=>some (h.set id (.map []))
   |_=>none
  |_=>none
 |_=>none
def Yc(P:Program)(e:TypeId)(id:Nat)(n:Int)(h:Heap):VR:=
 match h.at' id with
 |some (.trow e2 _ cs)=>
  if decide (e2=e)&&decide (szT P e=1)&&decide (0<n)&&decide (n.toNat<=cs.length)&&decide (n.toNat<=lim)then
   match oS (cs.take n.toNat)with
   |some s=>some (.str s,h.del id)
   |none=>none
  else none
 |_=>none
def kU(P:Program)(t:TypeId)(x y:D)(h:Heap):VR:=
 match P.underlying t with
 |some (.pointer e)=>match P.underlying e with
  |some (.int .u8)=>match x with
   |.ptr id off=>match off with
    |0=>match y with
     |.int .i64 n=>Yc P e id n h
     |_=>none
    |_=>none
   |.nilptr=>match y with
    |.int .i64 n=>if n=0 then some (.str [],h)else none
    |_=>none
   |_=>none
  |_=>none
 |_=>none
def n7(P:Program)(mu:Bool)(nid:Nat)(b:Builtin)(ats:List TypeId)(args:List D)(h:Heap):VR:=
 match b with
 |.len=>match ats with
  | [t]=>match args with
   | [x]=>(o9 P t x h).map (·,h)
   |_=>none
  |_=>none
 |.append=>match ats with
  | [t,u]=>match args with
   | [s,x]=>if pC P u then ny P mu nid t s x h else nz P mu nid t u s x h
   |_=>none
  |_=>none
 |.min=>match args with
  | [x,y]=>(KR x y).map (·,h)
  |_=>none
 |.max=>match args with
  |x::y::rest=>(NG x (y::rest)).map (·,h)
  |_=>none
 |.cap=>match ats with
  | [t]=>match args with
   | [x]=>match x with
    |.nilsl=>match P.underlying t with
     |some (.slice _)=>some (.int .i64 0,h)
     |_=>none
    |_=>none
   |_=>none
  |_=>none
 |.unsafeSliceData=>match ats with
  | [_]=>match args with
   | [x]=>match x with
    |.rs id _ off n=>match n,off with
     |0,_=>none
     |_,0=>some (.ptr id 0,h)
     |_,_=>none
    |.nilsl=>some (.nilptr,h)
    |_=>none
   |_=>none
  |_=>none
 |.unsafeString=>match ats with
  | [t,_]=>match args with
   | [x,y]=>kU P t x y h
   |_=>none
  |_=>none
 |.clear=>match ats with
  | [t]=>match args with
   | [x]=>(dq P t x h).map (si,·)
   |_=>none
  |_=>none
 |_=>none
def zEW(P:Program)(t:TypeId):Bool:=
 match P.underlying t with
 |some (.interface _)=>false
 |some _=>true
 |none=>false
def BO(P:Program)(t:TypeId)(x:D)(f:Nat):Option D:=
 match qK P t f with
 |some (off,ft)=>match x with
  |.agg cs=>match agT P ft with
   |some ag=>yO ag (szT P ft) cs off
   |none=>none
  |_=>none
 |none=>none
def rY(s:List UInt8)(pos:Nat):Nat×Nat:=Utf8.decode ⟨s.toArray⟩ pos
def Wn(x:D)(isS:Bool)(h:Heap):VR:=
 match x with
 |.ptr id off=>match h.at' id with
  |some (.siter s pos)=>
   if isS&&decide (off=0)then
    if pos<s.length then
     (if decide (s.length<=lim)&&IntKind.i32.wrap (rY s pos).1==((rY s pos).1:Int)then some (.tuple [.bool true,.int .i64 pos,.int .i32 (rY s pos).1],h.set id (.siter s (pos+(rY s pos).2)))else none)
    else some (.tuple [.bool false],h)
   else none
  |_=>none
 |_=>none
def WO(P:Program)(nid:Nat)(t:TypeId)(x:D)(h:Heap):VR:=
 match x with
 |.str s=>match P.underlying t with
  |some .string=>some (.ptr nid 0,h.new nid (.siter s 0))
  |_=>none
 |_=>none
def vop(P:Program)(mu:Bool)(nid:Nat)(o:Op)(ev:Operand->D)(h:Heap):VR:=
 match o with
 |.move x=>some (ev x,h)
 |.assign x=>some (ev x,h)
 |.pick c a b=>match ev c with
  |.bool true=>some (ev a,h)
  |.bool false=>some (ev b,h)
  |_=>none
 |.alloc t=>match uo P t with
  |some z=>if z.notTuple then some (.ptr nid 0,h.new nid (ZB t z.cells))else none
  |none=>none
 |.box _ x=>if(ev x).notTuple then(if mu then some (.ptr nid 0,h.new nid (.row (ev x).cells))else some (.iptr (ev x).cells 0,h))else none
 |.build t parts=>(qW P t (parts.toList.map λp=>(p.1,ev p.2))).map (·,h)
 |.buildSlice t n parts=>yD P mu nid t n (parts.toList.map λp=>(p.1,ev p.2)) h
 |.load t a=>(kT P t (ev a) h).map (·,h)
 |.store t a x=>(yW P t (ev a) (ev x) h).map (si,·)
 |.nilCheck x=>(qL (ev x)).map (·,h)
 |.binOp op t x y _=>(kW P op t (isC x||isC y) (ev x) (ev y)).map (·,h)
 |.unOp op _ x=>(vun op (ev x)).map (·,h)
 |.convert s d x=>(aK P s d (ev x) h).map (·,h)
 |.makeFunc g a c=>match g with
  |.func f=>some (.fn (.func f) (a.toList.map ev) (c.toList.map ev),h)
  |_=>none
 |.makeMap _ r=>match r with
  |none=>some (.map nid,h.new nid (.map []))
  |some _=>none
 |.makeSlice t l c=>tG P mu nid t (ev l) (ev c) h
 |.slice t x lo hi mx=>(uN P t (ev x) (lo.map ev) (hi.map ev) (mx.map ev) h).map (·,h)
 |.fieldAddr s x f=>(pk P s (ev x) f).map (·,h)
 |.field s x f=>(BO P s (ev x) f).map (·,h)
 |.indexAddr t x i=>(yc P t (ev x) (ev i)).map (·,h)
 |.index t x i=>(nS P t (ev x) (ev i)).map (·,h)
 |.lookup t m k ok=>(uM P t (ev m) (ev k) ok h).map (·,h)
 |.mapUpdate t m k v=>(wv P t (ev m) (ev k) (ev v) h).map (si,·)
 |.insert t m k v=>(wv P t (ev m) (ev k) (ev v) h).map (si,·)
 |.extract x i=>(lO (ev x) i).map (·,h)
 |.range t x=>WO P nid t (ev x) h
 |.next x isS=>Wn (ev x) isS h
 |.makeInterface t x=>if zEW P t then some (.iface t (ev x),h)else none
 |.call c=>match c.callee with
  |.builtin b=>n7 P mu nid b c.argTypes.toList (c.args.toList.map ev) h
  |_=>none
 |_=>none
end Go.V
