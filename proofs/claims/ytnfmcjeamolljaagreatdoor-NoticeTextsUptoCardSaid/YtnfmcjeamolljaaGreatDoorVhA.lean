/- Abstract values and operations for programs of the model, and their soundness, first part. No condition. -/
import Derived.RangeFuncLeaves
import Derived.OrdersIn
import Derived.TacticsIn
import Derived.Laws.AppendOwn
import Derived.Below
import Derived.Laws.CopyRow
import Derived.ChangeKeysEq
import Derived.Laws.StructEq
import Derived.Laws.Concat
import Derived.Lib.Builder
import Derived.Laws.Slices
import Derived.Great.FillDense
set_option linter.unusedSimpArgs false
set_option linter.unusedVariables false
set_option linter.constructorNameAsVariable false
set_option linter.deprecated false
namespace Go.V

/-! Abstract values. -/
inductive Tk where
  | no | full | own (t : Nat)

inductive D where
  | bool (b : Bool)
  | int (k : IntKind) (n : Int)
  | str (s : List UInt8)
  | nilptr
  | ptr (id off : Nat)
  | iptr (cs : List D) (off : Nat)
  | nilsl
  | sl (sz : Nat) (xs : List (List D)) (tk : Tk)
  | rs (id sz off len : Nat)
  | nilmap
  | map (id : Nat)
  | fn (f : Fn) (first cap : List D)
  | yld (id : Nat)
  | nilfn
  | agg (cs : List D)
  | tuple (cs : List D)
  | iface (t : TypeId) (v : D)
  | niliface

abbrev Frm := Nat → D

def undefD : D := .tuple []

structure LRec where
  st : LoopState
  pending : Option Code
  fr : Frm
  params : Array Tmp
  assign : Code
  body : Code
  n : Nat

inductive Obj where
  | row (cs : List D)
  | tok
  | map (es : List (D × D))
  | loop (r : LRec)
  | siter (s : List UInt8) (pos : Nat)
  | trow (t : TypeId) (full : Bool) (cs : List D)

structure Heap where
  next : Nat
  at' : Nat → Option Obj

def Heap.set (h : Heap) (i : Nat) (o : Obj) : Heap := { next := h.next, at' := fun j => if j = i then some o else h.at' j }
def Heap.del (h : Heap) (i : Nat) : Heap := { next := h.next, at' := fun j => if j = i then none else h.at' j }
def Heap.new (h : Heap) (i : Nat) (o : Obj) : Heap := { next := max h.next (i + 1), at' := fun j => if j = i then some o else h.at' j }

def D.cells : D → List D
  | .agg cs => cs
  | d => [d]

def D.flat : D → Bool
  | .agg _ => false
  | .tuple _ => false
  | _ => true

def D.notTuple : D → Bool
  | .tuple _ => false
  | _ => true

def lim : Nat := 140737488355328

/-! Constants. -/
mutual
def cst : Value → D
  | .bool b => .bool b
  | .int k n => .int k n
  | .string s => .str s.data.toList
  | .pointer none => .nilptr
  | .slice none 0 0 => .nilsl
  | .map none => .nilmap
  | .nilFunc => .nilfn
  | .nilIface => .niliface
  | .agg cs => .agg (cstL cs.toList)
  | .tuple cs => .tuple (cstL cs.toList)
  | _ => .tuple []
def cstL : List Value → List D
  | [] => []
  | v :: vs => cst v :: cstL vs
end

mutual
def cstOk : Value → Bool
  | .bool _ => true
  | .int k n => k.wrap n == n
  | .string s => decide (s.data.toList.length ≤ lim)
  | .pointer none => true
  | .slice none 0 0 => true
  | .map none => true
  | .nilFunc => true
  | .nilIface => true
  | .agg cs => cstOkL cs.toList && cs.toList.all (·.oneCell')
  | .tuple cs => cstOkL cs.toList
  | _ => false
def cstOkL : List Value → Bool
  | [] => true
  | v :: vs => cstOk v && cstOkL vs
end

def opnd (fr : Frm) : Operand → D
  | .tmp t => fr t
  | .const v => cst v
  | .global _ => .tuple []
  | .func f => .fn (.func f) [] []

/-! Operations on abstract values. -/
def lstr (a b : List UInt8) : Bool := Op.bytesLess a b

def vint (op : BinOp) (k : IntKind) (a b : Int) : Option D :=
  match op with
  | .add => some (.int k (k.wrap (a + b)))
  | .sub => some (.int k (k.wrap (a - b)))
  | .mul => some (.int k (k.wrap (a * b)))
  | .quo => if b = 0 then none else some (.int k (k.wrap (a.tdiv b)))
  | .rem => if b = 0 then none else some (.int k (a.tmod b))
  | .and => some (.int k (k.wrap (BitVec.ofInt k.bits a &&& BitVec.ofInt k.bits b).toNat))
  | .or => some (.int k (k.wrap (BitVec.ofInt k.bits a ||| BitVec.ofInt k.bits b).toNat))
  | .xor => some (.int k (k.wrap (BitVec.ofInt k.bits a ^^^ BitVec.ofInt k.bits b).toNat))
  | .andNot => some (.int k (k.wrap (BitVec.ofInt k.bits a &&& ~~~BitVec.ofInt k.bits b).toNat))
  | .eql => some (.bool (a == b))
  | .neq => some (.bool (a != b))
  | .lss => some (.bool (decide (a < b)))
  | .leq => some (.bool (decide (a ≤ b)))
  | .gtr => some (.bool (decide (a > b)))
  | .geq => some (.bool (decide (a ≥ b)))
  | _ => none

def vshift (op : BinOp) (k : IntKind) (a b : Int) : Option D :=
  if b < 0 then none else
  match op with
  | .shl => some (.int k (k.wrap (a * 2 ^ (min b.toNat k.bits))))
  | .shr => some (.int k (a.fdiv (2 ^ (min b.toNat k.bits))))
  | _ => none

def vstr (op : BinOp) (a b : List UInt8) : Option D :=
  match op with
  | .add => if a.length + b.length ≤ lim then some (.str (a ++ b)) else none
  | .eql => some (.bool (a == b))
  | .neq => some (.bool (!(a == b)))
  | .lss => some (.bool (lstr a b))
  | .leq => some (.bool (lstr a b || a == b))
  | .gtr => some (.bool !(lstr a b || a == b))
  | .geq => some (.bool !(lstr a b))
  | _ => none

/-- Kinds of cells that can be compared. -/
inductive Kd where
  | b | i | s

/-- Equality of lists of cells of given kinds. -/
def eqK : List Kd → List D → List D → Option Bool
  | [], [], [] => some true
  | .b :: ks, .bool x :: as, .bool y :: bs => (eqK ks as bs).map (x == y && ·)
  | .i :: ks, .int k x :: as, .int k' y :: bs => if k = k' then (eqK ks as bs).map (x == y && ·) else none
  | .s :: ks, .str x :: as, .str y :: bs => (eqK ks as bs).map (x == y && ·)
  | _, _, _ => none

/-- Equality of truth values, and with nil. -/
def veq : Option TypeDesc → D → D → Option Bool
  | some .bool, .bool a, .bool b => some (a == b)
  | some (.pointer _), .nilptr, .nilptr => some true
  | some (.pointer _), .nilptr, .ptr _ _ => some false
  | some (.pointer _), .ptr _ _, .nilptr => some false
  | some (.pointer _), .nilptr, .iptr _ _ => some false
  | some (.pointer _), .iptr _ _, .nilptr => some false
  | some (.slice _), .nilsl, .nilsl => some true
  | some (.slice _), .nilsl, .sl _ _ _ => some false
  | some (.slice _), .sl _ _ _, .nilsl => some false
  | some (.slice _), .nilsl, .rs _ _ _ _ => some false
  | some (.slice _), .rs _ _ _ _, .nilsl => some false
  | some (.map _ _), .nilmap, .nilmap => some true
  | some (.map _ _), .nilmap, .map _ => some false
  | some (.map _ _), .map _, .nilmap => some false
  | some (.func _ _ _), .nilfn, .nilfn => some true
  | some (.func _ _ _), .nilfn, .fn _ _ _ => some false
  | some (.func _ _ _), .fn _ _ _, .nilfn => some false
  | some (.func _ _ _), .nilfn, .yld _ => some false
  | some (.func _ _ _), .yld _, .nilfn => some false
  | _, _, _ => none

def kindsF (kd : TypeId → Option (List Kd)) (sz : TypeId → Nat) : List Field → Nat → Nat → Option (List Kd)
  | [], off, n => if off == n then some [] else none
  | f :: fs, off, n =>
    if f.name != "_" && f.offset == off && sz f.type != 0 then
      match kd f.type with
      | some ks => if ks.length == sz f.type then (kindsF kd sz fs (off + ks.length) n).map (ks ++ ·) else none
      | none => none
    else none

/-- The kinds of the cells of a type whose values are compared cell by cell. -/
def kindsT (P : Program) : Nat → TypeId → Option (List Kd)
  | 0, _ => none
  | d + 1, t =>
    match P.underlying t with
    | some .bool => if P.cellsOf t == 1 then some [.b] else none
    | some (.int _) => if P.cellsOf t == 1 then some [.i] else none
    | some .string => if P.cellsOf t == 1 then some [.s] else none
    | some (.struct fs) => if P.stoodInHeld t then none else kindsF (kindsT P d) P.cellsOf fs.toList 0 (P.cellsOf t)
    | _ => none

/-- A struct type with '==' cell by cell. -/
def eqT (P : Program) (t : TypeId) : Option (List Kd) :=
  match P.underlying t with
  | some (.struct _) => if P.eqGuardType P.depth t then none else kindsT P 8 t
  | _ => none

def pickEq (op : BinOp) (f g : Option D) : Option D :=
  match op with
  | .eql => f
  | .neq => g
  | _ => none

def vcmp (P : Program) (op : BinOp) (t : TypeId) (x y : D) : Option D :=
  pickEq op ((veq (P.underlying t) x y).map .bool) ((veq (P.underlying t) x y).map fun b => .bool (!b))

def vcmpK (op : BinOp) (ks : List Kd) (as bs : List D) : Option D :=
  pickEq op ((eqK ks as bs).map .bool) ((eqK ks as bs).map fun b => .bool (!b))

def vints (op : BinOp) (k k' : IntKind) (a b : Int) : Option D :=
  match op with
  | .shl => vshift op k a b
  | .shr => vshift op k a b
  | _ => if k = k' then vint op k a b else none

/-- An interface value is compared with nil. -/
def vnili (P : Program) (op : BinOp) (t : TypeId) (r : Bool) : Option D :=
  match P.underlying t with
  | some (.interface _) => pickEq op (some (.bool r)) (some (.bool (!r)))
  | _ => none

/-- A pointer is compared with itself. -/
def vptrEq (P : Program) (op : BinOp) (t : TypeId) : Option D :=
  match P.underlying t with
  | some (.pointer e) => match P.info? e with
    | some _ => pickEq op (some (.bool true)) (some (.bool false))
    | none => none
  | _ => none

def isC : Operand → Bool
  | .const _ => true
  | _ => false

def vbin (P : Program) (op : BinOp) (t : TypeId) (c : Bool) (x y : D) : Option D :=
  match x with
  | .niliface => match y with
    | .niliface => if c then vnili P op t true else none
    | .iface _ _ => vnili P op t false
    | _ => none
  | .iface _ _ => match y with
    | .niliface => vnili P op t false
    | _ => none
  | .int k a => match y with
    | .int k' b => vints op k k' a b
    | _ => none
  | .str a => match y with
    | .str b => vstr op a b
    | _ => none
  | .agg as => match y with
    | .agg bs => match eqT P t with
      | some ks => vcmpK op ks as bs
      | none => none
    | _ => none
  | .ptr i a => match y with
    | .ptr j b => match Nat.beq i j && Nat.beq a b with
      | true => vptrEq P op t
      | false => none
    | y => vcmp P op t (.ptr i a) y
  | x => vcmp P op t x y

def vun (op : UnOp) (x : D) : Option D :=
  match op, x with
  | .neg, .int k n => some (.int k (k.wrap (0 - n)))
  | .not, .bool b => some (.bool !b)
  | _, _ => none

/-- A part of a list of cells: n cells from off on, as a value. -/
def vpart (ag : Bool) (n : Nat) (cs : List D) (off : Nat) : Option D :=
  if ag then (if n = 0 then none else if off + n ≤ cs.length then some (.agg ((cs.drop off).take n)) else none) else cs[off]?

def putAt (cs vs : List D) (off : Nat) : List D := cs.take off ++ vs ++ cs.drop (off + vs.length)

def agT (P : Program) (t : TypeId) : Option Bool :=
  match P.underlying t with
  | some (.struct _) => some true
  | some (.array _ _) => some true
  | some _ => some false
  | none => none

def szT (P : Program) (t : TypeId) : Nat := P.cellsOf t

def zeroT (P : Program) (t : TypeId) : Option D :=
  match (P.info? t).bind (·.zero) with
  | some z => if cstOk z then some (cst z) else none
  | none => none

def fieldT (P : Program) (t : TypeId) (f : Nat) : Option (Nat × TypeId) :=
  match P.underlying t with
  | some (.struct fs) => match fs[f]? with
    | some f => some (f.offset, f.type)
    | none => none
  | _ => none

def elemT (P : Program) (t : TypeId) : Option TypeId :=
  match P.underlying t with
  | some (.slice e) => some e
  | _ => none

def arrT (P : Program) (t : TypeId) : Option (Nat × TypeId) :=
  match P.underlying t with
  | some (.array n e) => some (n, e)
  | _ => none

abbrev VR := Option (D × Heap)

def vload (P : Program) (t : TypeId) (a : D) (h : Heap) : Option D :=
  match agT P t with
  | none => none
  | some ag =>
    match a with
    | .iptr cs off => vpart ag (szT P t) cs off
    | .ptr id off => match h.at' id with
      | some (.row cs) => vpart ag (szT P t) cs off
      | some (.trow _ _ cs) => vpart ag (szT P t) cs off
      | _ => none
    | _ => none

def vstore (P : Program) (t : TypeId) (a x : D) (h : Heap) : Option Heap :=
  match a with
  | .ptr id off => match h.at' id with
    | some (.row cs) =>
      if szT P t ≠ 0 && x.cells.length = szT P t && off + x.cells.length ≤ cs.length && x.cells.all D.flat then some (h.set id (.row (putAt cs x.cells off))) else none
    | some (.trow u b cs) =>
      if szT P t ≠ 0 && x.cells.length = szT P t && off + x.cells.length ≤ cs.length && x.cells.all D.flat then some (h.set id (.trow u b (putAt cs x.cells off))) else none
    | _ => none
  | _ => none

def vfieldAddr (P : Program) (s : TypeId) (x : D) (f : Nat) : Option D :=
  match fieldT P s f with
  | some (off, ft) =>
    if szT P ft = 0 then none else
    match x with
    | .iptr cs o => some (.iptr cs (o + off))
    | .ptr id o => some (.ptr id (o + off))
    | _ => none
  | none => none

def vindexAddr (P : Program) (t : TypeId) (x i : D) : Option D :=
  match i with
  | .int _ n =>
    match elemT P t with
    | some e =>
      match x with
      | .sl sz xs _ => if sz = szT P e then (if 0 ≤ n then (match xs[n.toNat]? with | some c => some (.iptr c 0) | none => none) else none) else none
      | .rs id sz off len => if sz = szT P e && decide (0 ≤ n) && decide (n < len) then some (.ptr id (off + n.toNat * sz)) else none
      | _ => none
    | none =>
      match arrT P t with
      | some (len, e) =>
        if decide (0 ≤ n) && decide (n < len) && decide (szT P e ≠ 0) then
          match x with
          | .iptr cs o => some (.iptr cs (o + n.toNat * szT P e))
          | .ptr id o => some (.ptr id (o + n.toNat * szT P e))
          | _ => none
        else none
      | none => none
  | _ => none

def vindex (P : Program) (t : TypeId) (x i : D) : Option D :=
  match i with
  | .int _ n =>
    match x with
    | .str s => match P.underlying t with
      | some .string => if 0 ≤ n then (match s[n.toNat]? with | some b => some (.int .u8 b.toNat) | none => none) else none
      | _ => none
    | .agg cs =>
      match arrT P t with
      | some (len, e) => match agT P e with
        | some ag => if decide (0 ≤ n) && decide (n < len) then vpart ag (szT P e) cs (n.toNat * szT P e) else none
        | none => none
      | none => none
    | _ => none
  | _ => none

/-- The bounds of a cut: low and high, at length n; a bound that is not given is none. -/
def hiOf (n : Nat) : Option D → Option Nat
  | none => some n
  | some (.int _ h) => if decide (0 ≤ h) && decide (h ≤ n) then some h.toNat else none
  | some _ => none

def loOf (h : Nat) : Option D → Option Nat
  | none => some 0
  | some (.int _ l) => if decide (0 ≤ l) && decide (l ≤ h) then some l.toNat else none
  | some _ => none

def vbounds (n : Nat) (lo hi : Option D) : Option (Nat × Nat) :=
  match hiOf n hi with
  | none => none
  | some h => match loOf h lo with
    | none => none
    | some l => some (l, h)

def cutTk (hi : Nat) (n : Nat) : Tk → Tk
  | .full => if hi = n then .full else .no
  | _ => .no

/-- The bounds of a cut whose capacity ends with it. -/
def vbounds3 (n : Nat) (lo : Option D) (hi m : D) : Option (Nat × Nat) :=
  match hiOf n (some m) with
  | none => none
  | some mm => match hiOf mm (some hi) with
    | none => none
    | some u => if u = mm then (match loOf u lo with
      | none => none
      | some l => some (l, u)) else none

def vslice3 (P : Program) (t : TypeId) (x : D) (lo : Option D) (hi m : D) : Option D :=
  match elemT P t with
  | none => none
  | some e => if szT P e = 0 then none else
    match x with
    | .sl sz xs _ => if sz = szT P e then (match vbounds3 xs.length lo hi m with
      | some (l, u) => some (.sl sz ((xs.take u).drop l) .full)
      | none => none) else none
    | .rs _ sz _ len => if sz = szT P e then (match vbounds3 len lo hi m with
      | some (l, u) => if l = u then some (.sl sz [] .full) else none
      | none => none) else none
    | .nilsl => match vbounds3 0 lo hi m with
      | some _ => some .nilsl
      | none => none
    | _ => none

def vslice (P : Program) (t : TypeId) (x : D) (lo hi mx : Option D) : Option D :=
  match mx with
  | some m => match hi with
    | some hi => vslice3 P t x lo hi m
    | none => none
  | none =>
    match x with
    | .str s => match P.underlying t with
      | some .string => match vbounds s.length lo hi with
        | some (l, h) => some (.str ((s.take h).drop l))
        | none => none
      | _ => none
    | .sl sz xs tk => match elemT P t with
      | some e => if sz = szT P e then (match vbounds xs.length lo hi with
        | some (l, h) => some (.sl sz ((xs.take h).drop l) (cutTk h xs.length tk))
        | none => none) else none
      | none => none
    | .rs id sz off len => match elemT P t with
      | some e => if sz = szT P e then (match vbounds len lo hi with
        | some (l, h) => some (.rs id sz (off + l * sz) (h - l))
        | none => none) else none
      | none => none
    | .nilsl => match elemT P t with
      | some e => if szT P e = 0 then none else match vbounds 0 lo hi with
        | some _ => some .nilsl
        | none => none
      | none => none
    | _ => none

def chunks (sz : Nat) : Nat → List D → List (List D)
  | 0, _ => []
  | n + 1, cs => cs.take sz :: chunks sz n (cs.drop sz)

/-- A part of an array behind a pointer. -/
def vsliceP (P : Program) (n : Nat) (e : TypeId) (x : D) (lo hi : Option D) (h : Heap) : Option D :=
  if decide (0 < szT P e) && decide (n ≤ lim) then
    match vbounds n lo hi with
    | none => none
    | some (l, u) => match x with
      | .ptr id off => match h.at' id with
        | some (.row cs) => if off + n * szT P e ≤ cs.length then some (.rs id (szT P e) (off + l * szT P e) (u - l)) else none
        | _ => none
      | .iptr cs off => if off + n * szT P e ≤ cs.length then some (.sl (szT P e) (((chunks (szT P e) n (cs.drop off)).take u).drop l) (if u = n then .full else .no)) else none
      | _ => none
  else none

def vsliceA (P : Program) (t : TypeId) (x : D) (lo hi mx : Option D) (h : Heap) : Option D :=
  match arrT P t with
  | some (n, e) => match mx with
    | none => vsliceP P n e x lo hi h
    | some _ => none
  | none => vslice P t x lo hi mx

/-- The parts of a struct, an array or a slice literal laid over zero cells. -/
def vfill (place : Nat → Option (Nat × Nat)) (cs : List D) : List (Nat × D) → Option (List D)
  | [] => some cs
  | (i, d) :: rest => match place i with
    | none => none
    | some (off, size) => if d.notTuple && d.cells.length = size && off + size ≤ cs.length then vfill place (putAt cs d.cells off) rest else none

/-- The places of the fields of a struct, if none of them is empty. -/
def placesL (P : Program) : List Field → Option (List (Nat × Nat))
  | [] => some []
  | f :: fs => if szT P f.type = 0 then none else (placesL P fs).map ((f.offset, szT P f.type) :: ·)

def placesT (P : Program) (t : TypeId) : Option (List (Nat × Nat)) :=
  match P.underlying t with
  | some (.struct fs) => placesL P fs.toList
  | _ => none

def vbuild (P : Program) (t : TypeId) (parts : List (Nat × D)) : Option D :=
  match zeroT P t with
  | none => none
  | some z =>
    if !z.notTuple then none else
    match placesT P t with
    | some ps => (vfill (fun i => ps[i]?) z.cells parts).map .agg
    | none => match arrT P t with
      | some (_, e) => if szT P e = 0 then none else (vfill (fun i => some (i * szT P e, szT P e)) z.cells parts).map .agg
      | none => none

def repl (n : Nat) (z : List D) : List D := (List.replicate n z).flatten

def vbuildSlice (P : Program) (mu : Bool) (nid : Nat) (t : TypeId) (n : Nat) (parts : List (Nat × D)) (h : Heap) : VR :=
  match elemT P t with
  | none => none
  | some e =>
    match zeroT P e with
    | none => none
    | some z =>
      let sz := szT P e
      if z.notTuple && z.cells.length = sz && decide (0 < sz) && decide (n * sz ≤ 16777216) then
        match vfill (fun i => some (i * sz, sz)) (repl n z.cells) parts with
        | none => none
        | some cs => if mu then some (.rs nid sz 0 n, h.new nid (.row cs)) else some (.sl sz (chunks sz n cs) .full, h)
      else none

def bytesT (P : Program) (t : TypeId) : Nat := P.bytesOf t

/-- The elements of what is appended or copied. -/
def vels (sz : Nat) (x : D) (h : Heap) : Option (List D) :=
  match x with
  | .sl s xs _ => if s = sz then some xs.flatten else none
  | .rs id s off n => if s = sz then (match h.at' id with
    | some (.row cs) => if off + n * sz ≤ cs.length then some ((cs.drop off).take (n * sz)) else none
    | _ => none) else none
  | .nilsl => some []
  | .str s => if sz = 1 then some (s.map fun b => .int .u8 b.toNat) else none
  | _ => none

/-- The zero value of an element fills an element. -/
def zokT (P : Program) (e : TypeId) : Bool :=
  match zeroT P e with
  | some z => z.cells.length == szT P e && szT P e != 0
  | none => false

/-- New memory of a slice that may change: of bytes its type is kept. -/
def rowObj (P : Program) (e : TypeId) (cs : List D) : Obj :=
  match P.underlying e with
  | some (.int k) => match k with
    | .u8 => .trow e false cs
    | _ => .row cs
  | _ => .row cs

/-- s with the m elements ys, of size sz, behind it: e is the element's type. -/
def vappendE (P : Program) (mu : Bool) (nid : Nat) (e : TypeId) (sz m : Nat) (s : D) (ys : List D) (h : Heap) : VR :=
  match s with
  | .nilsl =>
    if m = 0 then some (.nilsl, h)
    else if m * bytesT P e ≤ lim && decide (m ≤ lim) then
      (if mu then some (.rs nid sz 0 m, h.new nid (rowObj P e ys)) else some (.sl sz (chunks sz m ys) (.own nid), h.new nid .tok))
    else none
  | .sl sz' xs tk =>
    if sz' = sz && decide ((xs.length + m) * bytesT P e ≤ lim) && decide (xs.length + m ≤ lim) then
      match tk with
      | .no => none
      | .full => if m = 0 then some (.sl sz xs .full, h) else if mu then some (.rs nid sz 0 (xs.length + m), h.new nid (rowObj P e (xs.flatten ++ ys))) else some (.sl sz (xs ++ chunks sz m ys) (.own nid), h.new nid .tok)
      | .own i => match h.at' i with
        | some .tok => if mu then none else some (.sl sz (xs ++ chunks sz m ys) (.own nid), (h.del i).new nid .tok)
        | _ => none
    else none
  | .rs id sz' off n =>
    if mu && decide (sz' = sz) && decide (off = 0) && decide ((n + m) * bytesT P e ≤ lim) && decide (n + m ≤ lim) then
      match h.at' id with
      | some (.row cs) => if cs.length = n * sz then some (.rs nid sz 0 (n + m), (h.del id).new nid (.row (cs ++ ys))) else none
      | some (.trow e2 full cs) => match full with
        | true => none
        | false => if decide (e2 = e) && decide (cs.length = n * sz) then some (.rs nid sz 0 (n + m), (h.del id).new nid (.trow e false (cs ++ ys))) else none
      | _ => none
    else none
  | _ => none

def vappend (P : Program) (mu : Bool) (nid : Nat) (t : TypeId) (s x : D) (h : Heap) : VR :=
  match elemT P t with
  | none => none
  | some e =>
    if zokT P e then
      match vels (szT P e) x h with
      | none => none
      | some ys => vappendE P mu nid e (szT P e) (ys.length / szT P e) s ys h
    else none

/-- The row of a slice that may change, without what lies behind the slice. -/
def truncRs (s x : D) (h : Heap) : Heap :=
  match s with
  | .rs id sz _ n => match x with
    | .rs _ _ _ _ => h
    | _ => match h.at' id with
      | some (.row cs) => if decide (n * sz < cs.length) then h.set id (.row (cs.take (n * sz))) else h
      | _ => h
  | _ => h

def vappendT (P : Program) (mu : Bool) (nid : Nat) (t : TypeId) (s x : D) (h : Heap) : VR :=
  match mu with
  | true => vappend P true nid t s x (truncRs s x h)
  | false => vappend P false nid t s x h

/-- Zeros that are appended to nil. -/
def vappendZ (P : Program) (mu : Bool) (nid : Nat) (t u : TypeId) (s x : D) (h : Heap) : VR :=
  match P.underlying u with
  | some (.int _) => match elemT P t with
    | some e => match s with
      | .nilsl => match x with
        | .int k n => match k with
          | .i64 => match zeroT P e with
            | some z => if mu && z.notTuple && decide (z.cells.length = szT P e) && decide (0 < szT P e) && decide (0 < n) && decide (n.toNat * bytesT P e ≤ lim) && decide (n.toNat ≤ lim) then
              some (.rs nid (szT P e) 0 n.toNat, h.new nid (rowObj P e (repl n.toNat z.cells))) else none
            | none => none
          | _ => none
        | _ => none
      | _ => none
    | none => none
  | _ => none

def vlen (P : Program) (t : TypeId) (x : D) (_ : Heap) : Option D :=
  match x with
  | .str s => match P.underlying t with
    | some .string => some (.int .i64 s.length)
    | _ => none
  | .sl _ xs _ => match P.underlying t with
    | some (.slice _) => some (.int .i64 xs.length)
    | _ => none
  | .rs _ _ _ n => match P.underlying t with
    | some (.slice _) => some (.int .i64 n)
    | _ => none
  | .nilsl => match P.underlying t with
    | some (.slice _) => some (.int .i64 0)
    | _ => none
  | .nilmap => match P.underlying t with
    | some (.map _ _) => some (.int .i64 0)
    | _ => none
  | _ => none

def vmakeSlice (P : Program) (mu : Bool) (nid : Nat) (t : TypeId) (l c : D) (h : Heap) : VR :=
  match elemT P t, l, c with
  | some e, .int _ l, .int _ c =>
    match zeroT P e with
    | some z =>
      let sz := szT P e
      if z.notTuple && z.cells.length = sz && decide (0 < sz) && decide (0 ≤ l) && decide (l = c) && decide (l.toNat * bytesT P e ≤ lim) && decide (l.toNat ≤ lim) then
        (if mu then some (.rs nid sz 0 l.toNat, h.new nid (.row (repl l.toNat z.cells))) else some (.sl sz (List.replicate l.toNat z.cells) .full, h))
      else none
    | none => none
  | _, _, _ => none

/-- The entry with a key. -/
def mfind (ks : List Kd) (k : D) : List (D × D) → Option (Option D)
  | [] => some none
  | (k', v) :: es => match eqK ks k.cells k'.cells with
    | some true => some (some v)
    | some false => mfind ks k es
    | none => none

def mput (ks : List Kd) (k v : D) : List (D × D) → Option (List (D × D))
  | [] => some [(k, v)]
  | (k', v') :: es => match eqK ks k.cells k'.cells with
    | some true => some ((k, v) :: es)
    | some false => (mput ks k v es).map ((k', v') :: ·)
    | none => none

def mapT (P : Program) (t : TypeId) : Option (TypeId × TypeId) :=
  match P.underlying t with
  | some (.map k e) => some (k, e)
  | _ => none

/-- The shape of a key: one cell, or a struct. -/
def keyShape : Bool → D → Bool
  | true, .agg _ => true
  | true, _ => false
  | false, .agg _ => false
  | false, _ => true

def keyT (P : Program) (t : TypeId) : Option (Bool × List Kd) :=
  match kindsT P 8 t, agT P t with
  | some ks, some ag => some (ag, ks)
  | _, _ => none

/-- The entries of a map. -/
def mapEs (m : D) (h : Heap) : Option (List (D × D)) :=
  match m with
  | .nilmap => some []
  | .map id => match h.at' id with
    | some (.map es) => some es
    | _ => none
  | _ => none

def vfound (ok : Bool) (z : D) : Option D → D
  | some v => if ok then .tuple [v, .bool true] else v
  | none => if ok then .tuple [z, .bool false] else z

def vlookupIn (ag : Bool) (ks : List Kd) (z k : D) (ok : Bool) (es : List (D × D)) : Option D :=
  if keyShape ag k && (eqK ks k.cells k.cells).isSome && es.all (fun x => keyShape ag x.1) then
    match mfind ks k es with
    | some o => some (vfound ok z o)
    | none => none
  else none

def vlookup (P : Program) (t : TypeId) (m k : D) (ok : Bool) (h : Heap) : Option D :=
  match mapT P t with
  | none => none
  | some (kt, e) =>
    match keyT P kt with
    | none => none
    | some (ag, ks) =>
      match zeroT P e with
      | none => none
      | some z =>
        match mapEs m h with
        | none => none
        | some es => vlookupIn ag ks z k ok es

def vmapUpdate (P : Program) (t : TypeId) (m k v : D) (h : Heap) : Option Heap :=
  match mapT P t with
  | none => none
  | some (kt, _) =>
    match keyT P kt with
    | some (ag, ks) =>
      match m with
      | .map id => match h.at' id with
        | some (.map es) => if keyShape ag k && (eqK ks k.cells k.cells).isSome && es.all (fun x => keyShape ag x.1) && (mfind ks k es).isSome then (match mput ks k v es with
          | some es' => some (h.set id (.map es'))
          | none => none) else none
        | _ => none
      | _ => none
    | none => none

def vextract (x : D) (i : Nat) : Option D :=
  match x with
  | .tuple vs => vs[i]?
  | _ => none

/-- The bytes of cells. -/
def bytesOf : List D → Option (List UInt8)
  | [] => some []
  | d :: ds => match d with
    | .int k n => match k with
      | .u8 => match bytesOf ds with
        | some s => some (UInt8.ofNat n.toNat :: s)
        | none => none
      | _ => none
    | _ => none

def vconvert (P : Program) (src dst : TypeId) (x : D) : Option D :=
  match x with
  | .int _ n => match P.underlying src with
    | some (.int _) => match P.underlying dst with
      | some (.int k) => some (.int k (k.wrap n))
      | _ => none
    | _ => none
  | .str s => match P.underlying src with
    | some .string => match P.underlying dst with
      | some .string => some (.str s)
      | some (.slice e) => match P.underlying e with
        | some (.int .u8) => some (.sl 1 (s.map fun b => [.int .u8 b.toNat]) .no)
        | _ => none
      | _ => none
    | _ => none
  | .sl sz xs _ => match P.underlying src with
    | some (.slice e) => match P.underlying e with
      | some (.int .u8) => match P.underlying dst with
        | some .string => if sz = 1 then (match bytesOf xs.flatten with
          | some s => some (.str s)
          | none => none) else none
        | _ => none
      | _ => none
    | _ => none
  | _ => none

/-- A pointer to a variable whose type is known, as an unsafe pointer and back. -/
def vconvP (P : Program) (s d : TypeId) (id : Nat) (h : Heap) : Option D :=
  match h.at' id with
  | some (.trow u full cs) => match full with
    | true => match P.underlying s with
      | some (.pointer t) => match P.underlying d with
        | some .unsafePointer => match P.info? t with
          | some j => if decide (j.size ≠ 0) && decide (0 < cs.length) then some (.ptr id 0) else none
          | none => none
        | _ => none
      | some .unsafePointer => match P.underlying d with
        | some (.pointer t) => match P.info? t with
          | some _ => if liesAt P P.depth u (cs.length / P.cellsOf u) 0 t 1 then some (.ptr id 0) else none
          | none => none
        | _ => none
      | _ => none
    | false => none
  | _ => none

def vconvO (P : Program) (s d : TypeId) (x : D) (h : Heap) : Option D :=
  match x with
  | .ptr id off => match off with
    | 0 => vconvP P s d id h
    | _ => none
  | y => vconvert P s d y

def ptrT (P : Program) (t : TypeId) : Bool :=
  match P.underlying t with
  | some (.pointer _) => true
  | some .unsafePointer => true
  | _ => false

def vnilCheck (x : D) : Option D :=
  match x with
  | .ptr id off => some (.ptr id off)
  | .iptr cs off => some (.iptr cs off)
  | .fn (.func f) a c => some (.fn (.func f) a c)
  | .yld i => some (.yld i)
  | _ => none

def vmin : D → D → Option D
  | .int k a, .int k' b => if k = k' then some (.int k (if b < a then b else a)) else none
  | _, _ => none

/-- What a new variable is: of a struct of a pointer and a slice (strings.Builder) its type is kept. -/
def objOf (t : TypeId) (cs : List D) : Obj :=
  match cs with
  | [] => .row []
  | d :: ds => match d with
    | .nilptr => match ds with
      | [] => .row (d :: ds)
      | e :: es => match e with
        | .nilsl => match es with
          | [] => .trow t true (d :: ds)
          | _ => .row (d :: ds)
        | _ => .row (d :: ds)
    | _ => .row (d :: ds)

def vmax : D → D → Option D
  | .int k a, .int k' b => if k = k' then some (.int k (if b > a then b else a)) else none
  | _, _ => none

def vmaxs : D → List D → Option D
  | x, [] => some x
  | x, y :: rest => match vmax x y with
    | some z => vmaxs z rest
    | none => none

/-- A type that is no integer (what is appended is a slice or a string). -/
def spreadT (P : Program) (t : TypeId) : Bool :=
  match P.underlying t with
  | some (.int _) => false
  | some _ => true
  | none => false

/-- Zeros in a slice. -/
def vclear (P : Program) (t : TypeId) (x : D) (h : Heap) : Option Heap :=
  match x with
  | .nilsl => match P.underlying t with
    | some (.slice _) => some h
    | _ => none
  | .sl _ xs _ => match P.underlying t with
    | some (.slice _) => if xs.length = 0 then some h else none
    | _ => none
  | .rs id sz off n => match elemT P t with
    | none => none
    | some e => match zeroT P e with
      | none => none
      | some z => if n = 0 then some h else if z.notTuple && decide (z.cells.length = sz) then
          match h.at' id with
          | some (.row cs) => if off + n * sz ≤ cs.length then some (h.set id (.row (putAt cs (repl n z.cells) off))) else none
          | _ => none
        else none
  | .map id => match P.underlying t with
    | some (.map _ _) => match h.at' id with
      | some (.map _) => some (h.set id (.map []))
      | _ => none
    | _ => none
  | _ => none

def vunsafeB (P : Program) (e : TypeId) (id : Nat) (n : Int) (h : Heap) : VR :=
  match h.at' id with
  | some (.trow e2 _ cs) =>
    if decide (e2 = e) && decide (szT P e = 1) && decide (0 < n) && decide (n.toNat ≤ cs.length) && decide (n.toNat ≤ lim) then
      match bytesOf (cs.take n.toNat) with
      | some s => some (.str s, h.del id)
      | none => none
    else none
  | _ => none

/-- The string of the bytes of a row, which is not used any more. -/
def vunsafeStr (P : Program) (t : TypeId) (x y : D) (h : Heap) : VR :=
  match P.underlying t with
  | some (.pointer e) => match P.underlying e with
    | some (.int .u8) => match x with
      | .ptr id off => match off with
        | 0 => match y with
          | .int .i64 n => vunsafeB P e id n h
          | _ => none
        | _ => none
      | _ => none
    | _ => none
  | _ => none

def vbuiltin (P : Program) (mu : Bool) (nid : Nat) (b : Builtin) (ats : List TypeId) (args : List D) (h : Heap) : VR :=
  match b with
  | .len => match ats with
    | [t] => match args with
      | [x] => (vlen P t x h).map (·, h)
      | _ => none
    | _ => none
  | .append => match ats with
    | [t, u] => match args with
      | [s, x] => if spreadT P u then vappendT P mu nid t s x h else vappendZ P mu nid t u s x h
      | _ => none
    | _ => none
  | .min => match args with
    | [x, y] => (vmin x y).map (·, h)
    | _ => none
  | .max => match args with
    | x :: y :: rest => (vmaxs x (y :: rest)).map (·, h)
    | _ => none
  | .cap => match ats with
    | [t] => match args with
      | [x] => match x with
        | .nilsl => match P.underlying t with
          | some (.slice _) => some (.int .i64 0, h)
          | _ => none
        | _ => none
      | _ => none
    | _ => none
  | .unsafeSliceData => match ats with
    | [_] => match args with
      | [x] => match x with
        | .rs id _ off n => match n, off with
          | 0, _ => none
          | _, 0 => some (.ptr id 0, h)
          | _, _ => none
        | _ => none
      | _ => none
    | _ => none
  | .unsafeString => match ats with
    | [t, _] => match args with
      | [x, y] => vunsafeStr P t x y h
      | _ => none
    | _ => none
  | .clear => match ats with
    | [t] => match args with
      | [x] => (vclear P t x h).map (undefD, ·)
      | _ => none
    | _ => none
  | _ => none

/-- A type that is no interface. -/
def concT (P : Program) (t : TypeId) : Bool :=
  match P.underlying t with
  | some (.interface _) => false
  | some _ => true
  | none => false

def vfield (P : Program) (t : TypeId) (x : D) (f : Nat) : Option D :=
  match fieldT P t f with
  | some (off, ft) => match x with
    | .agg cs => match agT P ft with
      | some ag => vpart ag (szT P ft) cs off
      | none => none
    | _ => none
  | none => none

def runeAt (s : List UInt8) (pos : Nat) : Nat × Nat := Utf8.decode ⟨s.toArray⟩ pos

/-- The next rune of a string. -/
def vnext (x : D) (isS : Bool) (h : Heap) : VR :=
  match x with
  | .ptr id off => match h.at' id with
    | some (.siter s pos) =>
      if isS && decide (off = 0) then
        if pos < s.length then
          (if decide (s.length ≤ lim) && IntKind.i32.wrap (runeAt s pos).1 == ((runeAt s pos).1 : Int) then some (.tuple [.bool true, .int .i64 pos, .int .i32 (runeAt s pos).1], h.set id (.siter s (pos + (runeAt s pos).2))) else none)
        else some (.tuple [.bool false], h)
      else none
    | _ => none
  | _ => none

def vrange (P : Program) (nid : Nat) (t : TypeId) (x : D) (h : Heap) : VR :=
  match x with
  | .str s => match P.underlying t with
    | some .string => some (.ptr nid 0, h.new nid (.siter s 0))
    | _ => none
  | _ => none

def vop (P : Program) (mu : Bool) (nid : Nat) (o : Op) (ev : Operand → D) (h : Heap) : VR :=
  match o with
  | .move x => some (ev x, h)
  | .assign x => some (ev x, h)
  | .pick c a b => match ev c with
    | .bool true => some (ev a, h)
    | .bool false => some (ev b, h)
    | _ => none
  | .alloc t => match zeroT P t with
    | some z => if z.notTuple then some (.ptr nid 0, h.new nid (objOf t z.cells)) else none
    | none => none
  | .box _ x => if (ev x).notTuple then (if mu then some (.ptr nid 0, h.new nid (.row (ev x).cells)) else some (.iptr (ev x).cells 0, h)) else none
  | .build t parts => (vbuild P t (parts.toList.map fun p => (p.1, ev p.2))).map (·, h)
  | .buildSlice t n parts => vbuildSlice P mu nid t n (parts.toList.map fun p => (p.1, ev p.2)) h
  | .load t a => (vload P t (ev a) h).map (·, h)
  | .store t a x => (vstore P t (ev a) (ev x) h).map (undefD, ·)
  | .nilCheck x => (vnilCheck (ev x)).map (·, h)
  | .binOp op t x y _ => (vbin P op t (isC x || isC y) (ev x) (ev y)).map (·, h)
  | .unOp op _ x => (vun op (ev x)).map (·, h)
  | .convert s d x => (vconvO P s d (ev x) h).map (·, h)
  | .makeFunc g a c => match g with
    | .func f => some (.fn (.func f) (a.toList.map ev) (c.toList.map ev), h)
    | _ => none
  | .makeMap _ r => match r with
    | none => some (.map nid, h.new nid (.map []))
    | some _ => none
  | .makeSlice t l c => vmakeSlice P mu nid t (ev l) (ev c) h
  | .slice t x lo hi mx => (vsliceA P t (ev x) (lo.map ev) (hi.map ev) (mx.map ev) h).map (·, h)
  | .fieldAddr s x f => (vfieldAddr P s (ev x) f).map (·, h)
  | .field s x f => (vfield P s (ev x) f).map (·, h)
  | .indexAddr t x i => (vindexAddr P t (ev x) (ev i)).map (·, h)
  | .index t x i => (vindex P t (ev x) (ev i)).map (·, h)
  | .lookup t m k ok => (vlookup P t (ev m) (ev k) ok h).map (·, h)
  | .mapUpdate t m k v => (vmapUpdate P t (ev m) (ev k) (ev v) h).map (undefD, ·)
  | .insert t m k v => (vmapUpdate P t (ev m) (ev k) (ev v) h).map (undefD, ·)
  | .extract x i => (vextract (ev x) i).map (·, h)
  | .range t x => vrange P nid t (ev x) h
  | .next x isS => vnext (ev x) isS h
  | .makeInterface t x => if concT P t then some (.iface t (ev x), h) else none
  | .call c => match c.callee with
    | .builtin b => vbuiltin P mu nid b c.argTypes.toList (c.args.toList.map ev) h
    | _ => none
  | _ => none

end Go.V
namespace Go.V
open Go.RowKit (Below)

structure Loc where
  blk : Nat
  endd : Nat
  size : Nat

abbrev Imm := Nat → Nat → Option Value
abbrev Ren := Nat → Option Loc

def fits (k : IntKind) (n : Int) : Prop := k.wrap n = n

/-- A slice lies there; one without any room may lie elsewhere. -/
def slAt (v : Value) (b p n cap : Nat) : Prop := ∃ sp, v = .slice (some ⟨b, p, sp⟩) n cap ∧ (sp = none ∨ cap = 0)

theorem slAt.mk (b p n cap : Nat) : slAt (.slice (some ⟨b, p, none⟩) n cap) b p n cap := ⟨none, rfl, .inl rfl⟩

/-! What an abstract value says of a value: M: the memory that never changes; ρ: where the abstract blocks lie. -/
mutual
def rel (M : Imm) (ρ : Ren) : D → Value → Prop
  | .bool b, v => v = .bool b
  | .int k n, v => v = .int k n ∧ fits k n
  | .str s, v => ∃ b : ByteArray, v = .string b ∧ b.data.toList = s ∧ s.length ≤ lim
  | .nilptr, v => v = .pointer none
  | .ptr id off, v => ∃ l, ρ id = some l ∧ v = .pointer (some ⟨l.blk, off, none⟩)
  | .iptr cs off, v => ∃ b p, v = .pointer (some ⟨b, p + off, none⟩) ∧ relC M ρ cs b p
  | .nilsl, v => v = .slice none 0 0
  | .sl sz xs tk, v => 0 < sz ∧ xs.length ≤ lim ∧ ∃ b p cap, slAt v b p xs.length cap ∧ xs.length ≤ cap ∧ relE M ρ sz xs b p ∧
      (match tk with
       | .no => True
       | .full => cap = xs.length
       | .own t => ∃ l, ρ t = some l ∧ l.blk = b ∧ l.endd = p + xs.length * sz ∧ p + cap * sz ≤ l.size ∧ 0 < cap)
  | .rs id sz off len, v => 0 < sz ∧ len ≤ lim ∧ ∃ l cap o, ρ id = some l ∧ v = .slice (some ⟨l.blk, o, none⟩) len cap ∧ (len ≤ cap ∧ cap ≤ maxLen) ∧ off + cap * sz ≤ l.size ∧ (cap = 0 ∨ o = off)
  | .nilmap, v => v = .map none
  | .map id, v => ∃ l, ρ id = some l ∧ v = .map (some l.blk)
  | .fn f a c, v => (∃ g, f = .func g) ∧ ∃ va vc, v = .func f va vc ∧ relL M ρ a va.toList ∧ relL M ρ c vc.toList
  | .yld id, v => ∃ l, ρ id = some l ∧ v = .func (.yield l.blk) #[] #[]
  | .nilfn, v => v = .nilFunc
  | .agg cs, v => ∃ vs, v = .agg vs ∧ relL M ρ cs vs.toList ∧ cs.all D.flat = true
  | .tuple cs, v => ∃ vs, v = .tuple vs ∧ relL M ρ cs vs.toList
  | .iface t d, v => ∃ u, v = .iface t u ∧ rel M ρ d u
  | .niliface, v => v = .nilIface
def relL (M : Imm) (ρ : Ren) : List D → List Value → Prop
  | [], vs => vs = []
  | d :: ds, vs => ∃ v vs', vs = v :: vs' ∧ rel M ρ d v ∧ relL M ρ ds vs'
def relC (M : Imm) (ρ : Ren) : List D → Nat → Nat → Prop
  | [], _, _ => True
  | d :: ds, b, p => (d.flat = true ∧ ∃ v, M b p = some v ∧ rel M ρ d v) ∧ relC M ρ ds b (p + 1)
def relE (M : Imm) (ρ : Ren) (sz : Nat) : List (List D) → Nat → Nat → Prop
  | [], _, _ => True
  | x :: xs, b, p => x.length = sz ∧ relC M ρ x b p ∧ relE M ρ sz xs b (p + sz)
end

def MLe (M M' : Imm) : Prop := ∀ b o v, M b o = some v → M' b o = some v
def RLe (ρ ρ' : Ren) : Prop := ∀ i l, ρ i = some l → ρ' i = some l

theorem MLe.refl (M : Imm) : MLe M M := fun _ _ _ h => h
theorem RLe.refl (ρ : Ren) : RLe ρ ρ := fun _ _ h => h
theorem MLe.trans {M M' M'' : Imm} (h : MLe M M') (h' : MLe M' M'') : MLe M M'' := fun b o v e => h' b o v (h b o v e)
theorem RLe.trans {M M' M'' : Ren} (h : RLe M M') (h' : RLe M' M'') : RLe M M'' := fun i l e => h' i l (h i l e)

section mono
variable {M M' : Imm} {ρ ρ' : Ren} (hM : MLe M M') (hr : RLe ρ ρ')
mutual
theorem rel_mono (hM : MLe M M') (hr : RLe ρ ρ') : ∀ (d : D) (v : Value), rel M ρ d v → rel M' ρ' d v
  | .bool _, _, h => by simpa [rel] using h
  | .int _ _, _, h => by simpa [rel] using h
  | .str _, _, h => by simpa [rel] using h
  | .nilptr, _, h => by simpa [rel] using h
  | .ptr _ _, _, h => by
    simp only [rel] at h ⊢
    obtain ⟨l, h1, h2⟩ := h
    exact ⟨l, hr _ _ h1, h2⟩
  | .iptr cs off, _, h => by
    simp only [rel] at h ⊢
    obtain ⟨b, p, h1, h2⟩ := h
    exact ⟨b, p, h1, relC_mono hM hr cs b p h2⟩
  | .nilsl, _, h => by simpa [rel] using h
  | .sl sz xs tk, _, h => by
    simp only [rel] at h ⊢
    obtain ⟨h0, hl, b, p, cap, h1, h2, h3, h4⟩ := h
    refine ⟨h0, hl, b, p, cap, h1, h2, relE_mono hM hr sz xs b p h3, ?_⟩
    cases tk with
    | no => trivial
    | full => exact h4
    | own t =>
      obtain ⟨l, g1, g2⟩ := h4
      exact ⟨l, hr _ _ g1, g2⟩
  | .rs _ _ _ _, _, h => by
    simp only [rel] at h ⊢
    obtain ⟨h0, hl, l, cap, o, h1, h2⟩ := h
    exact ⟨h0, hl, l, cap, o, hr _ _ h1, h2⟩
  | .nilmap, _, h => by simpa [rel] using h
  | .map _, _, h => by
    simp only [rel] at h ⊢
    obtain ⟨l, h1, h2⟩ := h
    exact ⟨l, hr _ _ h1, h2⟩
  | .fn f a c, _, h => by
    simp only [rel] at h ⊢
    obtain ⟨h0, va, vc, h1, h2, h3⟩ := h
    exact ⟨h0, va, vc, h1, relL_mono hM hr a _ h2, relL_mono hM hr c _ h3⟩
  | .yld _, _, h => by
    simp only [rel] at h ⊢
    obtain ⟨l, h1, h2⟩ := h
    exact ⟨l, hr _ _ h1, h2⟩
  | .nilfn, _, h => by simpa [rel] using h
  | .agg cs, _, h => by
    simp only [rel] at h ⊢
    obtain ⟨vs, h1, h2, h3⟩ := h
    exact ⟨vs, h1, relL_mono hM hr cs _ h2, h3⟩
  | .tuple cs, _, h => by
    simp only [rel] at h ⊢
    obtain ⟨vs, h1, h2⟩ := h
    exact ⟨vs, h1, relL_mono hM hr cs _ h2⟩
  | .iface t d, _, h => by
    simp only [rel] at h ⊢
    obtain ⟨u, h1, h2⟩ := h
    exact ⟨u, h1, rel_mono hM hr d u h2⟩
  | .niliface, _, h => by simpa [rel] using h
theorem relL_mono (hM : MLe M M') (hr : RLe ρ ρ') : ∀ (ds : List D) (vs : List Value), relL M ρ ds vs → relL M' ρ' ds vs
  | [], _, h => by simpa [relL] using h
  | d :: ds, _, h => by
    simp only [relL] at h ⊢
    obtain ⟨v, vs', h1, h2, h3⟩ := h
    exact ⟨v, vs', h1, rel_mono hM hr d v h2, relL_mono hM hr ds vs' h3⟩
theorem relC_mono (hM : MLe M M') (hr : RLe ρ ρ') : ∀ (ds : List D) (b p : Nat), relC M ρ ds b p → relC M' ρ' ds b p
  | [], _, _, _ => by simp [relC]
  | d :: ds, b, p, h => by
    simp only [relC] at h ⊢
    obtain ⟨⟨h0, v, h1, h2⟩, h3⟩ := h
    exact ⟨⟨h0, v, hM _ _ _ h1, rel_mono hM hr d v h2⟩, relC_mono hM hr ds b (p + 1) h3⟩
theorem relE_mono (hM : MLe M M') (hr : RLe ρ ρ') : ∀ (sz : Nat) (xs : List (List D)) (b p : Nat), relE M ρ sz xs b p → relE M' ρ' sz xs b p
  | _, [], _, _, _ => by simp [relE]
  | sz, x :: xs, b, p, h => by
    simp only [relE] at h ⊢
    exact ⟨h.1, relC_mono hM hr x b p h.2.1, relE_mono hM hr sz xs b (p + sz) h.2.2⟩
end
end mono

/-! Lists of relations, by index. -/
theorem relL_length {M : Imm} {ρ : Ren} : ∀ {ds : List D} {vs : List Value}, relL M ρ ds vs → vs.length = ds.length
  | [], _, h => by simp only [relL] at h; simp [h]
  | d :: ds, vs, h => by
    simp only [relL] at h
    obtain ⟨v, vs', rfl, _, h3⟩ := h
    simp [relL_length h3]

theorem relL_get {M : Imm} {ρ : Ren} : ∀ {ds : List D} {vs : List Value}, relL M ρ ds vs → ∀ (i : Nat) (d : D), ds[i]? = some d → ∃ v, vs[i]? = some v ∧ rel M ρ d v
  | [], _, _, i, d, hi => by simp at hi
  | e :: ds, vs, h, i, d, hi => by
    simp only [relL] at h
    obtain ⟨v, vs', rfl, h2, h3⟩ := h
    cases i with
    | zero => simp at hi; subst hi; exact ⟨v, by simp, h2⟩
    | succ i => simp at hi; simpa using relL_get h3 i d hi

theorem relL_of_get {M : Imm} {ρ : Ren} : ∀ {ds : List D} {vs : List Value}, vs.length = ds.length → (∀ (i : Nat) (d : D) (v : Value), ds[i]? = some d → vs[i]? = some v → rel M ρ d v) → relL M ρ ds vs
  | [], vs, hl, _ => by simp only [relL]; simpa using hl
  | d :: ds, [], hl, _ => by simp at hl
  | d :: ds, v :: vs, hl, h => by
    simp only [relL]
    exact ⟨v, vs, rfl, h 0 d v (by simp) (by simp), relL_of_get (by simpa using hl) fun i e u he hu => h (i + 1) e u (by simpa using he) (by simpa using hu)⟩

theorem relC_get {M : Imm} {ρ : Ren} : ∀ {ds : List D} {b p : Nat}, relC M ρ ds b p → ∀ (i : Nat) (d : D), ds[i]? = some d → d.flat = true ∧ ∃ v, M b (p + i) = some v ∧ rel M ρ d v
  | [], _, _, _, i, d, hi => by simp at hi
  | e :: ds, b, p, h, i, d, hi => by
    simp only [relC] at h
    obtain ⟨⟨h0, v, h1, h2⟩, h3⟩ := h
    cases i with
    | zero => simp at hi; subst hi; exact ⟨h0, v, h1, h2⟩
    | succ i =>
      simp at hi
      obtain ⟨hf, u, hu, hr⟩ := relC_get h3 i d hi
      exact ⟨hf, u, by rw [← hu]; congr 1; omega, hr⟩

theorem relC_of_get {M : Imm} {ρ : Ren} : ∀ {ds : List D} {b p : Nat}, (∀ (i : Nat) (d : D), ds[i]? = some d → d.flat = true ∧ ∃ v, M b (p + i) = some v ∧ rel M ρ d v) → relC M ρ ds b p
  | [], _, _, _ => by simp [relC]
  | d :: ds, b, p, h => by
    simp only [relC]
    refine ⟨by simpa using h 0 d (by simp), relC_of_get fun i e he => ?_⟩
    obtain ⟨h0, v, h1, h2⟩ := h (i + 1) e (by simpa using he)
    exact ⟨h0, v, by rw [← h1]; congr 1; omega, h2⟩

theorem relE_get {M : Imm} {ρ : Ren} {sz : Nat} : ∀ {xs : List (List D)} {b p : Nat}, relE M ρ sz xs b p → ∀ (i : Nat) (x : List D), xs[i]? = some x → x.length = sz ∧ relC M ρ x b (p + i * sz)
  | [], _, _, _, i, x, hi => by simp at hi
  | y :: xs, b, p, h, i, x, hi => by
    simp only [relE] at h
    cases i with
    | zero => simp at hi; subst hi; simpa using ⟨h.1, h.2.1⟩
    | succ i =>
      simp at hi
      have := relE_get h.2.2 i x hi
      rw [Nat.add_mul, Nat.one_mul, show p + (i * sz + sz) = p + sz + i * sz by omega]
      exact this

theorem relE_of_get {M : Imm} {ρ : Ren} {sz : Nat} : ∀ {xs : List (List D)} {b p : Nat}, (∀ (i : Nat) (x : List D), xs[i]? = some x → x.length = sz ∧ relC M ρ x b (p + i * sz)) → relE M ρ sz xs b p
  | [], _, _, _ => by simp [relE]
  | x :: xs, b, p, h => by
    simp only [relE]
    have h0 := h 0 x (by simp)
    refine ⟨h0.1, by simpa using h0.2, relE_of_get fun i y hy => ?_⟩
    have := h (i + 1) y (by simpa using hy)
    rw [Nat.add_mul, Nat.one_mul, show p + (i * sz + sz) = p + sz + i * sz by omega] at this
    exact this

/-! Abstract blocks in the world. -/
def relKV (M : Imm) (ρ : Ren) : List (D × D) → List MapEntry → Prop
  | [], es => es = []
  | (k, d) :: ds, es => ∃ e es', es = e :: es' ∧ rel M ρ k e.key ∧ rel M ρ d e.val ∧ relKV M ρ ds es'

def relF (M : Imm) (ρ : Ren) (fr : Frm) (tmps : Array Value) : Prop := ∀ i, rel M ρ (fr i) (tmps.getD i undef)

def objRel (M : Imm) (ρ : Ren) (w : World) (l : Loc) : Obj → Prop
  | .row cs => (∀ o, M l.blk o = none) ∧ ∃ c e, w.heap[l.blk]? = some (.cells c e (0, 0)) ∧ l.size = c.size ∧ cs.length ≤ c.size ∧ ∀ (i : Nat) (d : D), cs[i]? = some d → d.flat = true ∧ ∃ v, c[i]? = some v ∧ rel M ρ d v
  | .tok => (∀ o, l.endd ≤ o → M l.blk o = none) ∧ l.endd ≤ l.size ∧ ∃ c e, w.heap[l.blk]? = some (.cells c e (0, 0)) ∧ l.size = c.size
  | .map es => ∃ en clock, w.heap[l.blk]? = some (.map en clock) ∧ relKV M ρ es en.toList
  | .loop r => ∃ L : Go.Loop, w.heap[l.blk]? = some (.loop L) ∧ L.state = r.st ∧ L.pending = r.pending ∧ L.params = r.params ∧ L.assign = r.assign ∧ L.body = r.body ∧ L.tmps.size = r.n ∧ relF M ρ r.fr L.tmps
  | .siter s pos => ∃ b : ByteArray, w.heap[l.blk]? = some (.stringIter b pos) ∧ b.data.toList = s
  | .trow t full cs => (∀ o, M l.blk o = none) ∧ ∃ c e, w.heap[l.blk]? = some (.cells c e (0, 0)) ∧ l.size = c.size ∧ cs.length ≤ c.size ∧ (∀ (i : Nat) (d : D), cs[i]? = some d → d.flat = true ∧ ∃ v, c[i]? = some v ∧ rel M ρ d v) ∧ e = t ∧ (full = true → c.size = cs.length)

/-- The world at the start of a call, and what of it never changes. -/
structure Base extends World where
  O : Imm
  keep : Nat → Prop
  kept : ∀ b, keep b → b < heap.size

/-- What a call leaves as it was. -/
structure Kept (w0 : Base) (w : World) : Prop where
  os : w.os = w0.os
  tape : w.tape = w0.tape
  output : w.output = w0.output
  size : w0.heap.size ≤ w.heap.size
  block : ∀ b, w0.keep b → w.heap[b]? = w0.heap[b]?

structure Sim (w0 : Base) (G : List Nat) (M : Imm) (ρ : Ren) (h : Heap) (w : World) : Prop where
  below : Kept w0 w
  imm : ∀ b o v, M b o = some v → w.cell? ⟨b, o, none⟩ = some v
  live : ∀ i ob, h.at' i = some ob → ∃ l, ρ i = some l ∧ ¬ w0.keep l.blk ∧ objRel M ρ w l ob
  apart : ∀ i j oi oj li lj, h.at' i = some oi → h.at' j = some oj → ρ i = some li → ρ j = some lj → li.blk = lj.blk → i = j
  gdef : ∀ b, b ∈ G → ¬ w0.keep b ∧ w.heap[b]? = some (.deferred (some []))
  old : ∀ b o v, w0.keep b → M b o = some v → w0.O b o = some v


theorem objRel_congr {M : Imm} {ρ : Ren} {w w' : World} {l : Loc} (hb : w'.heap[l.blk]? = w.heap[l.blk]?) : ∀ {ob : Obj}, objRel M ρ w l ob → objRel M ρ w' l ob
  | .row _, h => by simpa only [objRel, hb] using h
  | .tok, h => by simpa only [objRel, hb] using h
  | .map _, h => by simpa only [objRel, hb] using h
  | .loop _, h => by simpa only [objRel, hb] using h
  | .siter _ _, h => by simpa only [objRel, hb] using h
  | .trow _ _ _, h => by simpa only [objRel, hb] using h

theorem objRel_lt {M : Imm} {ρ : Ren} {w : World} {l : Loc} : ∀ {ob : Obj}, objRel M ρ w l ob → l.blk < w.heap.size
  | .row _, h => by obtain ⟨_, c, e, h, _⟩ := h; exact (Array.getElem?_eq_some_iff.1 h).1
  | .tok, h => by obtain ⟨_, _, c, e, h, _⟩ := h; exact (Array.getElem?_eq_some_iff.1 h).1
  | .map _, h => by obtain ⟨c, e, h, _⟩ := h; exact (Array.getElem?_eq_some_iff.1 h).1
  | .loop _, h => by obtain ⟨c, h, _⟩ := h; exact (Array.getElem?_eq_some_iff.1 h).1
  | .siter _ _, h => by obtain ⟨c, h, _⟩ := h; exact (Array.getElem?_eq_some_iff.1 h).1
  | .trow _ _ _, h => by obtain ⟨_, c, e, h, _⟩ := h; exact (Array.getElem?_eq_some_iff.1 h).1

theorem relKV_mono {M M' : Imm} {ρ ρ' : Ren} (hM : MLe M M') (hr : RLe ρ ρ') : ∀ (ds : List (D × D)) (es : List MapEntry), relKV M ρ ds es → relKV M' ρ' ds es
  | [], _, h => by simpa [relKV] using h
  | (k, d) :: ds, _, h => by
    simp only [relKV] at h ⊢
    obtain ⟨e, es', h1, h2, h3, h4⟩ := h
    exact ⟨e, es', h1, rel_mono hM hr _ _ h2, rel_mono hM hr _ _ h3, relKV_mono hM hr ds es' h4⟩

/-- More memory that never changes and more names: an abstract block stands for what it stood for, if the new memory lies elsewhere. -/
theorem objRel_mono {M M' : Imm} {ρ ρ' : Ren} {w : World} {l : Loc} (hM : MLe M M') (hr : RLe ρ ρ') (hn : ∀ o, M l.blk o = none → M' l.blk o = none) : ∀ {ob : Obj}, objRel M ρ w l ob → objRel M' ρ' w l ob
  | .row _, h => by
    obtain ⟨h0, c, e, h1, h2, h3, h4⟩ := h
    refine ⟨fun o => hn o (h0 o), c, e, h1, h2, h3, fun i d hi => ?_⟩
    obtain ⟨h5, v, a, b⟩ := h4 i d hi
    exact ⟨h5, v, a, rel_mono hM hr _ _ b⟩
  | .tok, h => ⟨fun o ho => hn o (h.1 o ho), h.2⟩
  | .map _, h => by
    obtain ⟨en, cl, h1, h2⟩ := h
    exact ⟨en, cl, h1, relKV_mono hM hr _ _ h2⟩
  | .loop _, h => by
    obtain ⟨L, h1, h2, h3, h4, h5, h6, h7, h9⟩ := h
    exact ⟨L, h1, h2, h3, h4, h5, h6, h7, fun i => rel_mono hM hr _ _ (h9 i)⟩
  | .siter _ _, h => h
  | .trow _ _ _, h => by
    obtain ⟨h0, c, e, h1, h2, h3, h4, g⟩ := h
    refine ⟨fun o => hn o (h0 o), c, e, h1, h2, h3, fun i d hi => ?_, g⟩
    obtain ⟨h5, v, a, b⟩ := h4 i d hi
    exact ⟨h5, v, a, rel_mono hM hr _ _ b⟩

theorem trow_row {M : Imm} {ρ : Ren} {w : World} {l : Loc} {t : TypeId} {full : Bool} {cs : List D} (h : objRel M ρ w l (.trow t full cs)) : objRel M ρ w l (.row cs) := by
  obtain ⟨h0, c, e, h1, h2, h3, h4, _⟩ := h
  exact ⟨h0, c, e, h1, h2, h3, h4⟩

def addM (M : Imm) (b p : Nat) (vs : List Value) : Imm := fun b' o => if b' = b ∧ p ≤ o ∧ o < p + vs.length then vs[o - p]? else M b' o
def updR (ρ : Ren) (i : Nat) (l : Loc) : Ren := fun j => if j = i then some l else ρ j

theorem updR_le {ρ : Ren} {i : Nat} {l : Loc} (h : ρ i = none) : RLe ρ (updR ρ i l) := fun j m e => by
  unfold updR
  by_cases hj : j = i
  · subst hj; rw [h] at e; cases e
  · simpa [hj] using e

theorem addM_le {M : Imm} {b p : Nat} {vs : List Value} (h : ∀ o, p ≤ o → M b o = none) : MLe M (addM M b p vs) := fun b' o v e => by
  unfold addM
  split
  · rename_i hc; rw [hc.1, h o hc.2.1] at e; cases e
  · exact e

theorem addM_get {M : Imm} {b p : Nat} {vs : List Value} {i : Nat} {v : Value} (h : vs[i]? = some v) : addM M b p vs b (p + i) = some v := by
  have hi : i < vs.length := (List.getElem?_eq_some_iff.1 h).1
  unfold addM
  rw [if_pos ⟨rfl, by omega, by omega⟩, show p + i - p = i by omega]
  exact h

section sim
variable {w0 : Base} {G : List Nat} {M : Imm} {ρ : Ren} {h : Heap} {w : World}

theorem Sim.lt (hs : Sim w0 G M ρ h w) {b o : Nat} {v : Value} (e : M b o = some v) : b < w.heap.size := by
  have := World.block_lt_of_cell? _ _ (hs.imm b o v e)
  exact this

theorem Sim.none_at (hs : Sim w0 G M ρ h w) {b : Nat} (hb : w.heap.size ≤ b) (o : Nat) : M b o = none := by
  cases e : M b o with
  | none => rfl
  | some v => have := hs.lt e; omega

theorem Sim.nokeep (hs : Sim w0 G M ρ h w) {b : Nat} (hb : w.heap.size ≤ b) : ¬ w0.keep b := fun hk => by
  have := w0.kept b hk
  have := hs.below.size
  omega

theorem Kept.world {w' : World} (hk : Kept w0 w) (hb : Below w.heap.size w w') : Kept w0 w' :=
  ⟨hb.os.trans hk.os, hb.tape.trans hk.tape, hb.output.trans hk.output, Nat.le_trans hk.size hb.size, fun b hq => (hb.block b (Nat.lt_of_lt_of_le (w0.kept b hq) hk.size)).trans (hk.block b hq)⟩

theorem Sim.dead (hs : Sim w0 G M ρ h w) {i : Nat} (hi : ρ i = none) : h.at' i = none := by
  cases e : h.at' i with
  | none => rfl
  | some ob => obtain ⟨l, h1, _⟩ := hs.live i ob e; rw [hi] at h1; cases h1

/-- The world goes on; what was there stays. -/
theorem Sim.world (hs : Sim w0 G M ρ h w) {w' : World} (hb : Below w.heap.size w w') : Sim w0 G M ρ h w' where
  below := hs.below.world hb
  imm b o v e := by
    have hl := hs.lt e
    have := hs.imm b o v e
    rw [← this]
    exact World.cell?_of_block (w := w) (hb.block b hl)
  live i ob e := by
    obtain ⟨l, h1, h2, h3⟩ := hs.live i ob e
    exact ⟨l, h1, h2, objRel_congr (hb.block _ (objRel_lt h3)) h3⟩
  apart := hs.apart
  gdef b hb' := by
    obtain ⟨h1, h2⟩ := hs.gdef b hb'
    exact ⟨h1, by rw [hb.block b (Array.getElem?_eq_some_iff.1 h2).1]; exact h2⟩
  old := hs.old

theorem Sim.drew (hs : Sim w0 G M ρ h w) : Sim w0 G M ρ h w.drew := hs.world (Below.drew (Below.refl _ _))
theorem Sim.alloc (hs : Sim w0 G M ρ h w) (o : Go.Obj) : Sim w0 G M ρ h (w.alloc o) := hs.world ((Below.refl _ _).alloc (Nat.le_refl _) o)

theorem old_add {O : Imm} {K : Nat → Prop} {b' p : Nat} {vs : List Value} (ho : ∀ b o v, K b → M b o = some v → O b o = some v) (hb : ¬ K b') : ∀ b o v, K b → addM M b' p vs b o = some v → O b o = some v := fun b o v hk e => by
  unfold addM at e
  split at e
  · rename_i hc
    rw [hc.1] at hk
    exact absurd hk hb
  · exact ho b o v hk e

/-- A new block that will never change. -/
theorem Sim.allocImm (hs : Sim w0 G M ρ h w) (c : Array Value) (e : TypeId) (n : Nat) : Sim w0 G (addM M w.heap.size 0 (c.toList.take n)) ρ h (w.alloc (.cells c e)) := by
  have hle : MLe M (addM M w.heap.size 0 (c.toList.take n)) := addM_le fun o _ => hs.none_at (Nat.le_refl _) o
  have ha := hs.alloc (.cells c e)
  refine { below := ha.below, imm := fun b o v e' => ?_, live := fun i ob e' => ?_, apart := hs.apart, gdef := ha.gdef, old := old_add hs.old (hs.nokeep (Nat.le_refl _)) }
  · unfold addM at e'
    split at e'
    · rename_i hc
      obtain ⟨rfl, _, h2⟩ := hc
      rw [World.cell?_alloc_new]
      simp only [Nat.sub_zero, List.getElem?_take] at e'
      split at e'
      · simpa using e'
      · cases e'
    · exact ha.imm b o v e'
  · obtain ⟨l, h1, h2, h3⟩ := hs.live i ob e'
    have hl := objRel_lt h3
    refine ⟨l, h1, h2, objRel_mono hle (RLe.refl _) (fun o ho => ?_) (objRel_congr (w := w) (Below.heap_alloc _ _ _ hl) h3)⟩
    unfold addM
    rw [if_neg (by omega)]
    exact ho

/-- A new abstract block. -/
theorem Sim.allocObj (hs : Sim w0 G M ρ h w) {nid : Nat} (hn : ρ nid = none) (o : Go.Obj) (ob : Obj) (l : Loc) (hl : l.blk = w.heap.size) (ho : objRel M (updR ρ nid l) (w.alloc o) l ob) :
    Sim w0 G M (updR ρ nid l) (h.new nid ob) (w.alloc o) := by
  have ha := hs.alloc o
  have hle := updR_le (l := l) hn
  refine { below := ha.below, imm := ha.imm, live := fun i ob' e => ?_, apart := fun i j oi oj li lj ei ej ri rj hij => ?_, gdef := ha.gdef, old := hs.old }
  · simp only [Heap.new] at e
    split at e
    · rename_i hi; subst hi; cases e
      exact ⟨l, by simp [updR], by rw [hl]; exact hs.nokeep (Nat.le_refl _), ho⟩
    · rename_i hi
      obtain ⟨l', h1, h2, h3⟩ := ha.live i ob' e
      exact ⟨l', hle _ _ h1, h2, objRel_mono (MLe.refl _) hle (fun _ h => h) h3⟩
  · simp only [Heap.new] at ei ej
    have key : ∀ k ok lk, h.at' k = some ok → updR ρ nid l k = some lk → k ≠ nid → lk.blk < w.heap.size ∧ ρ k = some lk := by
      intro k ok lk ek rk hk
      obtain ⟨l', h1, _, h3⟩ := hs.live k ok ek
      simp only [updR, hk, if_false] at rk
      rw [h1] at rk; cases rk
      exact ⟨objRel_lt h3, h1⟩
    by_cases hi : i = nid <;> by_cases hj : j = nid
    · rw [hi, hj]
    · exfalso
      simp only [hj, if_false] at ej
      have := (key j oj lj ej rj hj).1
      simp only [updR, hi, if_true] at ri; cases ri; omega
    · exfalso
      simp only [hi, if_false] at ei
      have := (key i oi li ei ri hi).1
      simp only [updR, hj, if_true] at rj; cases rj; omega
    · simp only [hi, if_false] at ei
      simp only [hj, if_false] at ej
      exact hs.apart i j oi oj li lj ei ej (key i oi li ei ri hi).2 (key j oj lj ej rj hj).2 hij

theorem Sim.del (hs : Sim w0 G M ρ h w) (i : Nat) : Sim w0 G M ρ (h.del i) w where
  below := hs.below
  imm := hs.imm
  live j ob e := by
    simp only [Heap.del] at e
    split at e
    · cases e
    · exact hs.live j ob e
  apart j k oj ok lj lk ej ek := by
    simp only [Heap.del] at ej ek
    split at ej
    · cases ej
    · split at ek
      · cases ek
      · exact hs.apart j k oj ok lj lk ej ek
  gdef := hs.gdef
  old := hs.old

/-- Fewer abstract blocks. -/
theorem Sim.less (hs : Sim w0 G M ρ h w) {h' : Heap} (hl : ∀ i ob, h'.at' i = some ob → h.at' i = some ob) : Sim w0 G M ρ h' w where
  below := hs.below
  imm := hs.imm
  live j ob e := hs.live j ob (hl j ob e)
  apart j k oj ok lj lk ej ek := hs.apart j k oj ok lj lk (hl _ _ ej) (hl _ _ ek)
  gdef := hs.gdef
  old := hs.old

/-- A change of an abstract block. -/
theorem Sim.put (hs : Sim w0 G M ρ h w) {i : Nat} {ob ob' : Obj} {l : Loc} (hi : h.at' i = some ob) (hl : ρ i = some l) {w' : World} (hos : w'.os = w.os) (htp : w'.tape = w.tape) (hout : w'.output = w.output)
    (hsz : w'.heap.size = w.heap.size) (hk : ∀ b, b ≠ l.blk → w'.heap[b]? = w.heap[b]?) (him : ∀ o v, M l.blk o = some v → w'.cell? ⟨l.blk, o, none⟩ = some v) (hng : ∃ x, w.heap[l.blk]? = some x ∧ ∀ d, x ≠ .deferred d)
    (ho : objRel M ρ w' l ob') : Sim w0 G M ρ (h.set i ob') w' := by
  obtain ⟨l', h1, h2, h3⟩ := hs.live i ob hi
  rw [hl] at h1; cases h1
  refine { below := ⟨hos.trans hs.below.os, htp.trans hs.below.tape, hout.trans hs.below.output, by rw [hsz]; exact hs.below.size, fun k hk' => by rw [hk k (fun e => h2 (e ▸ hk'))]; exact hs.below.block k hk'⟩, imm := fun b o v e => ?_, live := fun j oj e => ?_, apart := fun j k oj ok lj lk ej ek rj rk hjk => ?_, gdef := fun b hb => ?_, old := hs.old }
  · by_cases hb : b = l.blk
    · subst hb; exact him o v e
    · have := hs.imm b o v e
      rw [← this]; exact World.cell?_of_block (w := w) (hk b hb)
  · simp only [Heap.set] at e
    split at e
    · rename_i hj; subst hj; cases e; exact ⟨l, hl, h2, ho⟩
    · rename_i hj
      obtain ⟨lj, g1, g2, g3⟩ := hs.live j oj e
      refine ⟨lj, g1, g2, objRel_congr (hk _ fun hb => hj (hs.apart j i oj ob lj l e hi g1 hl hb)) g3⟩
  · have key : ∀ k ok, (h.set i ob').at' k = some ok → ∃ o', h.at' k = some o' := by
      intro k ok e
      simp only [Heap.set] at e
      split at e
      · rename_i hk; subst hk; exact ⟨ob, hi⟩
      · exact ⟨ok, e⟩
    obtain ⟨o1, e1⟩ := key j oj ej
    obtain ⟨o2, e2⟩ := key k ok ek
    exact hs.apart j k o1 o2 lj lk e1 e2 rj rk hjk
  · obtain ⟨g1, g2⟩ := hs.gdef b hb
    refine ⟨g1, ?_⟩
    obtain ⟨x, hx, hd⟩ := hng
    rw [hk b fun e => by subst e; rw [hx] at g2; cases g2; exact hd _ rfl]
    exact g2
end sim

end Go.V
namespace Go.V
open Go.RowKit (Below)

theorem add_none (b o j : Nat) : (⟨b, o, none⟩ : Addr).add j = ⟨b, o + j, none⟩ := by
  unfold Addr.add; split <;> simp_all

section ty
variable {P : Program} {w : World}
theorem info_of_underlying {t : TypeId} {d : TypeDesc} (hu : P.underlying t = some d) : ∃ i, P.info? t = some i := by
  unfold Program.underlying at hu
  cases e : P.info? t with
  | none => rw [e] at hu; cases hu
  | some i => exact ⟨i, rfl⟩
theorem run_sizeOf_ne {t : TypeId} (hz : szT P t ≠ 0) : (sizeOf t).run P w = .ok (szT P t) w := by
  cases e : P.info? t with
  | none => simp [szT, Program.cellsOf, e] at hz
  | some i => exact run_sizeOf _ e
theorem run_sizeOf_u {t : TypeId} {d : TypeDesc} (hu : P.underlying t = some d) : (sizeOf t).run P w = .ok (szT P t) w := by
  obtain ⟨i, hi⟩ := info_of_underlying hu
  exact run_sizeOf _ hi
theorem agT_some {t : TypeId} {ag : Bool} (h : agT P t = some ag) : ∃ d, P.underlying t = some d ∧ (isAgg t).run P w = .ok ag w := by
  unfold agT at h
  cases e : P.underlying t with
  | none => simp [e] at h
  | some d =>
    refine ⟨d, rfl, ?_⟩
    simp only [isAgg, Sem.run_bind, run_underlying e, Result.andThen_ok]
    rw [e] at h
    cases d <;> simp_all
theorem elemT_some {t e : TypeId} (h : elemT P t = some e) : P.underlying t = some (.slice e) := by
  unfold elemT at h; split at h <;> simp_all
theorem arrT_some {t e : TypeId} {n : Nat} (h : arrT P t = some (n, e)) : P.underlying t = some (.array n e) := by
  unfold arrT at h; split at h <;> simp_all
theorem mapT_some {t k e : TypeId} (h : mapT P t = some (k, e)) : P.underlying t = some (.map k e) := by
  unfold mapT at h; split at h <;> simp_all
theorem fieldT_some {t ft : TypeId} {f off : Nat} (h : fieldT P t f = some (off, ft)) : ∃ (fs : Array Field) (fl : Field), P.underlying t = some (.struct fs) ∧ fs[f]? = some fl ∧ fl.offset = off ∧ fl.type = ft := by
  unfold fieldT at h
  split at h
  · rename_i fs hu
    split at h
    · rename_i fl hf
      simp only [Option.some.injEq, Prod.mk.injEq] at h
      exact ⟨fs, fl, hu, hf, h.1, h.2⟩
    · cases h
  · cases h
end ty

/-! Cells that hold what a list says. -/
def Holds (M : Imm) (ρ : Ren) (w : World) (cs : List D) (b p : Nat) : Prop :=
  ∀ (i : Nat) (d : D), cs[i]? = some d → d.flat = true ∧ ∃ v, w.cell? ⟨b, p + i, none⟩ = some v ∧ rel M ρ d v

section
variable {P : Program} {w0 : Base} {G : List Nat} {M : Imm} {ρ : Ren} {h : Heap} {w : World}

theorem Sim.holds (hs : Sim w0 G M ρ h w) {cs : List D} {b p : Nat} (hc : relC M ρ cs b p) : Holds M ρ w cs b p := fun i d hi => by
  obtain ⟨h0, v, h1, h2⟩ := relC_get hc i d hi
  exact ⟨h0, v, hs.imm _ _ _ h1, h2⟩

theorem Sim.row (hs : Sim w0 G M ρ h w) {id : Nat} {cs : List D} (hi : h.at' id = some (.row cs)) {l : Loc} (hl : ρ id = some l) : Holds M ρ w cs l.blk 0 := fun i d hd => by
  obtain ⟨l', h1, _, _, c, e, h2, _, _, h3⟩ := hs.live id _ hi
  rw [hl] at h1; cases h1
  obtain ⟨h6, v, h4, h5⟩ := h3 i d hd
  exact ⟨h6, v, by simp [World.cell?, h2, h4], h5⟩

theorem Sim.trow (hs : Sim w0 G M ρ h w) {id : Nat} {u : TypeId} {full : Bool} {cs : List D} (hi : h.at' id = some (.trow u full cs)) {l : Loc} (hl : ρ id = some l) : Holds M ρ w cs l.blk 0 := fun i d hd => by
  obtain ⟨l', h1, _, _, c, e, h2, _, _, h3, _⟩ := hs.live id _ hi
  rw [hl] at h1; cases h1
  obtain ⟨h6, v, h4, h5⟩ := h3 i d hd
  exact ⟨h6, v, by simp [World.cell?, h2, h4], h5⟩

theorem Holds.loadCells {cs : List D} {b p : Nat} (hh : Holds M ρ w cs b p) {off n : Nat} (hl : off + n ≤ cs.length) :
    ∃ vs : List Value, vs.length = n ∧ (loadCells ⟨b, p + off, none⟩ n).run P w = .ok vs.toArray w ∧ relL M ρ ((cs.drop off).take n) vs ∧ ((cs.drop off).take n).all D.flat = true ∧ ∀ (j : Nat) (v : Value), vs[j]? = some v → w.cell? ⟨b, p + off + j, none⟩ = some v := by
  let f : Nat → Value := fun j => (w.cell? ⟨b, p + off + j, none⟩).getD undef
  have hf : ∀ j, j < n → w.cell? ((⟨b, p + off, none⟩ : Addr).add j) = some (f j) := fun j hj => by
    obtain ⟨_, v, h1, _⟩ := hh (off + j) cs[off + j] (List.getElem?_eq_getElem (by omega))
    rw [← Nat.add_assoc] at h1
    rw [add_none]; simp [f, h1]
  refine ⟨(List.range n).map f, by simp, run_loadCells w _ n f hf, relL_of_get (by simp; omega) fun i d v hd hv => ?_, List.all_eq_true.2 fun d hd => ?_, fun j v hv => ?_⟩
  · simp only [List.getElem?_take, List.getElem?_drop] at hd
    split at hd
    · rename_i hi
      obtain ⟨_, u, h1, h2⟩ := hh (off + i) d hd
      rw [← Nat.add_assoc] at h1
      simp [hi] at hv
      subst hv
      simpa [f, h1] using h2
    · cases hd
  · obtain ⟨i, hi⟩ := List.mem_iff_getElem?.1 hd
    simp only [List.getElem?_take, List.getElem?_drop] at hi
    split at hi
    · exact (hh _ d hi).1
    · cases hi
  · simp only [List.getElem?_map] at hv
    by_cases hj : j < n
    · simp [hj] at hv
      subst hv
      have := hf j hj
      rwa [add_none] at this
    · simp [hj] at hv

theorem Holds.loadVar {cs : List D} {b p : Nat} (hh : Holds M ρ w cs b p) {t : TypeId} {ag : Bool} (hag : agT P t = some ag) {off : Nat} {d : D} (hv : vpart ag (szT P t) cs off = some d) :
    ∃ v, (loadVar t ⟨b, p + off, none⟩).run P w = .ok v w ∧ rel M ρ d v := by
  obtain ⟨td, hu, hia⟩ := agT_some (w := w) hag
  cases ag with
  | true =>
    simp only [vpart, if_true] at hv
    split at hv
    · cases hv
    · split at hv
      · rename_i hl
        obtain ⟨vs, h1, h2, h3, h4, _⟩ := hh.loadCells (P := P) hl
        cases hv
        refine ⟨.agg vs.toArray, ?_, ?_⟩
        · simp [Go.loadVar, hia, run_sizeOf_u hu, h2]
        · simp only [rel]; exact ⟨_, rfl, by simpa using h3, h4⟩
      · cases hv
  | false =>
    simp only [vpart, Bool.false_eq_true, if_false] at hv
    obtain ⟨_, v, h1, h2⟩ := hh off d hv
    exact ⟨v, by simp [Go.loadVar, hia, h1], h2⟩

/-! What an operation has to do. -/
def YV (P : Program) (w0 : Base) (G : List Nat) (M : Imm) (ρ : Ren) (nid : Nat) (w : World) (s : Sem Value) (d : D) (h' : Heap) : Prop :=
  ∃ v w' M' ρ', s.run P w = .ok v w' ∧ MLe M M' ∧ RLe ρ ρ' ∧ (∀ i, h'.next ≤ i ∨ i ≠ nid → ρ' i = ρ i) ∧ Sim w0 G M' ρ' h' w' ∧ rel M' ρ' d v

theorem ne_new {h : Heap} {nid i : Nat} {ob : Obj} (hi : (h.new nid ob).next ≤ i ∨ i ≠ nid) : i ≠ nid := by
  rcases hi with hi | hi
  · simp only [Heap.new] at hi; omega
  · exact hi

theorem YV.pure {nid : Nat} {s : Sem Value} {d : D} {v : Value} (hs : Sim w0 G M ρ h w) (hr : s.run P w = .ok v w) (hd : rel M ρ d v) : YV P w0 G M ρ nid w s d h :=
  ⟨v, w, M, ρ, hr, MLe.refl _, RLe.refl _, fun _ _ => rfl, hs, hd⟩

theorem sl_size {sz : Nat} {xs : List (List D)} {tk : Tk} {v : Value} (hr : rel M ρ (.sl sz xs tk) v) : 0 < sz := by simp only [rel] at hr; exact hr.1

theorem snd_load {nid : Nat} (hs : Sim w0 G M ρ h w) {t : TypeId} {a d : D} {va : Value} (ha : rel M ρ a va) (hv : vload P t a h = some d) : YV P w0 G M ρ nid w (Instr.loadAt t va) d h := by
  unfold vload at hv
  split at hv
  · cases hv
  · rename_i ag hag
    split at hv
    · rename_i cs off
      simp only [rel] at ha
      obtain ⟨b, p, rfl, hc⟩ := ha
      obtain ⟨v, h1, h2⟩ := (hs.holds hc).loadVar hag hv
      exact .pure hs (by simp [Instr.loadAt, Instr.sureAddr, h1]) h2
    · rename_i id off
      simp only [rel] at ha
      obtain ⟨l, hl, rfl⟩ := ha
      split at hv
      · rename_i cs hi
        obtain ⟨v, h1, h2⟩ := (hs.row hi hl).loadVar hag hv
        rw [Nat.zero_add] at h1
        exact .pure hs (by simp [Instr.loadAt, Instr.sureAddr, h1]) h2
      · rename_i u full cs hi
        obtain ⟨v, h1, h2⟩ := (hs.trow hi hl).loadVar hag hv
        rw [Nat.zero_add] at h1
        exact .pure hs (by simp [Instr.loadAt, Instr.sureAddr, h1]) h2
      · cases hv
    · cases hv

theorem snd_fieldAddr {nid : Nat} (hs : Sim w0 G M ρ h w) {t : TypeId} {x d : D} {f : Nat} {vx : Value} (hx : rel M ρ x vx) (hv : vfieldAddr P t x f = some d) : YV P w0 G M ρ nid w (Instr.fieldAt t vx f) d h := by
  unfold vfieldAddr at hv
  split at hv
  · rename_i off ft hft
    obtain ⟨fs, fl, hu, hfl, rfl, rfl⟩ := fieldT_some hft
    split at hv
    · cases hv
    · rename_i hz
      have hsz := run_sizeOf_ne (P := P) (w := w) hz
      have hfp : ∀ b o, (fieldPlace ⟨b, o, none⟩ fl).run P w = .ok ⟨b, o + fl.offset, none⟩ w := fun b o => by
        simp [fieldPlace, hsz, hz, add_none]
      split at hv
      · rename_i cs o
        cases hv
        simp only [rel] at hx
        obtain ⟨b, p, rfl, hc⟩ := hx
        refine .pure hs (v := .pointer (some ⟨b, p + o + fl.offset, none⟩)) ?_ ?_
        · simp [Instr.fieldAt, run_underlying hu, hfl, Instr.sureAddr, hfp]
        · simp only [rel]; exact ⟨b, p, by rw [Nat.add_assoc], hc⟩
      · rename_i id o
        cases hv
        simp only [rel] at hx
        obtain ⟨l, hl, rfl⟩ := hx
        refine .pure hs (v := .pointer (some ⟨l.blk, o + fl.offset, none⟩)) ?_ ?_
        · simp [Instr.fieldAt, run_underlying hu, hfl, Instr.sureAddr, hfp]
        · simp only [rel]; exact ⟨l, hl, rfl⟩
      · cases hv
  · cases hv

theorem snd_indexAddr {nid : Nat} (hs : Sim w0 G M ρ h w) {t : TypeId} {x i d : D} {vx vi : Value} (hx : rel M ρ x vx) (hi : rel M ρ i vi) (hv : vindexAddr P t x i = some d) : YV P w0 G M ρ nid w (Instr.indexAt t vx vi) d h := by
  unfold vindexAddr at hv
  split at hv
  · rename_i k n
    simp only [rel] at hi
    obtain ⟨rfl, _⟩ := hi
    split at hv
    · rename_i e he
      have hu := elemT_some he
      split at hv
      · rename_i sz xs tk
        split at hv
        · rename_i hsz
          split at hv
          · rename_i h0
            split at hv
            · rename_i c hc
              cases hv
              have hx' := hx
              simp only [rel] at hx
              obtain ⟨hpos, hlim, b, p, cap, ⟨sp, rfl, hsp⟩, hcap, hE, _⟩ := hx
              obtain ⟨hlen, hC⟩ := relE_get hE _ _ hc
              have hlt : n.toNat < xs.length := (List.getElem?_eq_some_iff.1 hc).1
              obtain rfl : sp = none := hsp.resolve_right (by omega)
              have hn : n < (xs.length : Int) := by omega
              have hz : szT P e ≠ 0 := by omega
              refine .pure hs (v := .pointer (some ⟨b, p + n.toNat * sz, none⟩)) ?_ ?_
              · simp [Instr.indexAt, asIntOf, run_underlying hu, h0, hn, run_sizeOf_ne hz, add_none, hsz]
              · simp only [rel]; exact ⟨b, p + n.toNat * sz, rfl, hC⟩
            · cases hv
          · cases hv
        · cases hv
      · rename_i id sz off len
        split at hv
        · rename_i hcond
          simp only [Bool.and_eq_true, decide_eq_true_eq] at hcond
          obtain ⟨⟨hsz, h0⟩, hn⟩ := hcond
          cases hv
          simp only [rel] at hx
          obtain ⟨hpos, hlim, l, cap, o, hl, rfl, hcap, _, ho⟩ := hx
          obtain rfl : o = off := by omega
          have hz : szT P e ≠ 0 := by omega
          refine .pure hs (v := .pointer (some ⟨l.blk, o + n.toNat * sz, none⟩)) ?_ ?_
          · simp [Instr.indexAt, asIntOf, run_underlying hu, h0, hn, run_sizeOf_ne hz, add_none, hsz]
          · simp only [rel]; exact ⟨l, hl, rfl⟩
        · cases hv
      · cases hv
    · split at hv
      · rename_i len e ha
        have hu := arrT_some ha
        split at hv
        · rename_i hcond
          simp only [Bool.and_eq_true, decide_eq_true_eq] at hcond
          obtain ⟨⟨h0, hn⟩, hz⟩ := hcond
          split at hv
          · rename_i cs o
            cases hv
            simp only [rel] at hx
            obtain ⟨b, p, rfl, hc⟩ := hx
            refine .pure hs (v := .pointer (some ⟨b, p + o + n.toNat * szT P e, none⟩)) ?_ ?_
            · simp [Instr.indexAt, asIntOf, run_underlying hu, Instr.sureAddr, h0, hn, run_sizeOf_ne hz, add_none]
            · simp only [rel]; exact ⟨b, p, by rw [Nat.add_assoc], hc⟩
          · rename_i id o
            cases hv
            simp only [rel] at hx
            obtain ⟨l, hl, rfl⟩ := hx
            refine .pure hs (v := .pointer (some ⟨l.blk, o + n.toNat * szT P e, none⟩)) ?_ ?_
            · simp [Instr.indexAt, asIntOf, run_underlying hu, Instr.sureAddr, h0, hn, run_sizeOf_ne hz, add_none]
            · simp only [rel]; exact ⟨l, hl, rfl⟩
          · cases hv
        · cases hv
      · cases hv
  · cases hv
end
end Go.V
namespace Go.V
open Go.RowKit (Below)

theorem rel_int {M : Imm} {ρ : Ren} {k : IntKind} {n : Int} (h : fits k n) : rel M ρ (.int k n) (.int k n) := by simp only [rel]; exact ⟨trivial, h⟩
theorem rel_bool {M : Imm} {ρ : Ren} (b : Bool) : rel M ρ (.bool b) (.bool b) := by simp only [rel]
theorem wrap_wrap (k : IntKind) (n : Int) : fits k (k.wrap n) := by
  unfold fits IntKind.wrap
  cases k <;> simp [IntKind.bits, IntKind.signed] <;> (repeat' split) <;> omega

theorem fits_iff (k : IntKind) (n : Int) : fits k n ↔ k.min ≤ n ∧ n ≤ k.max := by
  unfold fits IntKind.wrap IntKind.min IntKind.max
  cases k <;> simp [IntKind.bits, IntKind.signed] <;> (repeat' split) <;> omega

theorem fits_tmod {k : IntKind} {a b : Int} (ha : fits k a) : fits k (a.tmod b) := by
  rw [fits_iff] at ha ⊢
  have h0 : (a.tmod b).natAbs ≤ a.natAbs := by rw [Int.natAbs_tmod]; exact Nat.mod_le _ _
  have h2 : 0 ≤ a → 0 ≤ a.tmod b := fun h => Int.tmod_nonneg b h
  have h3 : a ≤ 0 → a.tmod b ≤ 0 := fun h => by
    have := Int.tmod_nonneg b (a := -a) (by omega)
    rw [Int.neg_tmod] at this; omega
  have hm : k.min ≤ 0 ∧ 0 ≤ k.max := by cases k <;> simp [IntKind.min, IntKind.max, IntKind.bits, IntKind.signed]
  rcases Int.le_total 0 a with h | h
  · have := h2 h; omega
  · have := h3 h; omega

theorem fits_fdiv {k : IntKind} {a : Int} (ha : fits k a) (n : Nat) : fits k (a.fdiv (2 ^ n)) := by
  rw [fits_iff] at ha ⊢
  have hm : k.min ≤ 0 ∧ 0 ≤ k.max := by cases k <;> simp [IntKind.min, IntKind.max, IntKind.bits, IntKind.signed]
  have hp : (1 : Int) ≤ 2 ^ n := Int.pow_pos (by omega)
  generalize (2 : Int) ^ n = m at hp ⊢
  rw [Int.fdiv_eq_ediv_of_nonneg _ (by omega)]
  rcases (show a < 0 ∨ 0 ≤ a by omega) with h | h
  · have h3 := Int.ediv_neg_of_neg_of_pos h (by omega : (0 : Int) < m)
    have h4 : a ≤ a / m := Int.le_ediv_of_mul_le (by omega) (by
      have : a * m ≤ a * 1 := Int.mul_le_mul_of_nonpos_left (by omega) (by omega)
      omega)
    omega
  · have h3 : 0 ≤ a / m := Int.ediv_nonneg h (by omega)
    have h4 := Int.ediv_le_self m h
    omega

section
variable {P : Program} {w0 : Base} {G : List Nat} {M : Imm} {ρ : Ren} {h : Heap} {w : World} {nid : Nat}

theorem snd_vint {op : BinOp} {k : IntKind} {a b : Int} {d : D} (ha : fits k a) (hv : vint op k a b = some d) (hop : op ≠ .shl ∧ op ≠ .shr) (t : TypeId) :
    ∃ v, (binOp op t (.int k a) (.int k b)).run P w = .ok v w ∧ rel M ρ d v := by
  cases op with
  | shl => exact absurd rfl hop.1
  | shr => exact absurd rfl hop.2
  | quo =>
    simp only [vint] at hv
    split at hv
    · cases hv
    · rename_i hb
      injection hv with hv; subst hv
      exact ⟨.int k (k.wrap (a.tdiv b)), by simp [binOp, Op.intDiv, hb], rel_int (wrap_wrap _ _)⟩
  | rem =>
    simp only [vint] at hv
    split at hv
    · cases hv
    · rename_i hb
      injection hv with hv; subst hv
      exact ⟨.int k (a.tmod b), by simp [binOp, Op.intDiv, hb], rel_int (fits_tmod ha)⟩
  | add => cases hv; exact ⟨.int k (k.wrap (a + b)), by simp [binOp, Op.intArith], rel_int (wrap_wrap _ _)⟩
  | sub => cases hv; exact ⟨.int k (k.wrap (a - b)), by simp [binOp, Op.intArith], rel_int (wrap_wrap _ _)⟩
  | mul => cases hv; exact ⟨.int k (k.wrap (a * b)), by simp [binOp, Op.intArith], rel_int (wrap_wrap _ _)⟩
  | and => cases hv; exact ⟨.int k (k.wrap (BitVec.ofInt k.bits a &&& BitVec.ofInt k.bits b).toNat), by simp [binOp, Op.intBits], rel_int (wrap_wrap _ _)⟩
  | or => cases hv; exact ⟨.int k (k.wrap (BitVec.ofInt k.bits a ||| BitVec.ofInt k.bits b).toNat), by simp [binOp, Op.intBits], rel_int (wrap_wrap _ _)⟩
  | xor => cases hv; exact ⟨.int k (k.wrap (BitVec.ofInt k.bits a ^^^ BitVec.ofInt k.bits b).toNat), by simp [binOp, Op.intBits], rel_int (wrap_wrap _ _)⟩
  | andNot => cases hv; exact ⟨.int k (k.wrap (BitVec.ofInt k.bits a &&& ~~~ BitVec.ofInt k.bits b).toNat), by simp [binOp, Op.intBits], rel_int (wrap_wrap _ _)⟩
  | eql => cases hv; exact ⟨.bool (a == b), by simp [binOp, Op.intCmp], rel_bool _⟩
  | neq => cases hv; exact ⟨.bool (a != b), by simp [binOp, Op.intCmp], rel_bool _⟩
  | lss => cases hv; exact ⟨.bool (decide (a < b)), by simp [binOp, Op.intCmp], rel_bool _⟩
  | leq => cases hv; exact ⟨.bool (decide (a ≤ b)), by simp [binOp, Op.intCmp], rel_bool _⟩
  | gtr => cases hv; exact ⟨.bool (decide (a > b)), by simp [binOp, Op.intCmp], rel_bool _⟩
  | geq => cases hv; exact ⟨.bool (decide (a ≥ b)), by simp [binOp, Op.intCmp], rel_bool _⟩

theorem snd_vshift {op : BinOp} {k k' : IntKind} {a b : Int} {d : D} (ha : fits k a) (hv : vshift op k a b = some d) (t : TypeId) :
    ∃ v, (binOp op t (.int k a) (.int k' b)).run P w = .ok v w ∧ rel M ρ d v := by
  unfold vshift at hv
  split at hv
  · cases hv
  · rename_i hb
    cases op <;> simp only at hv <;> first
      | (injection hv with hv; subst hv; exact ⟨.int k (k.wrap (a * 2 ^ (min b.toNat k.bits))), by simp [binOp, Op.shift, hb], rel_int (wrap_wrap _ _)⟩)
      | (injection hv with hv; subst hv; exact ⟨.int k (a.fdiv (2 ^ (min b.toNat k.bits))), by simp [binOp, Op.shift, hb], rel_int (fits_fdiv ha _)⟩)
      | cases hv

theorem toList_data (b : ByteArray) : b.toList = b.data.toList := ByteArray.toList_eq b

theorem snd_vstr {op : BinOp} {a b : ByteArray} {d : D} (hv : vstr op a.data.toList b.data.toList = some d) (t : TypeId) :
    ∃ v, (binOp op t (.string a) (.string b)).run P w = .ok v w ∧ rel M ρ d v := by
  cases op with
  | add =>
    simp only [vstr] at hv
    split at hv
    · rename_i hl
      injection hv with hv; subst hv
      refine ⟨.string (a ++ b), ?_, ?_⟩
      · simp only [binOp]
        refine run_string_add_sum w a b ?_
        have h1 : a.size = a.data.toList.length := by rw [Array.length_toList]; rfl
        have h2 : b.size = b.data.toList.length := by rw [Array.length_toList]; rfl
        unfold lim at hl; omega
      · simp only [rel]
        exact ⟨_, rfl, by simp, by simpa using hl⟩
    · cases hv
  | eql => cases hv; exact ⟨.bool (a.data.toList == b.data.toList), by rw [← toList_data, ← toList_data]; rfl, rel_bool _⟩
  | neq => cases hv; exact ⟨.bool (!(a.data.toList == b.data.toList)), by rw [← toList_data, ← toList_data]; rfl, rel_bool _⟩
  | lss => cases hv; exact ⟨.bool (lstr a.data.toList b.data.toList), by simp only [binOp, Op.stringOp, toList_data, lstr, Sem.run_pure], rel_bool _⟩
  | leq => cases hv; exact ⟨.bool (lstr a.data.toList b.data.toList || a.data.toList == b.data.toList), by simp only [binOp, Op.stringOp, toList_data, lstr, Sem.run_pure], rel_bool _⟩
  | gtr => cases hv; exact ⟨.bool (!(lstr a.data.toList b.data.toList || a.data.toList == b.data.toList)), by simp only [binOp, Op.stringOp, toList_data, lstr, Sem.run_pure], rel_bool _⟩
  | geq => cases hv; exact ⟨.bool (!(lstr a.data.toList b.data.toList)), by simp only [binOp, Op.stringOp, toList_data, lstr, Sem.run_pure], rel_bool _⟩
  | _ => cases hv

/-! Equality of structs, cell by cell. -/
theorem eqK_length : ∀ {ks : List Kd} {as bs : List D} {r : Bool}, eqK ks as bs = some r → as.length = ks.length ∧ bs.length = ks.length
  | [], [], [], _, _ => ⟨rfl, rfl⟩
  | .b :: ks, .bool x :: as, .bool y :: bs, r, h => by
    simp only [eqK, Option.map_eq_some_iff] at h
    obtain ⟨q, h, _⟩ := h
    have := eqK_length h
    simp [this]
  | .i :: ks, .int k x :: as, .int k' y :: bs, r, h => by
    simp only [eqK] at h
    split at h
    · simp only [Option.map_eq_some_iff] at h
      obtain ⟨q, h, _⟩ := h
      have := eqK_length h
      simp [this]
    · cases h
  | .s :: ks, .str x :: as, .str y :: bs, r, h => by
    simp only [eqK, Option.map_eq_some_iff] at h
    obtain ⟨q, h, _⟩ := h
    have := eqK_length h
    simp [this]

theorem eqK_append : ∀ {k1 k2 : List Kd} {as bs : List D} {r : Bool}, eqK (k1 ++ k2) as bs = some r →
    ∃ r1 r2, eqK k1 (as.take k1.length) (bs.take k1.length) = some r1 ∧ eqK k2 (as.drop k1.length) (bs.drop k1.length) = some r2 ∧ r = (r1 && r2)
  | [], k2, as, bs, r, h => ⟨true, r, by simp [eqK], by simpa using h, by simp⟩
  | .b :: k1, k2, .bool x :: as, .bool y :: bs, r, h => by
    simp only [List.cons_append, eqK, Option.map_eq_some_iff] at h
    obtain ⟨q, h, rfl⟩ := h
    obtain ⟨r1, r2, h1, h2, rfl⟩ := eqK_append h
    exact ⟨x == y && r1, r2, by simp [eqK, h1], by simpa using h2, by simp [Bool.and_assoc]⟩
  | .i :: k1, k2, .int k x :: as, .int k' y :: bs, r, h => by
    simp only [List.cons_append, eqK] at h
    split at h
    · rename_i hk
      simp only [Option.map_eq_some_iff] at h
      obtain ⟨q, h, rfl⟩ := h
      obtain ⟨r1, r2, h1, h2, rfl⟩ := eqK_append h
      exact ⟨x == y && r1, r2, by simp [eqK, h1, hk], by simpa using h2, by simp [Bool.and_assoc]⟩
    · cases h
  | .s :: k1, k2, .str x :: as, .str y :: bs, r, h => by
    simp only [List.cons_append, eqK, Option.map_eq_some_iff] at h
    obtain ⟨q, h, rfl⟩ := h
    obtain ⟨r1, r2, h1, h2, rfl⟩ := eqK_append h
    exact ⟨x == y && r1, r2, by simp [eqK, h1], by simpa using h2, by simp [Bool.and_assoc]⟩

theorem relL_extract {ds : List D} {vs : Array Value} (h : relL M ρ ds vs.toList) (a n : Nat) : relL M ρ ((ds.drop a).take n) (vs.extract a (a + n)).toList := by
  have hl := relL_length h
  refine relL_of_get ?_ fun i d v hd hv => ?_
  · simp at hl ⊢; omega
  · simp only [List.getElem?_take, List.getElem?_drop] at hd
    split at hd
    · rename_i hi
      obtain ⟨u, h1, h2⟩ := relL_get h (a + i) d hd
      have : v = u := by
        have h3 : (vs.extract a (a + n)).toList[i]? = vs.toList[a + i]? := by
          simp [hi]
        rw [h3, h1] at hv; cases hv; rfl
      rw [this]; exact h2
    · cases hd

theorem run_part {t : TypeId} {ag : Bool} (hag : agT P t = some ag) {ds : List D} {vs : Array Value} (hr : relL M ρ ds vs.toList) (hf : ds.all D.flat = true) {off : Nat} {d : D} (hv : vpart ag (szT P t) ds off = some d) :
    ∃ v, (part t vs off).run P w = .ok v w ∧ rel M ρ d v := by
  obtain ⟨td, hu, hia⟩ := agT_some (w := w) hag
  cases ag with
  | true =>
    simp only [vpart, if_true] at hv
    split at hv
    · cases hv
    · split at hv
      · cases hv
        refine ⟨.agg (vs.extract off (off + szT P t)), by simp [part, hia, run_sizeOf_u hu], ?_⟩
        simp only [rel]; exact ⟨_, rfl, relL_extract hr off _, List.all_eq_true.2 fun d hd => List.all_eq_true.1 hf d (List.mem_of_mem_drop (List.mem_of_mem_take hd))⟩
      · cases hv
  | false =>
    simp only [vpart, Bool.false_eq_true, if_false] at hv
    obtain ⟨v, h1, h2⟩ := relL_get hr off d hv
    refine ⟨v, ?_, h2⟩
    have h1' : vs[off]? = some v := by simpa using h1
    simp [part, hia, h1']

theorem kindsT_false {d : Nat} {t : TypeId} {ks : List Kd} (h : kindsT P d t = some ks) (hag : agT P t = some false) : ∃ c, ks = [c] := by
  cases d with
  | zero => simp [kindsT] at h
  | succ d =>
    unfold kindsT at h
    unfold agT at hag
    cases hu : P.underlying t with
    | none => rw [hu] at h; cases h
    | some td =>
      rw [hu] at h hag
      cases td <;> simp only at h hag <;> first
        | (split at h
           · cases h; exact ⟨_, rfl⟩
           · cases h)
        | (cases h; done)
        | (cases hag; done)

theorem run_fields {d k : Nat} (ih : ∀ (t : TypeId) (ks : List Kd) (ag : Bool), kindsT P d t = some ks → agT P t = some ag → ∀ (da db : D) (a b : Value) (r : Bool), keyShape ag da = true → keyShape ag db = true →
      rel M ρ da a → rel M ρ db b → eqK ks da.cells db.cells = some r → (Op.equalIn (d + k) t a b).run P w = .ok r w) :
    ∀ (fs : List Field) (off n : Nat) (ks : List Kd), kindsF (kindsT P d) P.cellsOf fs off n = some ks → ∀ (as bs : List D) (xs ys : Array Value) (r : Bool), relL M ρ as xs.toList → relL M ρ bs ys.toList → as.all D.flat = true → bs.all D.flat = true →
      eqK ks (as.drop off) (bs.drop off) = some r → (Op.eqFields (d + k) xs ys fs).run P w = .ok r w
  | [], off, n, ks, hk, as, bs, xs, ys, r, ha, hb, fa, fb, he => by
    simp only [kindsF] at hk
    split at hk
    · cases hk
      have := eqK_length he
      cases hq : as.drop off with
      | nil => cases hq' : bs.drop off with
        | nil => rw [hq, hq'] at he; simp [eqK] at he; simp [Op.eqFields, he]
        | cons _ _ => rw [hq'] at this; simp at this
      | cons _ _ => rw [hq] at this; simp at this
    · cases hk
  | f :: fs, off, n, ks, hk, as, bs, xs, ys, r, ha, hb, fa, fb, he => by
    simp only [kindsF] at hk
    split at hk
    · rename_i hcond
      simp only [Bool.and_eq_true, bne_iff_ne, ne_eq, beq_iff_eq] at hcond
      obtain ⟨⟨hname, hoff⟩, hnz⟩ := hcond
      split at hk
      · rename_i kf hkf
        split at hk
        · rename_i hlen
          simp only [beq_iff_eq] at hlen
          simp only [Option.map_eq_some_iff] at hk
          obtain ⟨kr, hkr, rfl⟩ := hk
          obtain ⟨r1, r2, h1, h2, rfl⟩ := eqK_append he
          obtain ⟨ag, hag⟩ : ∃ ag, agT P f.type = some ag := by
            cases hd : d with
            | zero => rw [hd] at hkf; simp [kindsT] at hkf
            | succ d' =>
              rw [hd] at hkf
              unfold kindsT at hkf
              unfold agT
              cases hu : P.underlying f.type with
              | none => rw [hu] at hkf; cases hkf
              | some td => cases td <;> simp
          have hl1 := eqK_length h1
          have hsz : szT P f.type = kf.length := hlen.symm
          -- a field, as a value
          have cell : ∀ (cs : List D) (vs : Array Value), relL M ρ cs vs.toList → cs.all D.flat = true → ((cs.drop off).take kf.length).length = kf.length →
              (∀ c, ag = false → (cs.drop off).take kf.length = [c] → keyShape false c = true ∧ c.cells = [c]) → (ag = true → kf.length ≠ 0) → (ag = false → kf.length = 1) →
              ∃ v dv, (part f.type vs f.offset).run P w = .ok v w ∧ rel M ρ dv v ∧ keyShape ag dv = true ∧ dv.cells = (cs.drop off).take kf.length := by
            intro cs vs hr hfl hl hsc hag0 hag1
            rw [hoff]
            cases ag with
            | true =>
              have hle : off + kf.length ≤ cs.length := by
                have := hag0 rfl
                simp only [List.length_take, List.length_drop] at hl; omega
              obtain ⟨v, p1, p2⟩ := run_part (w := w) hag hr hfl (off := off) (d := .agg ((cs.drop off).take kf.length)) (by simp [vpart, hsz, hag0 rfl, hle])
              exact ⟨v, _, p1, p2, rfl, rfl⟩
            | false =>
              have h1' := hag1 rfl
              have hlt : off < cs.length := by simp only [List.length_take, List.length_drop] at hl; omega
              have hone : (cs.drop off).take kf.length = [cs[off]] := by rw [h1', List.drop_eq_getElem_cons hlt, List.take_succ_cons, List.take_zero]
              obtain ⟨v, p1, p2⟩ := run_part (w := w) hag hr hfl (off := off) (d := cs[off]) (by simp [vpart, hlt])
              obtain ⟨q1, q2⟩ := hsc _ rfl hone
              exact ⟨v, _, p1, p2, q1, by rw [q2, hone]⟩
          have hkinds : (ag = true → kf.length ≠ 0) ∧ (ag = false → kf.length = 1) := by
            refine ⟨fun _ => by rw [hlen]; exact hnz, fun e => ?_⟩
            subst e
            obtain ⟨c, rfl⟩ := kindsT_false hkf hag
            rfl
          have scal : ∀ (c e : D) (rr : Bool), ag = false → (eqK kf [c] [e] = some rr) → (keyShape false c = true ∧ c.cells = [c]) ∧ (keyShape false e = true ∧ e.cells = [e]) := by
            intro c e rr hf hq
            subst hf
            obtain ⟨kk, rfl⟩ := kindsT_false hkf hag
            cases kk <;> cases c <;> cases e <;> simp [eqK, keyShape, D.cells] at hq ⊢
          have one : ∀ cs : List D, ((cs.drop off).take kf.length).length = kf.length → ag = false → ∃ c, (cs.drop off).take kf.length = [c] := by
            intro cs hl hf
            have := hkinds.2 hf
            rw [this] at hl
            exact List.length_eq_one_iff.1 (by rw [← this] at hl; rw [hl, this])
          obtain ⟨va, dva, pa1, pa2, pa3, pa4⟩ := cell as xs ha fa hl1.1 (fun c hf hc => by
            obtain ⟨e, he'⟩ := one bs hl1.2 hf
            rw [hc, he'] at h1
            exact (scal c e r1 hf h1).1) hkinds.1 hkinds.2
          obtain ⟨vb, dvb, pb1, pb2, pb3, pb4⟩ := cell bs ys hb fb hl1.2 (fun c hf hc => by
            obtain ⟨e, he'⟩ := one as hl1.1 hf
            rw [hc, he'] at h1
            exact (scal e c r1 hf h1).2) hkinds.1 hkinds.2
          have hq := ih f.type kf ag hkf hag dva dvb va vb r1 pa3 pb3 pa2 pb2 (by rw [pa4, pb4]; exact h1)
          have hrest := run_fields ih fs (off + kf.length) n kr hkr as bs xs ys r2 ha hb fa fb (by rw [List.drop_drop, List.drop_drop] at h2; exact h2)
          simp only [Op.eqFields, ne_eq, hname, not_false_eq_true, if_true, Sem.run_bind, pa1, pb1, Result.andThen_ok, hq]
          cases r1 with
          | true => simpa using hrest
          | false => simp
        · cases hk
      · cases hk
    · cases hk

theorem run_eqv (k : Nat) : ∀ (d : Nat) (t : TypeId) (ks : List Kd) (ag : Bool), kindsT P d t = some ks → agT P t = some ag → ∀ (da db : D) (a b : Value) (r : Bool), keyShape ag da = true → keyShape ag db = true →
      rel M ρ da a → rel M ρ db b → eqK ks da.cells db.cells = some r → (Op.equalIn (d + k) t a b).run P w = .ok r w
  | 0, t, ks, ag, h, _, _, _, _, _, _, _, _, _, _, _ => by simp [kindsT] at h
  | d + 1, t, ks, ag, h, hag, da, db, a, b, r, sa, sb, ra, rb, he => by
    rw [show d + 1 + k = (d + k) + 1 by omega]
    have h' := h
    unfold kindsT at h
    cases hu : P.underlying t with
    | none => rw [hu] at h; cases h
    | some td =>
      rw [hu] at h
      have hb0 : ∀ x : Bool, (match td with | .struct _ => true | .array _ _ => true | _ => false) = x → ag = x := by
        intro x hx
        unfold agT at hag
        rw [hu] at hag
        cases td <;> simp_all
      cases td <;> simp only at h <;> (try (cases h; done))
      · split at h
        · cases h
          obtain rfl := hb0 false rfl
          cases da <;> simp [keyShape] at sa <;> cases db <;> simp [keyShape] at sb <;> simp [D.cells, eqK] at he
          simp only [rel] at ra rb
          subst ra rb he
          simp [Op.equalIn, run_underlying hu]
        · cases h
      · split at h
        · cases h
          obtain rfl := hb0 false rfl
          cases da <;> simp [keyShape] at sa <;> cases db <;> simp [keyShape] at sb <;> simp [D.cells, eqK] at he
          simp only [rel] at ra rb
          obtain ⟨rfl, _⟩ := ra
          obtain ⟨rfl, _⟩ := rb
          obtain ⟨rfl, rfl⟩ := he
          simp [Op.equalIn, run_underlying hu]
        · cases h
      · split at h
        · cases h
          obtain rfl := hb0 false rfl
          cases da <;> simp [keyShape] at sa <;> cases db <;> simp [keyShape] at sb <;> simp [D.cells, eqK] at he
          simp only [rel] at ra rb
          obtain ⟨x, rfl, rfl, _⟩ := ra
          obtain ⟨y, rfl, rfl, _⟩ := rb
          rw [run_equalIn_string w _ t x y hu, toList_data, toList_data, he]
        · cases h
      · rename_i fs
        split at h
        · cases h
        · rename_i hst
          obtain rfl := hb0 true rfl
          cases da <;> simp [keyShape] at sa
          cases db <;> simp [keyShape] at sb
          rename_i as bs
          simp only [rel] at ra rb
          obtain ⟨xs, rfl, hxs, fxs⟩ := ra
          obtain ⟨ys, rfl, hys, fys⟩ := rb
          have hf : P.fieldsOf t = fs := by simp [Program.fieldsOf, hu]
          rw [run_equalIn_struct w (d + k) t xs ys (by rw [hf]; exact hu) (by simpa using hst), hf]
          exact run_fields (fun t' ks' ag' h1 h2 => run_eqv k d t' ks' ag' h1 h2) fs.toList 0 _ ks h as bs xs ys r hxs hys fxs fys (by simpa [D.cells] using he)
end
end Go.V
namespace Go.V
open Go.RowKit (Below)
section
variable {P : Program} {w0 : Base} {G : List Nat} {M : Imm} {ρ : Ren} {h : Heap} {w : World} {nid : Nat}

/-- What '==' asks of two values that are no numbers and no strings. -/
def EqOk (P : Program) (w : World) (t : TypeId) (a b : Value) (r : Bool) : Prop :=
  (∀ o o', (eqGuard .eql t o o' a b).run P w = .ok () w ∧ (eqGuard .neq t o o' a b).run P w = .ok () w) ∧
    (binOp .eql t a b).run P w = .ok (.bool r) w ∧ (binOp .neq t a b).run P w = .ok (.bool (!r)) w

theorem eqOk_mk {t : TypeId} {a b : Value} {r : Bool} (h1 : ∀ o o', eqGuard .eql t o o' a b = pure () ∧ eqGuard .neq t o o' a b = pure ())
    (h2 : binOp .eql t a b = do pure (.bool (← Op.equal t a b))) (h3 : binOp .neq t a b = do pure (.bool (!(← Op.equal t a b))))
    (h4 : ∀ d, (Op.equalIn (d + 1) t a b).run P w = .ok r w) : EqOk P w t a b r := by
  have h5 : (Op.equal t a b).run P w = .ok r w := h4 9999
  refine ⟨fun o o' => ⟨by rw [(h1 o o').1]; rfl, by rw [(h1 o o').2]; rfl⟩, ?_, ?_⟩
  · rw [h2]; simp only [Sem.run_bind, h5, Result.andThen_ok, Sem.run_pure]
  · rw [h3]; simp only [Sem.run_bind, h5, Result.andThen_ok, Sem.run_pure]

theorem run_veq {t : TypeId} {x y : D} {a b : Value} {r : Bool} (ha : rel M ρ x a) (hb : rel M ρ y b) (hv : veq (P.underlying t) x y = some r) : EqOk P w t a b r := by
  unfold veq at hv
  split at hv <;> (try (cases hv; done)) <;> (injection hv with hv; subst hv) <;> simp only [rel] at ha hb <;> rename_i hu
  all_goals
    first
      | (subst ha; subst hb)
      | (subst ha; obtain ⟨_, _, rfl⟩ := hb)
      | (subst hb; obtain ⟨_, _, rfl⟩ := ha)
      | (subst ha; obtain ⟨_, _, rfl, _⟩ := hb)
      | (subst hb; obtain ⟨_, _, rfl, _⟩ := ha)
      | (subst ha; obtain ⟨_, _, _, _, _, ⟨_, rfl, _⟩, _⟩ := hb)
      | (subst hb; obtain ⟨_, _, _, _, _, ⟨_, rfl, _⟩, _⟩ := ha)
      | (subst ha; obtain ⟨_, _, _, _, _, rfl, _⟩ := hb)
      | (subst hb; obtain ⟨_, _, _, _, _, rfl, _⟩ := ha)
      | (subst ha; obtain ⟨_, _, _, _, _, _, rfl, _⟩ := hb)
      | (subst hb; obtain ⟨_, _, _, _, _, _, rfl, _⟩ := ha)
      | (subst hb; obtain ⟨_, _, rfl⟩ := ha)
      | (subst ha; obtain ⟨_, _, _, _, _, rfl, _⟩ := hb)
      | (subst ha; obtain ⟨_, _, _, rfl, _⟩ := hb)
      | (subst hb; obtain ⟨_, _, _, rfl, _⟩ := ha)
      | (subst ha; obtain ⟨_, _, _, _, _, rfl⟩ := hb)
  all_goals
    first
      | exact eqOk_mk (fun o o' => ⟨rfl, rfl⟩) rfl rfl (fun d => by simp [Op.equalIn, run_underlying hu])
      | skip

theorem run_eqK_struct {t : TypeId} {ks : List Kd} (ht : eqT P t = some ks) {as bs : List D} {xs ys : Array Value} {r : Bool} (ha : relL M ρ as xs.toList ∧ as.all D.flat = true) (hb : relL M ρ bs ys.toList ∧ bs.all D.flat = true) (he : eqK ks as bs = some r) : EqOk P w t (.agg xs) (.agg ys) r := by
  unfold eqT at ht
  split at ht
  · rename_i fs hu
    split at ht
    · cases ht
    · rename_i hg
      have hg' : P.eqGuardType P.depth t = false := by simpa using hg
      have hq := fun d => run_eqv (P := P) (M := M) (ρ := ρ) (w := w) d 8 t ks true ht (by simp [agT, hu]) (.agg as) (.agg bs) (.agg xs) (.agg ys) r rfl rfl (by simp only [rel]; exact ⟨xs, rfl, ha⟩) (by simp only [rel]; exact ⟨ys, rfl, hb⟩) he
      refine ⟨fun o o' => ⟨run_eqGuard_agg w .eql t o o' xs ys hg', run_eqGuard_agg w .neq t o o' xs ys hg'⟩, ?_, ?_⟩
      · rw [run_eql_struct, show (10000 : Nat) = 8 + 9992 from rfl, hq]; rfl
      · rw [run_neq_struct, show (10000 : Nat) = 8 + 9992 from rfl, hq]; rfl
  · cases ht

theorem eqGuard_int (op : BinOp) (t : TypeId) (o o' : Operand) (k k' : IntKind) (a b : Int) : eqGuard op t o o' (.int k a) (.int k' b) = pure () := by cases op <;> rfl
theorem eqGuard_str (op : BinOp) (t : TypeId) (o o' : Operand) (a b : ByteArray) : eqGuard op t o o' (.string a) (.string b) = pure () := by cases op <;> rfl

theorem snd_bin (hs : Sim w0 G M ρ h w) {op : BinOp} {t : TypeId} {x y d : D} {a b : Value} (o o' : Operand) (ha : rel M ρ x a) (hb : rel M ρ y b) (hv : vbin P op t (isC o || isC o') x y = some d) :
    YV P w0 G M ρ nid w (do eqGuard op t o o' a b; binOp op t a b) d h := by
  have fin : ∀ v, (eqGuard op t o o' a b).run P w = .ok () w → (binOp op t a b).run P w = .ok v w → rel M ρ d v → YV P w0 G M ρ nid w (do eqGuard op t o o' a b; binOp op t a b) d h := fun v h1 h2 h3 =>
    .pure hs (by simp only [Sem.run_bind, h1, Result.andThen_ok, h2]) h3
  have eqs : ∀ r, EqOk P w t a b r → ∀ f g : Option D, f = some (.bool r) → g = some (.bool (!r)) → pickEq op f g = some d → YV P w0 G M ρ nid w (do eqGuard op t o o' a b; binOp op t a b) d h := fun r hq f g hf hg he => by
    cases op <;> simp only [pickEq] at he <;> (try (cases he; done))
    · rw [hf] at he; cases he; exact fin _ (hq.1 o o').1 hq.2.1 (rel_bool _)
    · rw [hg] at he; cases he; exact fin _ (hq.1 o o').2 hq.2.2 (rel_bool _)
  have other : vcmp P op t x y = some d → YV P w0 G M ρ nid w (do eqGuard op t o o' a b; binOp op t a b) d h := fun he => by
    cases hr : veq (P.underlying t) x y with
    | none => unfold vcmp at he; rw [hr] at he; cases op <;> simp [pickEq] at he
    | some r => exact eqs r (run_veq ha hb hr) _ _ (by rw [hr]; rfl) (by rw [hr]; rfl) he
  cases x with
  | niliface =>
    simp only [vbin] at hv
    simp only [rel] at ha
    subst ha
    split at hv
    · simp only [rel] at hb
      subst hb
      split at hv
      · rename_i hc
        unfold vnili at hv
        split at hv
        · rename_i ms hu
          have hg : ∀ op, (eqGuard op t o o' .nilIface .nilIface).run P w = .ok () w := fun op => by
            cases o <;> cases o' <;> simp only [isC, Bool.or_self, Bool.or_true, Bool.or_false, Bool.false_eq_true, Bool.true_or] at hc <;> cases op <;> rfl
          have h6 : ∀ d, (Op.equalIn (d + 1) t .nilIface .nilIface).run P w = .ok true w := fun d => by simp [Op.equalIn, run_underlying hu]
          have h5 : (Op.equal t .nilIface .nilIface).run P w = .ok true w := h6 9999
          cases op <;> simp only [pickEq] at hv <;> (try (cases hv; done))
          · cases hv
            exact fin (.bool true) (hg _) (by show ((do pure (.bool (← Op.equal t .nilIface .nilIface))) : Sem Value).run P w = _; simp only [Sem.run_bind, h5, Result.andThen_ok, Sem.run_pure]) (rel_bool _)
          · cases hv
            exact fin (.bool false) (hg _) (by show ((do pure (.bool (!(← Op.equal t .nilIface .nilIface)))) : Sem Value).run P w = _; simp only [Sem.run_bind, h5, Result.andThen_ok, Sem.run_pure]; rfl) (rel_bool _)
        · cases hv
      · cases hv
    · simp only [rel] at hb
      obtain ⟨u, rfl, _⟩ := hb
      rename_i ti di
      unfold vnili at hv
      split at hv
      · rename_i ms hu
        exact eqs false (eqOk_mk (fun o o' => ⟨rfl, rfl⟩) rfl rfl (fun d => by simp [Op.equalIn, run_underlying hu])) _ _ rfl rfl hv
      · cases hv
    · cases hv
  | iface ti di =>
    simp only [vbin] at hv
    simp only [rel] at ha
    obtain ⟨u, rfl, _⟩ := ha
    split at hv
    · simp only [rel] at hb
      subst hb
      unfold vnili at hv
      split at hv
      · rename_i ms hu
        exact eqs false (eqOk_mk (fun o o' => ⟨rfl, rfl⟩) rfl rfl (fun d => by simp [Op.equalIn, run_underlying hu])) _ _ rfl rfl hv
      · cases hv
    · cases hv
  | int k p =>
    simp only [vbin] at hv
    split at hv
    · rename_i k' q
      simp only [rel] at ha hb
      obtain ⟨rfl, fa⟩ := ha
      obtain ⟨rfl, fb⟩ := hb
      have hg : (eqGuard op t o o' (.int k p) (.int k' q)).run P w = .ok () w := by rw [eqGuard_int]; rfl
      have go : ∀ (hv : vshift op k p q = some d), YV P w0 G M ρ nid w (do eqGuard op t o o' (.int k p) (.int k' q); binOp op t (.int k p) (.int k' q)) d h := fun hv => by
        obtain ⟨v, h1, h2⟩ := snd_vshift (P := P) (w := w) (M := M) (ρ := ρ) (k' := k') fa hv t
        exact fin v hg h1 h2
      unfold vints at hv
      split at hv
      · exact go hv
      · exact go hv
      · rename_i h1 h2
        split at hv
        · rename_i hk; subst hk
          obtain ⟨v, h3, h4⟩ := snd_vint (P := P) (w := w) (M := M) (ρ := ρ) fa hv ⟨h1, h2⟩ t
          exact fin v hg h3 h4
        · cases hv
    · cases hv
  | str s =>
    simp only [vbin] at hv
    split at hv
    · simp only [rel] at ha hb
      obtain ⟨ba, rfl, rfl, la⟩ := ha
      obtain ⟨bb, rfl, rfl, lb⟩ := hb
      obtain ⟨v, h1, h2⟩ := snd_vstr (P := P) (w := w) (M := M) (ρ := ρ) hv t
      exact fin v (by rw [eqGuard_str]; rfl) h1 h2
    · cases hv
  | agg as =>
    simp only [vbin] at hv
    split at hv
    · rename_i bs
      simp only [rel] at ha hb
      obtain ⟨xs, rfl, hxs⟩ := ha
      obtain ⟨ys, rfl, hys⟩ := hb
      split at hv
      · rename_i ks ht
        cases hr : eqK ks as bs with
        | none => unfold vcmpK at hv; rw [hr] at hv; cases op <;> simp [pickEq] at hv
        | some r => exact eqs r (run_eqK_struct ht hxs hys hr) _ _ (by rw [hr]; rfl) (by rw [hr]; rfl) hv
      · cases hv
    · cases hv
  | ptr i k =>
    simp only [vbin] at hv
    split at hv
    · rename_i j q
      split at hv
      · rename_i hb2
        simp only [Bool.and_eq_true] at hb2
        have e1 := Nat.eq_of_beq_eq_true hb2.1
        have e2 := Nat.eq_of_beq_eq_true hb2.2
        subst e1 e2
        simp only [rel] at ha hb
        obtain ⟨l, hl, rfl⟩ := ha
        obtain ⟨l', hl', rfl⟩ := hb
        rw [hl] at hl'; cases hl'
        unfold vptrEq at hv
        split at hv
        · rename_i e hu
          split at hv
          · rename_i ji hj
            exact eqs true (eqOk_mk (fun o o' => ⟨rfl, rfl⟩) rfl rfl (fun d => by simp [Op.equalIn, run_underlying hu, sizeOf, typeInfo, hj, run_sameAddr_same])) _ _ rfl rfl hv
          · cases hv
        · cases hv
      · cases hv
    · exact other hv
  | _ => exact other hv

theorem snd_un (hs : Sim w0 G M ρ h w) {op : UnOp} {x d : D} {a : Value} (ha : rel M ρ x a) (hv : vun op x = some d) : YV P w0 G M ρ nid w (Op.unary op a) d h := by
  unfold vun at hv
  split at hv
  · cases hv
    simp only [rel] at ha
    obtain ⟨rfl, _⟩ := ha
    exact .pure hs (by simp only [Op.unary, Op.intArith, Sem.run_pure]) (rel_int (wrap_wrap _ _))
  · cases hv
    simp only [rel] at ha
    subst ha
    exact .pure hs (by simp only [Op.unary, Sem.run_pure]) (rel_bool _)
  · cases hv

theorem snd_index (hs : Sim w0 G M ρ h w) {t : TypeId} {x i d : D} {vx vi : Value} (hx : rel M ρ x vx) (hi : rel M ρ i vi) (hv : vindex P t x i = some d) : YV P w0 G M ρ nid w (Instr.index t vx vi) d h := by
  unfold vindex at hv
  split at hv
  · rename_i k n
    simp only [rel] at hi
    obtain ⟨rfl, _⟩ := hi
    split at hv
    · rename_i s
      simp only [rel] at hx
      obtain ⟨b, rfl, rfl, _⟩ := hx
      split at hv
      · rename_i hu
        split at hv
        · rename_i h0
          split at hv
          · rename_i c hc
            cases hv
            have hb : b[n.toNat]? = some c := by
              have : b.data[n.toNat]? = some c := by simpa using hc
              rw [← this]; rfl
            refine .pure hs (v := .int .u8 c.toNat) ?_ (rel_int ?_)
            · simp [Instr.index, asIntOf, run_underlying hu, h0, hb]
            · rw [fits_iff]; have := c.toNat_lt; simp [IntKind.min, IntKind.max, IntKind.signed, IntKind.bits]; omega
          · cases hv
        · cases hv
      · cases hv
    · rename_i cs
      simp only [rel] at hx
      obtain ⟨vs, rfl, hvs, fvs⟩ := hx
      split at hv
      · rename_i len e he
        split at hv
        · rename_i ag hag
          split at hv
          · rename_i hc
            simp only [Bool.and_eq_true, decide_eq_true_eq] at hc
            obtain ⟨v, h1, h2⟩ := run_part (w := w) hag hvs fvs hv
            obtain ⟨td, htd, _⟩ := agT_some (w := w) hag
            exact .pure hs (by simp [Instr.index, asIntOf, run_underlying (arrT_some he), hc, run_sizeOf_u htd, h1]) h2
          · cases hv
        · cases hv
      · cases hv
    · cases hv
  · cases hv

theorem snd_field (hs : Sim w0 G M ρ h w) {t ft : TypeId} {f off : Nat} {cs : List D} {d : D} {ag : Bool} {vx : Value} (hx : rel M ρ (.agg cs) vx) (hf : fieldT P t f = some (off, ft)) (hag : agT P ft = some ag) (hv : vpart ag (szT P ft) cs off = some d) :
    YV P w0 G M ρ nid w (Instr.field t vx f) d h := by
  obtain ⟨fs, fl, hu, hfl, rfl, rfl⟩ := fieldT_some hf
  simp only [rel] at hx
  obtain ⟨vs, rfl, hvs, fvs⟩ := hx
  obtain ⟨v, h1, h2⟩ := run_part (w := w) hag hvs fvs hv
  exact .pure hs (by simp [Instr.field, run_underlying hu, hfl, asAgg, h1]) h2

theorem snd_extract (hs : Sim w0 G M ρ h w) {x d : D} {i : Nat} {vx : Value} (hx : rel M ρ x vx) (hv : vextract x i = some d) : YV P w0 G M ρ nid w (Instr.extract vx i) d h := by
  unfold vextract at hv
  split at hv
  · simp only [rel] at hx
    obtain ⟨vs, rfl, hvs⟩ := hx
    obtain ⟨v, h1, h2⟩ := relL_get hvs i d hv
    have h1' : vs[i]? = some v := by simpa using h1
    exact .pure hs (by simp [Instr.extract, h1']) h2
  · cases hv
end
end Go.V
namespace Go.V
open Go.RowKit (Below)
section
variable {P : Program} {w0 : Base} {G : List Nat} {M : Imm} {ρ : Ren} {h : Heap} {w : World} {nid : Nat}

theorem vbounds_some {n : Nat} {lo hi : Option D} {l u : Nat} (hv : vbounds n lo hi = some (l, u)) : hiOf n hi = some u ∧ loOf u lo = some l := by
  unfold vbounds at hv
  split at hv
  · cases hv
  · rename_i h' hq
    split at hv
    · cases hv
    · rename_i l' hl'; cases hv; exact ⟨hq, hl'⟩

theorem hiOf_run {n : Nat} {hi : Option D} {u : Nat} (hv : hiOf n hi = some u) {vhi : Option Value} (hhi : ∀ d, hi = some d → ∃ v, vhi = some v ∧ rel M ρ d v) (hhi' : hi = none → vhi = none) :
    (vhi = none ∧ u = n) ∨ ∃ k x, vhi = some (.int k x) ∧ 0 ≤ x ∧ x ≤ n ∧ u = x.toNat := by
  cases hi with
  | none => simp [hiOf] at hv; exact .inl ⟨hhi' rfl, hv.symm⟩
  | some d =>
    cases d with
    | int k x =>
      simp only [hiOf, Bool.and_eq_true, decide_eq_true_eq] at hv
      split at hv
      · rename_i hc
        obtain ⟨v, rfl, hr⟩ := hhi _ rfl
        simp only [rel] at hr
        obtain ⟨rfl, _⟩ := hr
        cases hv
        exact .inr ⟨k, x, rfl, hc.1, hc.2, rfl⟩
      · cases hv
    | _ => simp [hiOf] at hv

theorem loOf_run {n : Nat} {lo : Option D} {l : Nat} (hv : loOf n lo = some l) {vlo : Option Value} (hlo : ∀ d, lo = some d → ∃ v, vlo = some v ∧ rel M ρ d v) (hlo' : lo = none → vlo = none) :
    (vlo = none ∧ l = 0) ∨ ∃ k x, vlo = some (.int k x) ∧ 0 ≤ x ∧ x ≤ n ∧ l = x.toNat := by
  cases lo with
  | none => simp [loOf] at hv; exact .inl ⟨hlo' rfl, hv.symm⟩
  | some d =>
    cases d with
    | int k x =>
      simp only [loOf, Bool.and_eq_true, decide_eq_true_eq] at hv
      split at hv
      · rename_i hc
        obtain ⟨v, rfl, hr⟩ := hlo _ rfl
        simp only [rel] at hr
        obtain ⟨rfl, _⟩ := hr
        cases hv
        exact .inr ⟨k, x, rfl, hc.1, hc.2, rfl⟩
      · cases hv
    | _ => simp [loOf] at hv

theorem vbounds_spec {n : Nat} {lo hi : Option D} {l u : Nat} (hv : vbounds n lo hi = some (l, u)) : l ≤ u ∧ u ≤ n := by
  obtain ⟨h1, h2⟩ := vbounds_some hv
  refine ⟨?_, ?_⟩
  · cases lo with
    | none => simp [loOf] at h2; omega
    | some d =>
      cases d with
      | int k x =>
        simp only [loOf, Bool.and_eq_true, decide_eq_true_eq] at h2
        split at h2
        · cases h2; omega
        · cases h2
      | _ => simp [loOf] at h2
  · cases hi with
    | none => simp [hiOf] at h1; omega
    | some d =>
      cases d with
      | int k x =>
        simp only [hiOf, Bool.and_eq_true, decide_eq_true_eq] at h1
        split at h1
        · cases h1; omega
        · cases h1
      | _ => simp [hiOf] at h1

theorem vbounds_run {n cap : Nat} {lo hi : Option D} {l u : Nat} (hv : vbounds n lo hi = some (l, u)) (hcap : n ≤ cap) (isS : Bool) {vlo vhi : Option Value}
    (hlo : ∀ d, lo = some d → ∃ v, vlo = some v ∧ rel M ρ d v) (hlo' : lo = none → vlo = none) (hhi : ∀ d, hi = some d → ∃ v, vhi = some v ∧ rel M ρ d v) (hhi' : hi = none → vhi = none) :
    (Instr.sliceBounds isS n cap vlo vhi none).run P w = .ok (l, u, cap) w := by
  obtain ⟨h1, h2⟩ := vbounds_some hv
  rcases hiOf_run h1 hhi hhi' with ⟨rfl, rfl⟩ | ⟨k, x, rfl, x0, x1, rfl⟩ <;> rcases loOf_run h2 hlo hlo' with ⟨rfl, rfl⟩ | ⟨k', y, rfl, y0, y1, rfl⟩
  · simp [Instr.sliceBounds]
  · simp [Instr.sliceBounds, run_sliceBound w k' y _ _ y0 y1]
  · simp [Instr.sliceBounds, run_sliceBound w k x cap _ x0 (by omega)]
  · simp [Instr.sliceBounds, run_sliceBound w k x cap _ x0 (by omega), run_sliceBound w k' y x.toNat _ y0 y1]

theorem relE_cut {sz : Nat} {xs : List (List D)} {b p : Nat} (hE : relE M ρ sz xs b p) (l u : Nat) : relE M ρ sz ((xs.take u).drop l) b (p + l * sz) :=
  relE_of_get fun i x hx => by
    have h1 : xs[l + i]? = some x := by
      simp only [List.getElem?_drop, List.getElem?_take] at hx
      split at hx
      · exact hx
      · cases hx
    have := relE_get hE _ _ h1
    rw [Nat.add_mul, ← Nat.add_assoc] at this
    exact this

theorem vbounds3_some {n : Nat} {lo : Option D} {hi m : D} {l u : Nat} (hv : vbounds3 n lo hi m = some (l, u)) : hiOf n (some m) = some u ∧ hiOf u (some hi) = some u ∧ loOf u lo = some l := by
  unfold vbounds3 at hv
  split at hv
  · cases hv
  · rename_i mm hm
    split at hv
    · cases hv
    · rename_i u' hu
      split at hv
      · rename_i he
        split at hv
        · cases hv
        · rename_i l' hl
          cases hv
          subst he
          exact ⟨hm, hu, hl⟩
      · cases hv

theorem vbounds3_spec {n : Nat} {lo : Option D} {hi m : D} {l u : Nat} (hv : vbounds3 n lo hi m = some (l, u)) : l ≤ u ∧ u ≤ n := by
  obtain ⟨h1, h2, h3⟩ := vbounds3_some hv
  have k1 : vbounds n lo (some m) = some (l, u) := by unfold vbounds; rw [h1]; simp only; rw [h3]
  exact vbounds_spec k1

theorem vbounds3_run {n cap : Nat} {lo : Option D} {hi m : D} {l u : Nat} (hv : vbounds3 n lo hi m = some (l, u)) (hcap : n ≤ cap) (isS : Bool) {vlo : Option Value} {vhi vm : Value}
    (hlo : ∀ d, lo = some d → ∃ v, vlo = some v ∧ rel M ρ d v) (hlo' : lo = none → vlo = none) (hhi : rel M ρ hi vhi) (hm : rel M ρ m vm) :
    (Instr.sliceBounds isS n cap vlo (some vhi) (some vm)).run P w = .ok (l, u, u) w := by
  obtain ⟨h1, h2, h3⟩ := vbounds3_some hv
  rcases hiOf_run (M := M) (ρ := ρ) (vhi := some vm) h1 (fun d e => by cases e; exact ⟨vm, rfl, hm⟩) (fun e => by cases e) with ⟨e, _⟩ | ⟨k, x, e, x0, x1, hu⟩
  · cases e
  · cases e
    rcases hiOf_run (M := M) (ρ := ρ) (vhi := some vhi) h2 (fun d e => by cases e; exact ⟨vhi, rfl, hhi⟩) (fun e => by cases e) with ⟨e, _⟩ | ⟨k', y, e, y0, y1, hu'⟩
    · cases e
    · cases e
      rcases loOf_run h3 hlo hlo' with ⟨rfl, rfl⟩ | ⟨k'', z, rfl, z0, z1, rfl⟩
      · simp [Instr.sliceBounds, run_sliceBound w k x cap _ x0 (by omega), ← hu, run_sliceBound w k' y u _ y0 y1, ← hu']
      · simp [Instr.sliceBounds, run_sliceBound w k x cap _ x0 (by omega), ← hu, run_sliceBound w k' y u _ y0 y1, ← hu', run_sliceBound w k'' z u _ z0 z1]

theorem snd_slice3 (hs : Sim w0 G M ρ h w) {t : TypeId} {x d hi m : D} {lo : Option D} {vx vhi vm : Value} {vlo : Option Value} (hx : rel M ρ x vx)
    (hlo : ∀ d, lo = some d → ∃ v, vlo = some v ∧ rel M ρ d v) (hlo' : lo = none → vlo = none) (hhi : rel M ρ hi vhi) (hm : rel M ρ m vm)
    (hv : vslice3 P t x lo hi m = some d) : YV P w0 G M ρ nid w (Instr.sliceAt t vx vlo (some vhi) (some vm)) d h := by
  unfold vslice3 at hv
  split at hv
  · cases hv
  · rename_i e he
    split at hv
    · cases hv
    · rename_i hez
      have hu := elemT_some he
      have hz := run_sizeOf_ne (P := P) (w := w) hez
      have hu' : P.underlying t = some (.slice (P.elem t)) := by rw [hu]; simp [Program.elem, hu]
      split at hv
      · rename_i sz xs tk
        split at hv
        · rename_i hsz
          split at hv
          · rename_i l u hb
            cases hv
            simp only [rel] at hx
            obtain ⟨h0, hlim, b, p, cap, ⟨sp, rfl, hsp⟩, hcap, hE, htk⟩ := hx
            have hrun := vbounds3_run (P := P) (w := w) (M := M) (ρ := ρ) hb hcap true hlo hlo' hhi hm
            have hspc := vbounds3_spec hb
            rcases hsp with rfl | rfl
            case inr =>
              obtain rfl : xs = [] := List.eq_nil_of_length_eq_zero (by omega)
              simp only [List.length_nil] at hspc
              obtain rfl : u = 0 := by omega
              obtain rfl : l = 0 := by omega
              refine .pure hs (v := .slice (some ⟨b, p, sp⟩) 0 0) ?_ ?_
              · rw [run_sliceAt_slice (w := w) t _ _ _ _ hu']
                simp only [Instr.slice, Sem.run_bind, run_underlying hu, Result.andThen_ok, hrun, hz, Sem.run_pure]
                rfl
              · simp only [rel]
                exact ⟨h0, by simp, b, p, 0, ⟨sp, rfl, .inr rfl⟩, by simp, by simp [relE], by simp⟩
            refine .pure hs (v := .slice (some ⟨b, if u = l then p else p + l * sz, none⟩) (u - l) (u - l)) ?_ ?_
            · rw [run_sliceAt_slice (w := w) t _ _ _ _ hu']
              simp only [Instr.slice, Sem.run_bind, run_underlying hu, Result.andThen_ok, hrun, hz, Sem.run_pure]
              congr 2
              split <;> simp [add_none, ← hsz]
            · simp only [rel]
              have hlen : ((xs.take u).drop l).length = u - l := by simp only [List.length_drop, List.length_take]; omega
              refine ⟨h0, by omega, b, _, _, by rw [hlen]; exact slAt.mk _ _ _ _, by omega, ?_, hlen.symm⟩
              by_cases hc : u = l
              · have : (xs.take u).drop l = [] := by apply List.eq_nil_of_length_eq_zero; omega
                rw [this]; simp [relE]
              · rw [if_neg hc]; exact relE_cut hE l u
          · cases hv
        · cases hv
      · rename_i id sz off len
        split at hv
        · rename_i hsz
          split at hv
          · rename_i l u hb
            split at hv
            · rename_i hlu
              cases hv
              simp only [rel] at hx
              obtain ⟨h0, hlim, lc, cap, o, hl, rfl, hcap, hsize, ho⟩ := hx
              have hrun := vbounds3_run (P := P) (w := w) (M := M) (ρ := ρ) hb hcap.1 true hlo hlo' hhi hm
              refine .pure hs (v := .slice (some ⟨lc.blk, o, none⟩) 0 0) ?_ ?_
              · rw [run_sliceAt_slice (w := w) t _ _ _ _ hu']
                simp only [Instr.slice, Sem.run_bind, run_underlying hu, Result.andThen_ok, hrun, hz, Sem.run_pure]
                rw [if_pos hlu.symm, hlu, Nat.sub_self]
              · simp only [rel]
                exact ⟨h0, by simp, lc.blk, o, 0, slAt.mk _ _ _ _, Nat.le_refl _, by simp [relE], rfl⟩
            · cases hv
          · cases hv
        · cases hv
      · split at hv
        · rename_i q hb
          cases hv
          simp only [rel] at hx
          subst hx
          obtain ⟨l, u⟩ := q
          have hrun := vbounds3_run (P := P) (w := w) (M := M) (ρ := ρ) hb (Nat.le_refl 0) true hlo hlo' hhi hm
          have hsp := vbounds3_spec hb
          obtain rfl : l = 0 := by omega
          obtain rfl : u = 0 := by omega
          refine .pure hs (v := .slice none 0 0) ?_ (by simp only [rel])
          rw [run_sliceAt_slice (w := w) t _ _ _ _ hu']
          simp only [Instr.slice, Sem.run_bind, run_underlying hu, Result.andThen_ok, hrun, hz, Sem.run_pure]
          rfl
        · cases hv
      · cases hv

theorem snd_slice (hs : Sim w0 G M ρ h w) {t : TypeId} {x d : D} {lo hi : Option D} {vx : Value} {vlo vhi : Option Value} (hx : rel M ρ x vx)
    (hlo : ∀ d, lo = some d → ∃ v, vlo = some v ∧ rel M ρ d v) (hlo' : lo = none → vlo = none) (hhi : ∀ d, hi = some d → ∃ v, vhi = some v ∧ rel M ρ d v) (hhi' : hi = none → vhi = none)
    (hv : vslice P t x lo hi none = some d) : YV P w0 G M ρ nid w (Instr.sliceAt t vx vlo vhi none) d h := by
  simp only [vslice] at hv
  split at hv
  · rename_i s
    split at hv
    · rename_i hu
      split at hv
      · rename_i l u hb
        cases hv
        simp only [rel] at hx
        obtain ⟨b, rfl, rfl, hlim⟩ := hx
        have hsz : b.size = b.data.toList.length := by rw [Array.length_toList]; rfl
        rw [← hsz] at hb
        have hrun := vbounds_run (P := P) (w := w) (M := M) (ρ := ρ) hb (Nat.le_refl _) false hlo hlo' hhi hhi'
        have hsp := vbounds_spec hb
        refine .pure hs (v := .string (b.extract l u)) ?_ ?_
        · rw [run_sliceAt_string (w := w) t _ _ _ _ hu]
          simp only [Instr.slice, Sem.run_bind, run_underlying hu, Result.andThen_ok, Option.isSome_none, Bool.false_eq_true, if_false, hrun, Sem.run_pure]
        · simp only [rel]
          refine ⟨_, rfl, ?_, ?_⟩
          · simp [ByteArray.data_extract, List.drop_take]
          · simp only [List.length_drop, List.length_take]; omega
      · cases hv
    · cases hv
  · rename_i sz xs tk
    split at hv
    · rename_i e he
      split at hv
      · rename_i hsz
        split at hv
        · rename_i l u hb
          cases hv
          simp only [rel] at hx
          obtain ⟨h0, hlim, b, p, cap, ⟨sp, rfl, hsp⟩, hcap, hE, htk⟩ := hx
          have hrun := vbounds_run (P := P) (w := w) (M := M) (ρ := ρ) hb hcap true hlo hlo' hhi hhi'
          have hspc := vbounds_spec hb
          have hu := elemT_some he
          have hz := run_sizeOf_ne (P := P) (w := w) (t := e) (by omega)
          rcases hsp with rfl | rfl
          case inr =>
            obtain rfl : xs = [] := List.eq_nil_of_length_eq_zero (by omega)
            simp only [List.length_nil] at hspc
            obtain rfl : u = 0 := by omega
            obtain rfl : l = 0 := by omega
            refine .pure hs (v := .slice (some ⟨b, p, sp⟩) 0 0) ?_ ?_
            · have hu' : P.underlying t = some (.slice (P.elem t)) := by rw [hu]; simp [Program.elem, hu]
              rw [run_sliceAt_slice (w := w) t _ _ _ _ hu']
              simp only [Instr.slice, Sem.run_bind, run_underlying hu, Result.andThen_ok, hrun, hz, Sem.run_pure]
              rfl
            · simp only [rel]
              refine ⟨h0, by simp, b, p, 0, ⟨sp, rfl, .inr rfl⟩, by simp, by simp [relE], ?_⟩
              cases tk <;> simp [cutTk]
          refine .pure hs (v := .slice (some ⟨b, if cap = l then p else p + l * sz, none⟩) (u - l) (cap - l)) ?_ ?_
          · have hu' : P.underlying t = some (.slice (P.elem t)) := by rw [hu]; simp [Program.elem, hu]
            rw [run_sliceAt_slice (w := w) t _ _ _ _ hu']
            simp only [Instr.slice, Sem.run_bind, run_underlying hu, Result.andThen_ok, hrun, hz, Sem.run_pure]
            congr 2
            split <;> simp [add_none, ← hsz]
          · simp only [rel]
            have hlen : ((xs.take u).drop l).length = u - l := by simp only [List.length_drop, List.length_take]; omega
            refine ⟨h0, by omega, b, _, _, by rw [hlen]; exact slAt.mk _ _ _ _, by omega, ?_, ?_⟩
            · by_cases hc : cap = l
              · have : (xs.take u).drop l = [] := by apply List.eq_nil_of_length_eq_zero; omega
                rw [this]; simp [relE]
              · rw [if_neg hc]; exact relE_cut hE l u
            · cases tk with
              | no => simp only [cutTk]
              | own t => simp only [cutTk]
              | full =>
                simp only at htk
                by_cases hc' : u = xs.length
                · simp only [cutTk, hc', if_true, List.take_length, List.length_drop]; omega
                · simp only [cutTk, hc', if_false]
        · cases hv
      · cases hv
    · cases hv
  · rename_i id sz off len
    split at hv
    · rename_i e he
      split at hv
      · rename_i hsz
        split at hv
        · rename_i l u hb
          cases hv
          simp only [rel] at hx
          obtain ⟨h0, hlim, lc, cap, o, hl, rfl, hcap, hsize, ho⟩ := hx
          have hrun := vbounds_run (P := P) (w := w) (M := M) (ρ := ρ) hb hcap.1 true hlo hlo' hhi hhi'
          have hsp := vbounds_spec hb
          have hu := elemT_some he
          have hz := run_sizeOf_ne (P := P) (w := w) (t := e) (by omega)
          refine .pure hs (v := .slice (some ⟨lc.blk, if cap = l then o else o + l * sz, none⟩) (u - l) (cap - l)) ?_ ?_
          · have hu' : P.underlying t = some (.slice (P.elem t)) := by rw [hu]; simp [Program.elem, hu]
            rw [run_sliceAt_slice (w := w) t _ _ _ _ hu']
            simp only [Instr.slice, Sem.run_bind, run_underlying hu, Result.andThen_ok, hrun, hz, Sem.run_pure]
            congr 2
            split <;> simp [add_none, ← hsz]
          · simp only [rel]
            refine ⟨h0, by omega, lc, cap - l, _, hl, rfl, by omega, ?_, ?_⟩
            · have : (cap - l) * sz + l * sz = cap * sz := by rw [← Nat.add_mul]; congr 1; omega
              omega
            · by_cases hc : cap = l
              · left; omega
              · right; rw [if_neg hc]; rcases ho with ho | ho
                · omega
                · rw [ho]
        · cases hv
      · cases hv
    · cases hv
  · split at hv
    · rename_i e he
      split at hv
      · cases hv
      rename_i hez
      split at hv
      · rename_i q hb
        cases hv
        simp only [rel] at hx
        subst hx
        have hrun := vbounds_run (P := P) (w := w) (M := M) (ρ := ρ) hb (Nat.le_refl 0) true hlo hlo' hhi hhi'
        have hsp := vbounds_spec hb
        have hu := elemT_some he
        obtain ⟨l, u⟩ := q
        obtain rfl : l = 0 := by omega
        obtain rfl : u = 0 := by omega
        refine .pure hs (v := .slice none 0 0) ?_ (by simp only [rel])
        have hu' : P.underlying t = some (.slice (P.elem t)) := by rw [hu]; simp [Program.elem, hu]
        rw [run_sliceAt_slice (w := w) t _ _ _ _ hu']
        have hn := run_sizeOf_ne (P := P) (w := w) hez
        simp only [Instr.slice, Sem.run_bind, run_underlying hu, Result.andThen_ok, hrun, hn, Sem.run_pure]
        rfl
      · cases hv
    · cases hv
  · cases hv

/-! Boxes and new variables. -/
theorem chunks_length (sz : Nat) : ∀ (n : Nat) (cs : List D), (chunks sz n cs).length = n
  | 0, _ => rfl
  | n + 1, cs => by simp [chunks, chunks_length sz n]

theorem chunks_take (sz : Nat) : ∀ (n : Nat) (ds : List D), chunks sz n (ds.take (n * sz)) = chunks sz n ds
  | 0, _ => rfl
  | n + 1, ds => by
    simp only [chunks]
    rw [List.take_take, Nat.min_eq_left (by rw [Nat.succ_mul]; omega), List.drop_take, show (n + 1) * sz - sz = n * sz by rw [Nat.succ_mul]; omega, chunks_take sz n]

theorem relE_chunksC {M : Imm} {ρ : Ren} {sz b : Nat} : ∀ (n : Nat) {ds : List D} {p : Nat}, ds.length = n * sz → relC M ρ ds b p → relE M ρ sz (chunks sz n ds) b p
  | 0, _, _, _, _ => trivial
  | n + 1, ds, p, hl, h => by
    have hl2 : ds.length = n * sz + sz := by rw [hl, Nat.succ_mul]
    have hx := relC_get h
    simp only [chunks, relE]
    refine ⟨by simp; omega, relC_of_get fun i d hd => ?_, relE_chunksC n (by simp; omega) (relC_of_get fun i d hd => ?_)⟩
    · rw [List.getElem?_take] at hd
      split at hd
      · exact hx i d hd
      · cases hd
    · rw [List.getElem?_drop] at hd
      obtain ⟨h1, v, h2, h3⟩ := hx _ d hd
      exact ⟨h1, v, by rw [← h2]; congr 1; omega, h3⟩

theorem snd_sliceP (hs : Sim w0 G M ρ h w) {t e : TypeId} {n : Nat} {x d : D} {lo hi : Option D} {vx : Value} {vlo vhi : Option Value} (ht : arrT P t = some (n, e)) (hx : rel M ρ x vx)
    (hlo : ∀ d, lo = some d → ∃ v, vlo = some v ∧ rel M ρ d v) (hlo' : lo = none → vlo = none) (hhi : ∀ d, hi = some d → ∃ v, vhi = some v ∧ rel M ρ d v) (hhi' : hi = none → vhi = none)
    (hv : vsliceP P n e x lo hi h = some d) : YV P w0 G M ρ nid w (Instr.sliceAt t vx vlo vhi none) d h := by
  unfold vsliceP at hv
  split at hv
  · rename_i hc
    simp only [Bool.and_eq_true, decide_eq_true_eq] at hc
    obtain ⟨h0, hlim⟩ := hc
    have hu := arrT_some ht
    have hz := run_sizeOf_ne (P := P) (w := w) (t := e) (by omega)
    split at hv
    · cases hv
    · rename_i l u hb
      have hrun := vbounds_run (P := P) (w := w) (M := M) (ρ := ρ) hb (Nat.le_refl _) false hlo hlo' hhi hhi'
      have hsp := vbounds_spec hb
      split at hv
      · rename_i id off
        split at hv
        · rename_i cs hi'
          split at hv
          · rename_i hle
            cases hv
            simp only [rel] at hx
            obtain ⟨lc, hl, rfl⟩ := hx
            obtain ⟨lc', h1, _, hM, c, ty, hw, hls, hlen, _⟩ := hs.live id _ hi'
            rw [hl] at h1; cases h1
            refine .pure hs (v := .slice (some ⟨lc.blk, if n = l then off else off + l * szT P e, none⟩) (u - l) (n - l)) ?_ ?_
            · simp only [Instr.sliceAt, Sem.run_bind, run_underlying hu, Result.andThen_ok, Instr.sureAddr, Sem.run_pure, hrun, hz]
              congr 2
              split <;> simp [add_none]
            · simp only [rel]
              refine ⟨h0, by omega, lc, n - l, _, hl, rfl, ⟨by omega, by unfold maxLen; unfold lim at *; omega⟩, ?_, ?_⟩
              · have : (n - l) * szT P e + l * szT P e = n * szT P e := by rw [← Nat.add_mul]; congr 1; omega
                omega
              · by_cases hcc : n = l
                · left; omega
                · right; rw [if_neg hcc]
          · cases hv
        · cases hv
      · rename_i cs off
        split at hv
        · rename_i hle
          cases hv
          simp only [rel] at hx
          obtain ⟨b, p, rfl, hC⟩ := hx
          have hg := relC_get hC
          have hE : relE M ρ (szT P e) (chunks (szT P e) n ((cs.drop off).take (n * szT P e))) b (p + off) := relE_chunksC _ (by simp; omega) (relC_of_get fun i d hi => by
            rw [List.getElem?_take] at hi
            split at hi
            · rw [List.getElem?_drop] at hi
              obtain ⟨g1, v, g2, g3⟩ := hg _ d hi
              exact ⟨g1, v, by rw [← g2]; congr 1; omega, g3⟩
            · cases hi)
          have hch : chunks (szT P e) n ((cs.drop off).take (n * szT P e)) = chunks (szT P e) n (cs.drop off) := chunks_take _ _ _
          rw [hch] at hE
          refine .pure hs (v := .slice (some ⟨b, if n = l then p + off else p + off + l * szT P e, none⟩) (u - l) (n - l)) ?_ ?_
          · simp only [Instr.sliceAt, Sem.run_bind, run_underlying hu, Result.andThen_ok, Instr.sureAddr, Sem.run_pure, hrun, hz]
            congr 2
            split <;> simp [add_none]
          · have hl2 : (((chunks (szT P e) n (cs.drop off)).take u).drop l).length = u - l := by rw [List.length_drop, List.length_take, chunks_length]; omega
            simp only [rel]
            refine ⟨h0, by omega, b, _, n - l, by rw [hl2]; exact slAt.mk _ _ _ _, by omega, ?_, ?_⟩
            · by_cases hcc : n = l
              · have : ((chunks (szT P e) n (cs.drop off)).take u).drop l = [] := by apply List.eq_nil_of_length_eq_zero; omega
                rw [this]; simp [relE]
              · rw [if_neg hcc]; exact relE_cut hE l u
            · by_cases hun : u = n
              · rw [if_pos hun]; simp only; omega
              · rw [if_neg hun]; trivial
        · cases hv
      · cases hv
  · cases hv

theorem relC_new {ds : List D} {vs : List Value} {b : Nat} (hr : relL M ρ ds vs) (hf : ds.all D.flat = true) (hM : ∀ o, M b o = none) : relC (addM M b 0 vs) ρ ds b 0 :=
  relC_of_get fun i d hi => by
    obtain ⟨v, h1, h2⟩ := relL_get hr i d hi
    exact ⟨List.all_eq_true.1 hf d (List.mem_of_getElem? hi), v, addM_get h1, rel_mono (addM_le fun o _ => hM o) (RLe.refl _) _ _ h2⟩

theorem rel_cells {d : D} {v : Value} (hr : rel M ρ d v) : relL M ρ d.cells v.cells.toList := by
  cases d <;> first
    | (simp only [rel] at hr; obtain ⟨vs, rfl, h, _⟩ := hr; simpa [D.cells, Value.cells] using h; done)
    | skip
  all_goals
    have hc : v.cells = #[v] := by
      simp only [rel] at hr
      first
        | (subst hr; rfl)
        | (obtain ⟨rfl, _⟩ := hr; rfl)
        | (obtain ⟨_, rfl, _⟩ := hr; rfl)
        | (obtain ⟨_, _, rfl⟩ := hr; rfl)
        | (obtain ⟨_, _, rfl, _⟩ := hr; rfl)
        | (obtain ⟨_, _, _, _, _, ⟨_, rfl, _⟩, _⟩ := hr; rfl)
        | (obtain ⟨_, _, _, _, _, rfl, _⟩ := hr; rfl)
        | (obtain ⟨_, _, _, _, _, _, rfl, _⟩ := hr; rfl)
        | (obtain ⟨_, _, _, rfl, _⟩ := hr; rfl)
    rw [hc]
    simp only [D.cells]
    exact relL_of_get (by simp) fun i d u h1 h2 => by
      cases i with
      | zero => simp at h1 h2; subst h1 h2; exact hr
      | succ i => simp at h1

theorem cells_flat {d : D} {v : Value} (hr : rel M ρ d v) (ht : d.notTuple = true) : d.cells.all D.flat = true := by
  cases d with
  | agg cs => simp only [rel] at hr; exact (by obtain ⟨_, _, _, h⟩ := hr; exact h)
  | tuple cs => cases ht
  | _ => rfl

theorem run_newVar (t : TypeId) (v : Value) : (newVar t v).run P w = .ok ⟨w.heap.size, 0, none⟩ (w.alloc (.cells v.cells t)) := by
  simp [newVar, newRow]

/-- A box that will never change. -/
theorem snd_box_imm (hs : Sim w0 G M ρ h w) {t : TypeId} {x : D} {v : Value} (hx : rel M ρ x v) (ht : x.notTuple = true) : YV P w0 G M ρ nid w (Instr.box t v) (.iptr x.cells 0) h := by
  have hm : ∀ o, M w.heap.size o = none := hs.none_at (Nat.le_refl _)
  have hi := hs.allocImm v.cells t v.cells.size
  rw [show v.cells.toList.take v.cells.size = v.cells.toList by rw [← Array.length_toList]; exact List.take_length] at hi
  refine ⟨.pointer (some ⟨w.heap.size, 0, none⟩), _, addM M w.heap.size 0 v.cells.toList, ρ, ?_, addM_le fun o _ => hm o, RLe.refl _, fun _ _ => rfl, hi, ?_⟩
  · simp [Instr.box, run_newVar]
  · simp only [rel]; exact ⟨w.heap.size, 0, rfl, relC_new (rel_cells hx) (cells_flat hx ht) hm⟩

theorem objRel_row {w : World} {c : Array Value} {t : TypeId} {l : Loc} {ds : List D} (hM : ∀ o, M l.blk o = none) (hw : w.heap[l.blk]? = some (.cells c t (0, 0))) (hsz : l.size = c.size) (hle : ds.length ≤ c.size)
    (hr : relL M ρ ds (c.toList.take ds.length)) (hf : ds.all D.flat = true) : objRel M ρ w l (.row ds) :=
  ⟨hM, c, t, hw, hsz, hle, fun i d hi => by
    obtain ⟨v, h1, h2⟩ := relL_get hr i d hi
    have hlt : i < ds.length := (List.getElem?_eq_some_iff.1 hi).1
    exact ⟨List.all_eq_true.1 hf d (List.mem_of_getElem? hi), v, by simpa [List.getElem?_take, hlt] using h1, h2⟩⟩

/-- A new row of cells that may change. -/
theorem Sim.newRow (hs : Sim w0 G M ρ h w) (hn : ρ nid = none) {ds : List D} {c : Array Value} (t : TypeId) (hle : ds.length ≤ c.size) (hr : relL M ρ ds (c.toList.take ds.length)) (hf : ds.all D.flat = true) :
    Sim w0 G M (updR ρ nid ⟨w.heap.size, 0, c.size⟩) (h.new nid (.row ds)) (w.alloc (.cells c t)) := by
  refine hs.allocObj hn _ _ _ rfl (objRel_row (l := ⟨w.heap.size, 0, c.size⟩) (hs.none_at (Nat.le_refl _)) (t := t) (c := c) ?_ rfl hle ?_ hf)
  · show (w.heap.push _)[w.heap.size]? = _
    simp
  · have := relL_mono (MLe.refl M) (updR_le (l := ⟨w.heap.size, 0, c.size⟩) hn) _ _ hr
    exact this

theorem objRel_trow {w : World} {c : Array Value} {t : TypeId} {full : Bool} {l : Loc} {ds : List D} (hM : ∀ o, M l.blk o = none) (hw : w.heap[l.blk]? = some (.cells c t (0, 0))) (hsz : l.size = c.size) (hle : ds.length ≤ c.size) (hfu : full = true → c.size = ds.length)
    (hr : relL M ρ ds (c.toList.take ds.length)) (hf : ds.all D.flat = true) : objRel M ρ w l (.trow t full ds) := by
  obtain ⟨h0, c', e, h1, h2, h3, h4⟩ := objRel_row hM hw hsz hle hr hf
  have h1' := h1
  rw [hw] at h1'
  cases h1'
  exact ⟨h0, c, t, h1, h2, h3, h4, rfl, hfu⟩

/-- A new row of cells whose type is known. -/
theorem Sim.newTRow (hs : Sim w0 G M ρ h w) (hn : ρ nid = none) {ds : List D} {c : Array Value} (t : TypeId) (full : Bool) (hle : ds.length ≤ c.size) (hfu : full = true → c.size = ds.length) (hr : relL M ρ ds (c.toList.take ds.length)) (hf : ds.all D.flat = true) :
    Sim w0 G M (updR ρ nid ⟨w.heap.size, 0, c.size⟩) (h.new nid (.trow t full ds)) (w.alloc (.cells c t)) := by
  refine hs.allocObj hn _ _ _ rfl (objRel_trow (l := ⟨w.heap.size, 0, c.size⟩) (hs.none_at (Nat.le_refl _)) (t := t) (c := c) ?_ rfl hle hfu ?_ hf)
  · show (w.heap.push _)[w.heap.size]? = _
    simp
  · have := relL_mono (MLe.refl M) (updR_le (l := ⟨w.heap.size, 0, c.size⟩) hn) _ _ hr
    exact this

theorem snd_box_trow (hs : Sim w0 G M ρ h w) (hn : ρ nid = none) {t : TypeId} {x : D} {v : Value} (hx : rel M ρ x v) (ht : x.notTuple = true) : YV P w0 G M ρ nid w (Instr.box t v) (.ptr nid 0) (h.new nid (.trow t true x.cells)) := by
  have hc := rel_cells hx
  have hl := relL_length hc
  have hlen : x.cells.length = v.cells.size := by rw [← hl]; simp
  have hrow := hs.newTRow hn t true (ds := x.cells) (c := v.cells) (by omega) (fun _ => hlen.symm) (by rw [hlen, ← Array.length_toList, List.take_length]; exact hc) (cells_flat hx ht)
  refine ⟨.pointer (some ⟨w.heap.size, 0, none⟩), _, M, _, ?_, MLe.refl _, updR_le hn, fun i hi => by simp [updR, ne_new hi], hrow, ?_⟩
  · simp [Instr.box, run_newVar]
  · simp only [rel]; exact ⟨_, by simp [updR]; rfl, rfl⟩

theorem snd_box_mut (hs : Sim w0 G M ρ h w) (hn : ρ nid = none) {t : TypeId} {x : D} {v : Value} (hx : rel M ρ x v) (ht : x.notTuple = true) : YV P w0 G M ρ nid w (Instr.box t v) (.ptr nid 0) (h.new nid (.row x.cells)) := by
  have hc := rel_cells hx
  have hl := relL_length hc
  have hlen : x.cells.length = v.cells.size := by rw [← hl]; simp
  have hrow := hs.newRow hn t (ds := x.cells) (c := v.cells) (by omega) (by rw [hlen, ← Array.length_toList, List.take_length]; exact hc) (cells_flat hx ht)
  refine ⟨.pointer (some ⟨w.heap.size, 0, none⟩), _, M, _, ?_, MLe.refl _, updR_le hn, fun i hi => by simp [updR, ne_new hi], hrow, ?_⟩
  · simp [Instr.box, run_newVar]
  · simp only [rel]; exact ⟨_, by simp [updR]; rfl, rfl⟩
end
end Go.V
namespace Go.V
open Go.RowKit (Below)
section
variable {P : Program} {w0 : Base} {G : List Nat} {M : Imm} {ρ : Ren} {h : Heap} {w : World} {nid : Nat}

/-! Constants. -/
theorem flat_cst1 (v : Value) (h : cstOk v = true) (ho : v.oneCell' = true) : (cst v).flat = true := by
  unfold cstOk at h
  split at h <;> (first | rfl | cases ho | cases h)

theorem flat_cst : ∀ (vs : List Value), cstOkL vs = true → vs.all (·.oneCell') = true → (cstL vs).all D.flat = true
  | [], _, _ => by simp [cstL]
  | v :: vs, h, ho => by
    simp only [List.all_cons, Bool.and_eq_true] at ho
    simp only [cstOkL, Bool.and_eq_true] at h
    simp only [cstL, List.all_cons, Bool.and_eq_true]
    exact ⟨flat_cst1 v h.1 ho.1, flat_cst vs h.2 ho.2⟩

mutual
theorem rel_cst : ∀ (v : Value), cstOk v = true → rel M ρ (cst v) v
  | .bool b, _ => by simp only [cst, rel]
  | .int k n, h => by simp only [cstOk, beq_iff_eq] at h; simp only [cst]; exact rel_int h
  | .string s, h => by simp only [cstOk, decide_eq_true_eq] at h; simp only [cst, rel]; exact ⟨s, rfl, rfl, h⟩
  | .pointer none, _ => by simp only [cst, rel]
  | .pointer (some _), h => by simp [cstOk] at h
  | .slice none 0 0, _ => by simp only [cst, rel]
  | .slice none 0 (_ + 1), h => by simp [cstOk] at h
  | .slice none (_ + 1) _, h => by simp [cstOk] at h
  | .slice (some _) _ _, h => by simp [cstOk] at h
  | .map none, _ => by simp only [cst, rel]
  | .map (some _), h => by simp [cstOk] at h
  | .nilFunc, _ => by simp only [cst, rel]
  | .nilIface, _ => by simp only [cst, rel]
  | .agg cs, h => by simp only [cstOk, Bool.and_eq_true] at h; simp only [cst, rel]; exact ⟨cs, rfl, relL_cst cs.toList h.1, flat_cst cs.toList h.1 h.2⟩
  | .tuple cs, h => by simp only [cstOk] at h; simp only [cst, rel]; exact ⟨cs, rfl, relL_cst cs.toList h⟩
  | .float _ _, h => by simp [cstOk] at h
  | .complex _ _ _, h => by simp [cstOk] at h
  | .chan _, h => by simp [cstOk] at h
  | .func _ _ _, h => by simp [cstOk] at h
  | .iface _ _, h => by simp [cstOk] at h
theorem relL_cst : ∀ (vs : List Value), cstOkL vs = true → relL M ρ (cstL vs) vs
  | [], _ => by simp only [cstL, relL]
  | v :: vs, h => by
    simp only [cstOkL, Bool.and_eq_true] at h
    simp only [cstL, relL]
    exact ⟨v, vs, rfl, rel_cst v h.1, relL_cst vs h.2⟩
end

theorem zeroT_some {t : TypeId} {z : D} (hz : zeroT P t = some z) : ∃ i v, P.info? t = some i ∧ i.zero = some v ∧ rel M ρ z v ∧ (zeroValue t).run P w = .ok v w := by
  unfold zeroT at hz
  cases hi : P.info? t with
  | none => rw [hi] at hz; cases hz
  | some i =>
    rw [hi] at hz
    simp only [Option.bind_some] at hz
    cases hq : i.zero with
    | none => rw [hq] at hz; cases hz
    | some v =>
      rw [hq] at hz
      simp only at hz
      split at hz
      · rename_i hc; cases hz
        exact ⟨i, v, rfl, hq, rel_cst v hc, by simp [zeroValue, typeInfo, hi, hq]⟩
      · cases hz

theorem objOf_cases (t : TypeId) (cs : List D) : objOf t cs = .row cs ∨ objOf t cs = .trow t true cs := by
  unfold objOf
  split
  · exact .inl rfl
  · split
    · split
      · exact .inl rfl
      · split
        · split
          · exact .inr rfl
          · exact .inl rfl
        · exact .inl rfl
    · exact .inl rfl

theorem snd_alloc (hs : Sim w0 G M ρ h w) (hn : ρ nid = none) {t : TypeId} {z : D} (hz : zeroT P t = some z) (ht : z.notTuple = true) : YV P w0 G M ρ nid w (Instr.alloc t true (.tuple #[])) (.ptr nid 0) (h.new nid (objOf t z.cells)) := by
  obtain ⟨i, v, _, _, hr, hrun⟩ := zeroT_some (M := M) (ρ := ρ) (w := w) hz
  obtain ⟨u, w', M', ρ', h1, h2⟩ : YV P w0 G M ρ nid w (Instr.box t v) (.ptr nid 0) (h.new nid (objOf t z.cells)) := by
    rcases objOf_cases t z.cells with e | e
    · rw [e]; exact snd_box_mut (P := P) hs hn (t := t) hr ht
    · rw [e]; exact snd_box_trow (P := P) hs hn (t := t) hr ht
  refine ⟨u, w', M', ρ', ?_, h2⟩
  rw [← h1]
  simp [Instr.alloc, Instr.box, hrun]

/-! Stores. -/
theorem flat_oneCell {d : D} {v : Value} (hr : rel M ρ d v) (hf : d.flat = true) : v.oneCell' = true := by
  cases d <;> simp [D.flat] at hf <;> simp only [rel] at hr <;> first
    | (subst hr; rfl)
    | (obtain ⟨rfl, _⟩ := hr; rfl)
    | (obtain ⟨_, rfl, _⟩ := hr; rfl)
    | (obtain ⟨_, _, rfl⟩ := hr; rfl)
    | (obtain ⟨_, _, rfl, _⟩ := hr; rfl)
    | (obtain ⟨_, _, _, _, _, ⟨_, rfl, _⟩, _⟩ := hr; rfl)
    | (obtain ⟨_, _, _, _, _, rfl, _⟩ := hr; rfl)
    | (obtain ⟨_, _, _, _, _, _, rfl, _⟩ := hr; rfl)
    | (obtain ⟨_, _, _, rfl, _⟩ := hr; rfl)

theorem flats_oneCell : ∀ {ds : List D} {vs : List Value}, relL M ρ ds vs → ds.all D.flat = true → ∀ v ∈ vs, v.oneCell' = true
  | [], _, h, _, v, hv => by simp only [relL] at h; subst h; simp at hv
  | d :: ds, _, h, hf, v, hv => by
    simp only [relL] at h
    obtain ⟨u, us, rfl, h1, h2⟩ := h
    simp only [List.all_cons, Bool.and_eq_true] at hf
    rcases List.mem_cons.1 hv with rfl | hv
    · exact flat_oneCell h1 hf.1
    · exact flats_oneCell h2 hf.2 v hv

theorem flat_putAt {cs ds : List D} {off : Nat} (h1 : cs.all D.flat = true) (h2 : ds.all D.flat = true) : (putAt cs ds off).all D.flat = true := by
  unfold putAt
  rw [List.all_append, List.all_append]
  simp only [Bool.and_eq_true]
  exact ⟨⟨List.all_eq_true.2 fun d hd => List.all_eq_true.1 h1 d (List.mem_of_mem_take hd), h2⟩, List.all_eq_true.2 fun d hd => List.all_eq_true.1 h1 d (List.mem_of_mem_drop hd)⟩

theorem splice_get {α : Type} (l m : List α) (a : Nat) (hl : a + m.length ≤ l.length) (i : Nat) :
    (l.take a ++ m ++ l.drop (a + m.length))[i]? = if i < a then l[i]? else if i < a + m.length then m[i - a]? else l[i]? := by
  have h1 : (l.take a).length = a := by simp; omega
  by_cases h2 : i < a
  · rw [if_pos h2, List.append_assoc, List.getElem?_append_left (by omega), List.getElem?_take, if_pos h2]
  · rw [if_neg h2, List.append_assoc, List.getElem?_append_right (by omega), h1]
    by_cases h3 : i < a + m.length
    · rw [if_pos h3, List.getElem?_append_left (by omega)]
    · rw [if_neg h3, List.getElem?_append_right (by omega), List.getElem?_drop]
      congr 1; omega

theorem relL_splice {as ds : List D} {xs vs : List Value} {off : Nat} (ha : relL M ρ as xs) (hd : relL M ρ ds vs) (hl : off + ds.length ≤ as.length) :
    relL M ρ (putAt as ds off) (xs.take off ++ vs ++ xs.drop (off + vs.length)) := by
  have h1 := relL_length ha
  have h2 := relL_length hd
  refine relL_of_get ?_ fun i d v hi hv => ?_
  · simp [putAt]; omega
  · unfold putAt at hi
    rw [splice_get _ _ _ hl] at hi
    rw [splice_get _ _ _ (by omega), h2] at hv
    split at hi
    · rename_i hc; rw [if_pos hc] at hv
      obtain ⟨u, e1, e2⟩ := relL_get ha i d hi
      rw [e1] at hv; cases hv; exact e2
    · rename_i hc; rw [if_neg hc] at hv
      split at hi
      · rename_i hc'; rw [if_pos hc'] at hv
        obtain ⟨u, e1, e2⟩ := relL_get hd _ d hi
        rw [e1] at hv; cases hv; exact e2
      · rename_i hc'; rw [if_neg hc'] at hv
        obtain ⟨u, e1, e2⟩ := relL_get ha i d hi
        rw [e1] at hv; cases hv; exact e2

/-- A change of the cells of a row. -/
theorem Sim.setRow (hs : Sim w0 G M ρ h w) {id : Nat} {cs cs' : List D} {l : Loc} (hi : h.at' id = some (.row cs)) (hl : ρ id = some l) {c c' : Array Value} {t : TypeId} (hw : w.heap[l.blk]? = some (.cells c t (0, 0)))
    (hsz : c'.size = c.size) (hle : cs'.length ≤ c'.size) (hr : relL M ρ cs' (c'.toList.take cs'.length)) (hf : cs'.all D.flat = true) : Sim w0 G M ρ (h.set id (.row cs')) (w.setRow l.blk c') := by
  obtain ⟨l', h1, _, hM, c0, e0, h3, h4, _, _⟩ := hs.live id _ hi
  rw [hl] at h1; cases h1
  rw [hw] at h3; cases h3
  refine hs.put hi hl (setRow_os w _ _) (setRow_tape w _ _) (setRow_output w _ _) (setRow_size w _ _) (fun b hb => setRow_other w _ _ _ hb) (fun o v e => by rw [hM o] at e; cases e) ⟨_, hw, fun d => by simp⟩ ?_
  exact objRel_row hM (setRow_heap w _ _ c' t (0, 0) hw) (by rw [h4, hsz]) hle hr hf

/-- A change of the cells of a row whose type is known. -/
theorem Sim.setTRow (hs : Sim w0 G M ρ h w) {id : Nat} {u : TypeId} {full : Bool} {cs cs' : List D} {l : Loc} (hi : h.at' id = some (.trow u full cs)) (hl : ρ id = some l) {c c' : Array Value} {t : TypeId} (hw : w.heap[l.blk]? = some (.cells c t (0, 0)))
    (hsz : c'.size = c.size) (hle : cs'.length ≤ c'.size) (hll : cs'.length = cs.length) (hr : relL M ρ cs' (c'.toList.take cs'.length)) (hf : cs'.all D.flat = true) : Sim w0 G M ρ (h.set id (.trow u full cs')) (w.setRow l.blk c') := by
  obtain ⟨l', h1, _, hM, c0, e0, h3, h4, _, _, h7, h8⟩ := hs.live id _ hi
  rw [hl] at h1; cases h1
  rw [hw] at h3; cases h3
  refine hs.put hi hl (setRow_os w _ _) (setRow_tape w _ _) (setRow_output w _ _) (setRow_size w _ _) (fun b hb => setRow_other w _ _ _ hb) (fun o v e => by rw [hM o] at e; cases e) ⟨_, hw, fun d => by simp⟩ ?_
  subst h7
  exact objRel_trow hM (setRow_heap w _ _ c' t (0, 0) hw) (by rw [h4, hsz]) hle (fun e => by rw [hsz, h8 e, hll]) hr hf

/-- .. and of another length. -/
theorem Sim.setTRow' (hs : Sim w0 G M ρ h w) {id : Nat} {u : TypeId} {cs cs' : List D} {l : Loc} (hi : h.at' id = some (.trow u false cs)) (hl : ρ id = some l) {c c' : Array Value} {t : TypeId} (hw : w.heap[l.blk]? = some (.cells c t (0, 0)))
    (hsz : c'.size = c.size) (hle : cs'.length ≤ c'.size) (hr : relL M ρ cs' (c'.toList.take cs'.length)) (hf : cs'.all D.flat = true) : Sim w0 G M ρ (h.set id (.trow u false cs')) (w.setRow l.blk c') := by
  obtain ⟨l', h1, _, hM, c0, e0, h3, h4, _, _, h7, h8⟩ := hs.live id _ hi
  rw [hl] at h1; cases h1
  rw [hw] at h3; cases h3
  refine hs.put hi hl (setRow_os w _ _) (setRow_tape w _ _) (setRow_output w _ _) (setRow_size w _ _) (fun b hb => setRow_other w _ _ _ hb) (fun o v e => by rw [hM o] at e; cases e) ⟨_, hw, fun d => by simp⟩ ?_
  subst h7
  exact objRel_trow hM (setRow_heap w _ _ c' t (0, 0) hw) (by rw [h4, hsz]) hle (fun e => by cases e) hr hf

/-- Cells are stored into a row. -/
theorem Sim.storeRow (hs : Sim w0 G M ρ h w) {id off : Nat} {cs ds : List D} {vs : List Value} {l : Loc} (hi : h.at' id = some (.row cs)) (hl : ρ id = some l) (hr : relL M ρ ds vs) (hf : ds.all D.flat = true) (hle : off + ds.length ≤ cs.length) :
    ∃ w', (storeCells ⟨l.blk, off, none⟩ vs).run P w = .ok () w' ∧ Sim w0 G M ρ (h.set id (.row (putAt cs ds off))) w' := by
  obtain ⟨l', h1, _, hM, c, e, hw, hls, hlen, hcells⟩ := hs.live id _ hi
  rw [hl] at h1; cases h1
  have hlx := relL_length hr
  have hone := flats_oneCell hr hf
  have hst := run_storeCells_at P l.blk off e vs 0 c w hw (by omega) hone
  rw [Nat.add_zero] at hst
  refine ⟨w.setRow l.blk (c.toList.take off ++ vs ++ c.toList.drop (off + vs.length)).toArray, hst, ?_⟩
  have hrow : relL M ρ cs (c.toList.take cs.length) := relL_of_get (by simp; omega) fun i d v h1 h2 => by
    obtain ⟨_, u, e1, e2⟩ := hcells i d h1
    have hlt : i < cs.length := (List.getElem?_eq_some_iff.1 h1).1
    rw [List.getElem?_take, if_pos hlt] at h2
    have : some v = some u := by rw [← h2, ← e1]; simp
    cases this; exact e2
  have hlp : (putAt cs ds off).length = cs.length := by simp [putAt]; omega
  have hl2 : (c.toList.take off ++ vs ++ c.toList.drop (off + vs.length)).length = c.size := by simp; omega
  refine hs.setRow hi hl hw (by simpa using hl2) (by rw [hlp]; simp only [List.size_toArray]; omega) ?_ (flat_putAt (List.all_eq_true.2 fun d hd => by
    obtain ⟨i, hi'⟩ := List.mem_iff_getElem?.1 hd
    exact (hcells i d hi').1) hf)
  rw [hlp]
  have := relL_splice hrow hr hle
  refine relL_of_get (by simp; omega) fun i d v h1 h2 => ?_
  have hlt : i < cs.length := by rw [← hlp]; exact (List.getElem?_eq_some_iff.1 h1).1
  obtain ⟨u, e1, e2⟩ := relL_get this i d h1
  have : some v = some u := by
    rw [← h2, ← e1, List.getElem?_take, if_pos hlt, splice_get _ _ _ (by simp; omega), splice_get _ _ _ (by simp; omega), List.getElem?_take, if_pos hlt]
  cases this; exact e2

theorem snd_store (hs : Sim w0 G M ρ h w) {t : TypeId} {a x : D} {va vx : Value} {h' : Heap} (ha : rel M ρ a va) (hx : rel M ρ x vx) (hv : vstore P t a x h = some h') :
    ∃ w', (Instr.storeAt t va vx).run P w = .ok () w' ∧ Sim w0 G M ρ h' w' := by
  unfold vstore at hv
  split at hv
  · rename_i id off
    split at hv
    · rename_i cs hi
      split at hv
      · rename_i hc
        simp only [Bool.and_eq_true, decide_eq_true_eq] at hc
        obtain ⟨⟨⟨hnz, hsz⟩, hle⟩, hfl⟩ := hc
        cases hv
        simp only [rel] at ha
        obtain ⟨l, hl, rfl⟩ := ha
        obtain ⟨l', h1, _, hM, c, e, hw, hls, hlen, hcells⟩ := hs.live id _ hi
        rw [hl] at h1; cases h1
        have hrx := rel_cells hx
        have hlx := relL_length hrx
        have hsx : vx.cells.size = x.cells.length := by rw [← hlx]; simp
        have hone := flats_oneCell hrx hfl
        have hst := run_storeCells_at P l.blk off e vx.cells.toList 0 c w hw (by simp; omega) hone
        rw [Nat.add_zero] at hst
        refine ⟨w.setRow l.blk (c.toList.take off ++ vx.cells.toList ++ c.toList.drop (off + vx.cells.toList.length)).toArray, ?_, ?_⟩
        · have hsz' : (sizeOf t).run P w = .ok vx.cells.size w := by
            rw [hsx, hsz]
            cases hq : P.info? t with
            | some i => exact run_sizeOf _ hq
            | none =>
              exfalso
              have h0 : szT P t = 0 := by simp [szT, Program.cellsOf, hq]
              exact hnz h0
          simp only [Instr.storeAt, Instr.sureAddr, storeVar, Sem.run_bind, Sem.run_pure, Result.andThen_ok, hsz', ne_eq, not_true_eq_false, if_false]
          exact hst
        · have hrow : relL M ρ cs (c.toList.take cs.length) := relL_of_get (by simp; omega) fun i d v h1 h2 => by
            obtain ⟨_, u, e1, e2⟩ := hcells i d h1
            have hlt : i < cs.length := (List.getElem?_eq_some_iff.1 h1).1
            rw [List.getElem?_take, if_pos hlt] at h2
            have : some v = some u := by rw [← h2, ← e1]; simp
            cases this; exact e2
          have hlp : (putAt cs x.cells off).length = cs.length := by simp [putAt]; omega
          have hl2 : (c.toList.take off ++ vx.cells.toList ++ c.toList.drop (off + vx.cells.toList.length)).length = c.size := by simp; omega
          refine hs.setRow hi hl hw (by simpa using hl2) (by rw [hlp]; simp only [List.size_toArray]; omega) ?_ (flat_putAt (List.all_eq_true.2 fun d hd => by
            obtain ⟨i, hi'⟩ := List.mem_iff_getElem?.1 hd
            exact (hcells i d hi').1) hfl)
          rw [hlp]
          have := relL_splice hrow hrx hle
          refine relL_of_get (by simp; omega) fun i d v h1 h2 => ?_
          have hlt : i < cs.length := by rw [← hlp]; exact (List.getElem?_eq_some_iff.1 h1).1
          obtain ⟨u, e1, e2⟩ := relL_get this i d h1
          have : some v = some u := by
            rw [← h2, ← e1, List.getElem?_take, if_pos hlt, splice_get _ _ _ (by simp; omega), splice_get _ _ _ (by simp; omega), List.getElem?_take, if_pos hlt]
          cases this; exact e2
      · cases hv
    · rename_i u full cs hi
      split at hv
      · rename_i hc
        simp only [Bool.and_eq_true, decide_eq_true_eq] at hc
        obtain ⟨⟨⟨hnz, hsz⟩, hle⟩, hfl⟩ := hc
        cases hv
        simp only [rel] at ha
        obtain ⟨l, hl, rfl⟩ := ha
        obtain ⟨l', h1, _, hM, c, e, hw, hls, hlen, hcells, hty, hszc⟩ := hs.live id _ hi
        rw [hl] at h1; cases h1
        have hrx := rel_cells hx
        have hlx := relL_length hrx
        have hsx : vx.cells.size = x.cells.length := by rw [← hlx]; simp
        have hone := flats_oneCell hrx hfl
        have hst := run_storeCells_at P l.blk off e vx.cells.toList 0 c w hw (by simp; omega) hone
        rw [Nat.add_zero] at hst
        refine ⟨w.setRow l.blk (c.toList.take off ++ vx.cells.toList ++ c.toList.drop (off + vx.cells.toList.length)).toArray, ?_, ?_⟩
        · have hsz' : (sizeOf t).run P w = .ok vx.cells.size w := by
            rw [hsx, hsz]
            cases hq : P.info? t with
            | some i => exact run_sizeOf _ hq
            | none =>
              exfalso
              have h0 : szT P t = 0 := by simp [szT, Program.cellsOf, hq]
              exact hnz h0
          simp only [Instr.storeAt, Instr.sureAddr, storeVar, Sem.run_bind, Sem.run_pure, Result.andThen_ok, hsz', ne_eq, not_true_eq_false, if_false]
          exact hst
        · have hrow : relL M ρ cs (c.toList.take cs.length) := relL_of_get (by simp; omega) fun i d v h1 h2 => by
            obtain ⟨_, u, e1, e2⟩ := hcells i d h1
            have hlt : i < cs.length := (List.getElem?_eq_some_iff.1 h1).1
            rw [List.getElem?_take, if_pos hlt] at h2
            have : some v = some u := by rw [← h2, ← e1]; simp
            cases this; exact e2
          have hlp : (putAt cs x.cells off).length = cs.length := by simp [putAt]; omega
          have hl2 : (c.toList.take off ++ vx.cells.toList ++ c.toList.drop (off + vx.cells.toList.length)).length = c.size := by simp; omega
          refine hs.setTRow hi hl hw (by simpa using hl2) (by rw [hlp]; simp only [List.size_toArray]; omega) hlp ?_ (flat_putAt (List.all_eq_true.2 fun d hd => by
            obtain ⟨i, hi'⟩ := List.mem_iff_getElem?.1 hd
            exact (hcells i d hi').1) hfl)
          rw [hlp]
          have := relL_splice hrow hrx hle
          refine relL_of_get (by simp; omega) fun i d v h1 h2 => ?_
          have hlt : i < cs.length := by rw [← hlp]; exact (List.getElem?_eq_some_iff.1 h1).1
          obtain ⟨u, e1, e2⟩ := relL_get this i d h1
          have : some v = some u := by
            rw [← h2, ← e1, List.getElem?_take, if_pos hlt, splice_get _ _ _ (by simp; omega), splice_get _ _ _ (by simp; omega), List.getElem?_take, if_pos hlt]
          cases this; exact e2
      · cases hv
    · cases hv
  · cases hv
end
end Go.V
namespace Go.V
open Go.RowKit (Below)
section
variable {P : Program} {w0 : Base} {G : List Nat} {M : Imm} {ρ : Ren} {h : Heap} {w : World} {nid : Nat}

theorem run_placesL : ∀ (fs : List Field) (ps : List (Nat × Nat)), placesL P fs = some ps → (fs.mapM (m := Sem) fun f => do pure (f.offset, ← sizeOf f.type)).run P w = .ok ps w
  | [], ps, h => by simp [placesL] at h; subst h; rfl
  | f :: fs, ps, h => by
    simp only [placesL] at h
    split at h
    · cases h
    · rename_i hz
      simp only [Option.map_eq_some_iff] at h
      obtain ⟨qs, hq, rfl⟩ := h
      have ih := run_placesL fs qs hq
      rw [List.mapM_cons]
      simp only [Sem.run_bind, run_sizeOf_ne (P := P) (w := w) hz, Result.andThen_ok, Sem.run_pure, ih]

theorem set_cells (off : Nat) (vs : Array Value) (cells : Array Value) (hl : off + vs.size ≤ cells.size) :
    (vs.zipIdx.foldl (fun cs (x : Value × Nat) => cs.setIfInBounds (off + x.2) x.1) cells).toList = cells.toList.take off ++ vs.toList ++ cells.toList.drop (off + vs.toList.length) := by
  obtain ⟨h1, h2⟩ := Go.Great.foldl_set off vs.toList 0 cells
  rw [← Array.foldl_toList, Array.toList_zipIdx]
  apply List.ext_getElem?
  intro i
  rw [Array.getElem?_toList, h2, splice_get _ _ _ (by simp; omega)]
  simp only [Nat.add_zero, Array.length_toList, Array.getElem?_toList]
  by_cases ha : i < off
  · rw [if_neg (by omega), if_pos ha]
  · rw [if_neg ha]
    by_cases hb : i < off + vs.size
    · rw [if_pos ⟨by omega, hb, by omega⟩, if_pos hb]
    · rw [if_neg (by omega), if_neg hb]

theorem fill_rel (place : Nat → Option (Nat × Nat)) (ev : Operand → D) (cev : Operand → Value) : ∀ (l : List (Nat × Operand)) (cs cs' : List D) (cells : Array Value), (∀ p ∈ l, rel M ρ (ev p.2) (cev p.2)) → relL M ρ cs cells.toList → cs.all D.flat = true →
    vfill place cs (l.map fun p => (p.1, ev p.2)) = some cs' → ∃ cells', Instr.fill place cells (l.map fun p => (p.1, cev p.2)) = some cells' ∧ (relL M ρ cs' cells'.toList ∧ cs'.all D.flat = true) ∧ cells'.size = cells.size
  | [], cs, cs', cells, _, hr, hf, hv => by simp only [List.map_nil, vfill, Option.some.injEq] at hv; subst hv; exact ⟨cells, rfl, ⟨hr, hf⟩, rfl⟩
  | p :: l, cs, cs', cells, hp, hr, hf, hv => by
    simp only [List.map_cons, vfill] at hv
    split at hv
    · cases hv
    · rename_i off size hpl
      split at hv
      · rename_i hc
        simp only [Bool.and_eq_true, decide_eq_true_eq] at hc
        obtain ⟨⟨h0, h1⟩, h2⟩ := hc
        have hx := rel_cells (hp p (by simp))
        have hlx := relL_length hx
        have hlc := relL_length hr
        have hs1 : (cev p.2).cells.size = size := by rw [← h1, ← hlx]; simp
        have hs2 : cells.size = cs.length := by rw [← hlc]; simp
        have hset := set_cells off (cev p.2).cells cells (by omega)
        obtain ⟨cells', e1, e2, e3⟩ := fill_rel place ev cev l _ cs' ((cev p.2).cells.zipIdx.foldl (fun cs (x : Value × Nat) => cs.setIfInBounds (off + x.2) x.1) cells) (fun q hq => hp q (by simp [hq])) (by
          rw [hset]; exact relL_splice hr hx (by omega)) (flat_putAt hf (cells_flat (hp p (by simp)) h0)) hv
        refine ⟨cells', ?_, e2, ?_⟩
        · simp only [List.map_cons, Instr.fill, hpl, hs1]
          rw [if_neg (by simp; omega)]
          exact e1
        · rw [e3, ← Array.length_toList, hset]; simp; omega
      · cases hv

theorem snd_build (hs : Sim w0 G M ρ h w) {t : TypeId} {parts : Array (Nat × Operand)} {d : D} (ev : Operand → D) (cev : Operand → Value) (hp : ∀ p ∈ parts.toList, rel M ρ (ev p.2) (cev p.2))
    (hv : vbuild P t (parts.toList.map fun p => (p.1, ev p.2)) = some d) : YV P w0 G M ρ nid w (Instr.build t (parts.map fun p => (p.1, cev p.2))) d h := by
  unfold vbuild at hv
  split at hv
  · cases hv
  · rename_i z hz
    split at hv
    · cases hv
    rename_i hzt
    simp only [Bool.not_eq_true, Bool.not_eq_false'] at hzt
    obtain ⟨i, zv, hi, hzv, hrz, hzrun⟩ := zeroT_some (P := P) (M := M) (ρ := ρ) (w := w) hz
    have hzc := rel_cells hrz
    have hzf := cells_flat hrz hzt
    split at hv
    · rename_i ps hps
      simp only [Option.map_eq_some_iff] at hv
      obtain ⟨cs', hf, rfl⟩ := hv
      unfold placesT at hps
      split at hps
      · rename_i fs hu
        obtain ⟨cells', e1, e2, _⟩ := fill_rel (fun (i : Nat) => ps[i]?) ev cev parts.toList _ _ zv.cells hp hzc hzf hf
        refine .pure hs (v := .agg cells') ?_ (by simp only [rel]; exact ⟨_, rfl, e2⟩)
        have hpl : (fs.mapM (m := Sem) fun f => do pure (f.offset, ← sizeOf f.type)).run P w = .ok ps.toArray w := by
          have := run_placesL (P := P) (w := w) fs.toList ps hps
          rw [show fs = fs.toList.toArray by simp, List.mapM_toArray]
          simp only [Sem.run_map, this, Result.andThen_ok]
        simp only [Instr.build, Sem.run_bind, hzrun, Result.andThen_ok, run_underlying hu, hpl, Array.toList_map]
        have : (fun (x : Nat) => ps.toArray[x]?) = fun (i : Nat) => ps[i]? := by funext i; simp
        rw [this, e1]
        rfl
      · cases hps
    · split at hv
      · rename_i n e ha
        split at hv
        · cases hv
        · rename_i hez
          simp only [Option.map_eq_some_iff] at hv
          obtain ⟨cs', hf, rfl⟩ := hv
          obtain ⟨cells', e1, e2, _⟩ := fill_rel _ ev cev parts.toList _ _ zv.cells hp hzc hzf hf
          refine .pure hs (v := .agg cells') ?_ (by simp only [rel]; exact ⟨_, rfl, e2⟩)
          simp only [Instr.build, Sem.run_bind, hzrun, Result.andThen_ok, run_underlying (arrT_some ha), run_sizeOf_ne (P := P) (w := w) hez, Array.toList_map, e1]
          rfl
      · cases hv

/-! Slices of new elements. -/

theorem chunks_get (sz : Nat) : ∀ (n : Nat) (cs : List D) (i : Nat), i < n → (chunks sz n cs)[i]? = some ((cs.drop (i * sz)).take sz)
  | 0, _, _, h => by omega
  | n + 1, cs, 0, _ => by simp [chunks]
  | n + 1, cs, i + 1, h => by
    simp only [chunks, List.getElem?_cons_succ]
    rw [chunks_get sz n _ i (by omega), List.drop_drop, Nat.add_mul, Nat.one_mul, Nat.add_comm sz]

theorem relE_chunks {sz n b : Nat} {cs : List D} {vs : List Value} (hr : relL M ρ cs vs) (hf : cs.all D.flat = true) (hM : ∀ o, M b o = none) (hl : cs.length = n * sz) : relE (addM M b 0 vs) ρ sz (chunks sz n cs) b 0 :=
  relE_of_get fun i x hx => by
    have hi : i < n := by rw [← chunks_length sz n cs]; exact (List.getElem?_eq_some_iff.1 hx).1
    rw [chunks_get sz n cs i hi] at hx
    cases hx
    have hle : i * sz + sz ≤ n * sz := by rw [← Nat.succ_mul]; exact Nat.mul_le_mul_right _ hi
    refine ⟨by simp; omega, relC_of_get fun j d hd => ?_⟩
    have hC := relC_new hr hf hM
    simp only [List.getElem?_take, List.getElem?_drop] at hd
    split at hd
    · obtain ⟨h0, v, h1, h2⟩ := relC_get hC _ d hd
      exact ⟨h0, v, by rw [← h1]; congr 1; omega, h2⟩
    · cases hd

theorem flatten_replicate_get {α : Type} (z : List α) : ∀ (n i : Nat), i < n * z.length → (List.replicate n z).flatten[i]? = z[i % z.length]?
  | 0, i, h => by simp at h
  | n + 1, i, h => by
    rw [List.replicate_succ, List.flatten_cons]
    by_cases hi : i < z.length
    · rw [List.getElem?_append_left hi, Nat.mod_eq_of_lt hi]
    · rw [List.getElem?_append_right (by omega), flatten_replicate_get z n (i - z.length) (by rw [Nat.add_mul, Nat.one_mul] at h; omega), Nat.mod_eq_sub_mod (a := i) (by omega)]

theorem flatten_replicate_length {α : Type} (z : List α) : ∀ n : Nat, (List.replicate n z).flatten.length = n * z.length
  | 0 => by simp
  | n + 1 => by rw [List.replicate_succ, List.flatten_cons, List.length_append, flatten_replicate_length z n, Nat.add_mul, Nat.one_mul, Nat.add_comm]

theorem flat_repl {z : List D} (hf : z.all D.flat = true) (n : Nat) : (repl n z).all D.flat = true :=
  List.all_eq_true.2 fun d hd => by
    obtain ⟨l, h1, h2⟩ := List.mem_flatten.1 hd
    rw [(List.mem_replicate.1 h1).2] at h2
    exact List.all_eq_true.1 hf d h2

theorem relL_repl {z : List D} {zc : Array Value} (hr : relL M ρ z zc.toList) (n : Nat) : relL M ρ (repl n z) ((Array.range (n * z.length)).map (zc[· % zc.size]!)).toList := by
  have hl := relL_length hr
  have hl' : zc.size = z.length := by rw [← hl]; simp
  refine relL_of_get (by simp [repl]) fun i d v hd hv => ?_
  have hi : i < n * z.length := by
    have := (List.getElem?_eq_some_iff.1 hd).1
    rwa [repl, flatten_replicate_length] at this
  have hz0 : 0 < z.length := by rcases Nat.eq_zero_or_pos z.length with h0 | h0; · rw [h0] at hi; simp at hi
                                · exact h0
  rw [repl, flatten_replicate_get z n i hi] at hd
  obtain ⟨u, h1, h2⟩ := relL_get hr _ d hd
  have : u = v := by
    simp only [Array.toList_map, List.getElem?_map, Array.toList_range] at hv
    rw [List.getElem?_range hi] at hv
    simp only [Option.map_some, Option.some.injEq] at hv
    rw [← hv, hl']
    have hm : i % z.length < zc.size := by rw [hl']; exact Nat.mod_lt _ hz0
    have h1' : zc[i % z.length]? = some u := by simpa using h1
    rw [Array.getElem!_eq_getD, Array.getD_eq_getD_getElem?, h1']; rfl
  rw [← this]; exact h2

theorem Sim.newImmRow (hs : Sim w0 G M ρ h w) {cs : List D} {cells : Array Value} {sz n : Nat} (e : TypeId) (h0 : 0 < sz) (hn : n ≤ lim) (hl : cs.length = n * sz) (hr : relL M ρ cs cells.toList) (hf : cs.all D.flat = true) :
    MLe M (addM M w.heap.size 0 cells.toList) ∧ Sim w0 G (addM M w.heap.size 0 cells.toList) ρ h (w.alloc (.cells cells e)) ∧
      rel (addM M w.heap.size 0 cells.toList) ρ (.sl sz (chunks sz n cs) .full) (.slice (some ⟨w.heap.size, 0, none⟩) n n) := by
  have hm : ∀ o, M w.heap.size o = none := hs.none_at (Nat.le_refl _)
  have hi := hs.allocImm cells e cells.size
  rw [show cells.toList.take cells.size = cells.toList by rw [← Array.length_toList]; exact List.take_length] at hi
  refine ⟨addM_le fun o _ => hm o, hi, ?_⟩
  simp only [rel, chunks_length]
  exact ⟨h0, hn, w.heap.size, 0, n, slAt.mk _ _ _ _, Nat.le_refl _, relE_chunks hr hf hm hl, rfl⟩

theorem snd_buildSlice (hs : Sim w0 G M ρ h w) (hn : ρ nid = none) {mu : Bool} {t : TypeId} {n : Nat} {parts : Array (Nat × Operand)} {d : D} {h' : Heap} (ev : Operand → D) (cev : Operand → Value) (hp : ∀ p ∈ parts.toList, rel M ρ (ev p.2) (cev p.2))
    (hv : vbuildSlice P mu nid t n (parts.toList.map fun p => (p.1, ev p.2)) h = some (d, h')) : YV P w0 G M ρ nid w (Instr.buildSlice t n (parts.map fun p => (p.1, cev p.2))) d h' := by
  unfold vbuildSlice at hv
  split at hv
  · cases hv
  · rename_i e he
    split at hv
    · cases hv
    · rename_i z hz
      obtain ⟨i, zv, hi, hzv, hrz, hzrun⟩ := zeroT_some (P := P) (M := M) (ρ := ρ) (w := w) hz
      have hzc := rel_cells hrz
      simp only at hv
      split at hv
      · rename_i hc
        simp only [Bool.and_eq_true, decide_eq_true_eq] at hc
        obtain ⟨⟨⟨hzt, hzl⟩, hsz0⟩, hmax⟩ := hc
        have hzf := cells_flat hrz hzt
        split at hv
        · cases hv
        · rename_i cs hf
          have hrepl := relL_repl hzc n
          rw [hzl] at hrepl
          obtain ⟨cells', e1, ⟨e2, e2f⟩, e3⟩ := fill_rel _ ev cev parts.toList _ _ ((Array.range (n * szT P e)).map (zv.cells[· % zv.cells.size]!)) hp hrepl (flat_repl hzf n) hf
          have hsz' : cells'.size = n * szT P e := by rw [e3]; simp
          have hcs : cs.length = n * szT P e := by rw [← hsz', ← relL_length e2]; simp
          have hrun : (Instr.buildSlice t n (parts.map fun p => (p.1, cev p.2))).run P w = .ok (.slice (some ⟨w.heap.size, 0, none⟩) n n) (w.alloc (.cells cells' e)) := by
            have hbig : ¬ (n * szT P e > 2 ^ 24) := by omega
            unfold Instr.buildSlice
            simp only [Sem.run_bind, run_underlying (elemT_some he), Result.andThen_ok, run_sizeOf_ne (P := P) (w := w) (t := e) (by omega), hbig, if_false, Sem.run_pure, Array.toList_map]
            by_cases hz0 : n * szT P e = 0
            · have emp : ∀ f : Nat → Value, (Array.range 0).map f = #[] := fun f => by simp
              have e1' := e1
              rw [hz0, emp] at e1'
              simp only [hz0, if_true, Sem.run_pure, Sem.run_bind, Result.andThen_ok, emp, e1']
              simp [newRow]
            · simp only [hz0, if_false, Sem.run_bind, hzrun, Result.andThen_ok, Sem.run_pure, e1]
              simp [newRow]
          have hnl : n ≤ lim := by unfold lim; have : n * 1 ≤ n * szT P e := Nat.mul_le_mul_left _ hsz0; omega
          split at hv
          · cases hv
            have hrow := hs.newRow hn e (ds := cs) (c := cells') (by omega) (by rw [hcs, ← hsz', ← Array.length_toList, List.take_length]; exact e2) e2f
            refine ⟨_, _, M, _, hrun, MLe.refl _, updR_le hn, fun i hi => by simp [updR, ne_new hi], hrow, ?_⟩
            simp only [rel]
            exact ⟨hsz0, hnl, _, n, 0, by simp [updR]; rfl, rfl, ⟨Nat.le_refl _, by unfold maxLen; unfold lim at hnl; omega⟩, by simp [hsz'], .inr rfl⟩
          · cases hv
            obtain ⟨g1, g2, g3⟩ := hs.newImmRow e hsz0 hnl hcs e2 e2f
            exact ⟨_, _, _, ρ, hrun, g1, RLe.refl _, fun _ _ => rfl, g2, g3⟩
      · cases hv
end
end Go.V
namespace Go.V
open Go.RowKit (Below)
section
variable {P : Program} {w0 : Base} {G : List Nat} {M : Imm} {ρ : Ren} {h : Heap} {w : World} {nid : Nat}

theorem relC_append {xs ys : List D} {b p : Nat} (hx : relC M ρ xs b p) (hy : relC M ρ ys b (p + xs.length)) : relC M ρ (xs ++ ys) b p :=
  relC_of_get fun i d hi => by
    by_cases hl : i < xs.length
    · rw [List.getElem?_append_left hl] at hi; exact relC_get hx i d hi
    · rw [List.getElem?_append_right (by omega)] at hi
      obtain ⟨h0, v, h1, h2⟩ := relC_get hy _ d hi
      exact ⟨h0, v, by rw [← h1]; congr 1; omega, h2⟩

theorem relE_flatten {sz : Nat} : ∀ {xs : List (List D)} {b p : Nat}, relE M ρ sz xs b p → relC M ρ xs.flatten b p ∧ xs.flatten.length = xs.length * sz
  | [], _, _, _ => by simp [relC]
  | x :: xs, b, p, h => by
    simp only [relE] at h
    obtain ⟨h1, h2, h3⟩ := h
    obtain ⟨i1, i2⟩ := relE_flatten h3
    rw [List.flatten_cons]
    refine ⟨relC_append h2 (by rw [h1]; exact i1), ?_⟩
    rw [List.length_append, h1, i2, List.length_cons, Nat.add_mul, Nat.one_mul, Nat.add_comm]

/-- Later worlds in which every cell still holds what it held. -/
def Keeps (w w1 : World) : Prop := ∀ b o v, w.cell? ⟨b, o, none⟩ = some v → w1.cell? ⟨b, o, none⟩ = some v

theorem keeps_refl (w : World) : Keeps w w := fun _ _ _ h => h
theorem keeps_drew (w : World) : Keeps w w.drew := fun _ _ _ h => h

/-- What 'append' and 'copy' ask of the elements of a value. -/
def Els (P : Program) (M : Imm) (ρ : Ren) (w : World) (sz : Nat) (ys : List D) (m : Nat) (vs : List Value) (vx : Value) : Prop :=
  ys.length = m * sz ∧ m ≤ lim ∧ relL M ρ ys vs ∧ ys.all D.flat = true ∧ ∀ w1, Keeps w w1 → (Builtin.lenOf vx).run P w1 = .ok m w1 ∧ (Builtin.firstCells sz m vx).run P w1 = .ok vs.toArray w1

theorem Holds.firstCells {cs : List D} {b p off n : Nat} (hh : Holds M ρ w cs b p) (hl : off + n ≤ cs.length) : ∃ vs, relL M ρ ((cs.drop off).take n) vs ∧ ((cs.drop off).take n).all D.flat = true ∧ vs.length = n ∧ ∀ w1, Keeps w w1 → (Go.loadCells ⟨b, p + off, none⟩ n).run P w1 = .ok vs.toArray w1 := by
  obtain ⟨vs, h1, _, h3, h4, h5⟩ := hh.loadCells (P := P) hl
  refine ⟨vs, h3, h4, h1, fun w1 hk => ?_⟩
  have := run_loadCells_list (P := P) w1 ⟨b, p + off, none⟩ vs (fun j v hv => by rw [add_none]; exact hk _ _ _ (h5 j v hv))
  rw [h1] at this; exact this

theorem els_run (hs : Sim w0 G M ρ h w) {sz : Nat} (h0 : 0 < sz) {x : D} {vx : Value} (hx : rel M ρ x vx) {ys : List D} (hv : vels sz x h = some ys) : ∃ m vs, Els P M ρ w sz ys m vs vx := by
  unfold vels at hv
  split at hv
  · rename_i s xs tk
    split at hv
    · rename_i hsz; subst hsz
      cases hv
      simp only [rel] at hx
      obtain ⟨_, hlim, b, p, cap, ⟨sp, rfl, hsp⟩, hcap0, hE, _⟩ := hx
      obtain ⟨hC, hlen⟩ := relE_flatten hE
      rcases hsp with rfl | rfl
      case inr =>
        obtain rfl : xs = [] := List.eq_nil_of_length_eq_zero (by omega)
        exact ⟨0, [], by simp, by simp, by simp [relL], rfl, fun w1 _ => ⟨rfl, by simp [Builtin.firstCells, Go.loadCells, loadCellsFrom]⟩⟩
      obtain ⟨vs, g1, g2, g3, g4⟩ := (hs.holds hC).firstCells (P := P) (off := 0) (n := xs.length * s) (by omega)
      have ht : (xs.flatten.drop 0).take (xs.length * s) = xs.flatten := by rw [List.drop_zero, ← hlen, List.take_length]
      rw [ht] at g1 g2
      exact ⟨xs.length, vs, hlen, hlim, g1, g2, fun w1 hk => ⟨rfl, by simpa [Builtin.firstCells] using g4 w1 hk⟩⟩
    · cases hv
  · rename_i id s off n
    split at hv
    · rename_i hsz; subst hsz
      split at hv
      · rename_i cs hi
        split at hv
        · rename_i hle
          cases hv
          simp only [rel] at hx
          obtain ⟨_, hlim, l, cap, o, hl, rfl, hcap, _, ho⟩ := hx
          obtain ⟨vs, g1, g2, g3, g4⟩ := (hs.row hi hl).firstCells (P := P) hle
          refine ⟨n, vs, by simp; omega, hlim, g1, g2, fun w1 hk => ⟨rfl, ?_⟩⟩
          rcases Nat.eq_zero_or_pos n with hn | hn
          · subst hn
            simp at g3; subst g3
            simp [Builtin.firstCells, Go.loadCells, loadCellsFrom]
          · obtain rfl : o = off := by omega
            have := g4 w1 hk
            rw [Nat.zero_add] at this
            simpa [Builtin.firstCells] using this
        · cases hv
      · cases hv
    · cases hv
  · cases hv
    simp only [rel] at hx
    subst hx
    exact ⟨0, [], by simp, by simp, by simp [relL], rfl, fun w1 _ => ⟨rfl, rfl⟩⟩
  · rename_i s
    split at hv
    · rename_i hsz; subst hsz
      cases hv
      simp only [rel] at hx
      obtain ⟨b, rfl, rfl, hlim⟩ := hx
      have hsize : b.size = b.data.toList.length := by rw [Array.length_toList]; rfl
      refine ⟨b.size, b.data.toList.map fun c => .int .u8 c.toNat, by rw [List.length_map, Nat.mul_one, hsize], by omega, relL_of_get (by rw [List.length_map, List.length_map]) fun i d v hd hv => ?_, ?_, fun w1 _ => ⟨rfl, ?_⟩⟩
      · simp only [List.getElem?_map, Option.map_eq_some_iff] at hd hv
        obtain ⟨c, c1, rfl⟩ := hd
        obtain ⟨c', c2, rfl⟩ := hv
        rw [c1] at c2; cases c2
        refine rel_int ?_
        rw [fits_iff]; have := c.toNat_lt; simp [IntKind.min, IntKind.max, IntKind.signed, IntKind.bits]; omega
      · exact List.all_eq_true.2 fun d hd => by
          obtain ⟨c, _, rfl⟩ := List.mem_map.1 hd
          rfl
      · simp only [Builtin.firstCells, Sem.run_pure]
        congr 1
        have : b.extract 0 b.size = b := by simp [ByteArray.extract_zero_size]
        rw [this]
        apply Array.ext'
        simp
    · cases hv
  · cases hv

theorem zokT_some {e : TypeId} (hz : zokT P e = true) : ∃ i v, P.info? e = some i ∧ i.size = szT P e ∧ i.bytes = bytesT P e ∧ i.zero = some v ∧ v.cells.size = szT P e ∧ szT P e ≠ 0 := by
  unfold zokT at hz
  split at hz
  · rename_i z hz'
    simp only [Bool.and_eq_true, beq_iff_eq, bne_iff_ne, ne_eq] at hz
    obtain ⟨i, v, hi, hv, hr, _⟩ := zeroT_some (P := P) (M := fun _ _ => none) (ρ := fun _ => none) (w := default) hz'
    refine ⟨i, v, hi, by simp [szT, Program.cellsOf, hi], by simp [bytesT, Program.bytesOf, hi], hv, ?_, hz.2⟩
    have := relL_length (rel_cells hr)
    rw [← hz.1, ← this]; simp
  · cases hz

/-- 'append', in place. -/
theorem run_append_in (t u ty e : TypeId) (ht : P.underlying t = some (.slice e)) {ud : TypeDesc} (hu : P.underlying u = some ud) (hud : ∀ k, ud ≠ .int k) (hz : szT P e ≠ 0) (base : Option Addr) (n cap m : Nat) (vx : Value) (vs : List Value)
    (hl : (Builtin.lenOf vx).run P w = .ok m w) (hf : (Builtin.firstCells (szT P e) m vx).run P w = .ok vs.toArray w) (hfit : n + m ≤ cap) (w' : World)
    (hst : (match base with | some a => storeCells (a.add (n * szT P e)) vs | none => pure ()).run P w = .ok () w') :
    (Builtin.append_ #[t, u] ty #[.slice base n cap, vx]).run P w = .ok (.slice base (n + m) cap) w' := by
  cases base with
  | none =>
    simp only [Sem.run_pure] at hst
    cases hst
    simp [Builtin.append_, run_underlying ht, run_underlying hu, run_sizeOf_ne hz, hl, hf, hfit]
  | some a =>
    simp only at hst
    simp [Builtin.append_, run_underlying ht, run_underlying hu, run_sizeOf_ne hz, hl, hf, hfit, hst]

/-- 'append', into new memory. -/
theorem run_append_new (t u ty e : TypeId) (ht : P.underlying t = some (.slice e)) {ud : TypeDesc} (hu : P.underlying u = some ud) (hud : ∀ k, ud ≠ .int k) {i : TypeInfo} {z : Value} (hi : P.info? e = some i) (hz : i.zero = some z) (base : Option Addr) (n cap m : Nat) (vx : Value) (olds vs : List Value)
    (hl : (Builtin.lenOf vx).run P w = .ok m w) (hf : (Builtin.firstCells i.size m vx).run P w.drew = .ok vs.toArray w.drew) (ho : (Builtin.firstCells i.size n (.slice base n cap)).run P w.drew = .ok olds.toArray w.drew)
    (hg : cap < n + m) (hlim : n + m ≤ lim) (hb : (n + m) * i.bytes ≤ lim) :
    (Builtin.append_ #[t, u] ty #[.slice base n cap, vx]).run P w = .ok (.slice (some ⟨w.heap.size, 0, none⟩) (n + m) (grownCap w (n + m) cap e))
      (w.drew.alloc (.cells (olds.toArray ++ vs.toArray ++ Builtin.zeroCells z.cells (grownCap w (n + m) cap e - (n + m))) e)) := by
  have hn : ¬ (n + m ≤ cap) := by omega
  have h63' : ¬ (9223372036854775807 < ((n : Int) + (m : Int))) := by unfold lim at hlim; omega
  have hfit := growslice_fits (need := n + m) (old := cap) (bytes := i.bytes) hg hb
  have h48' : ¬ (281474976710656 < Builtin.nextslicecap (n + m) cap * i.bytes) := by omega
  have hse : (sizeOf e).run P w = .ok i.size w := by rw [run_sizeOf _ hi]; simp [Program.cellsOf, hi]
  simp [Builtin.append_, run_underlying ht, run_underlying hu, hse, typeInfo, zeroValue, hi, hz, hl, hn, h63', h48', Question.forced, hf, ho, newRow, grownCap]
  congr 2
  apply Array.ext'
  simp [List.append_assoc]

/-- A name for a block that no live name has. -/
theorem Sim.addObj (hs : Sim w0 G M ρ h w) (hn : ρ nid = none) (l : Loc) (ob : Obj) (hb : ¬ w0.keep l.blk) (hne : ∀ i ob' l', h.at' i = some ob' → ρ i = some l' → l'.blk ≠ l.blk) (ho : objRel M (updR ρ nid l) w l ob) :
    Sim w0 G M (updR ρ nid l) (h.new nid ob) w := by
  have hle := updR_le (l := l) hn
  have key : ∀ k ok, h.at' k = some ok → k ≠ nid ∧ ∃ lk, ρ k = some lk := fun k ok e => by
    obtain ⟨lk, h1, _⟩ := hs.live k ok e
    exact ⟨fun hk => (by rw [hk, hn] at h1; cases h1), lk, h1⟩
  refine { below := hs.below, imm := hs.imm, live := fun i ob' e => ?_, apart := fun i j oi oj li lj ei ej ri rj hij => ?_, gdef := hs.gdef, old := hs.old }
  · simp only [Heap.new] at e
    split at e
    · rename_i hi; subst hi; cases e; exact ⟨l, by simp [updR], hb, ho⟩
    · obtain ⟨l', h1, h2, h3⟩ := hs.live i ob' e
      exact ⟨l', hle _ _ h1, h2, objRel_mono (MLe.refl _) hle (fun _ h => h) h3⟩
  · simp only [Heap.new] at ei ej
    by_cases hi : i = nid <;> by_cases hj : j = nid
    · rw [hi, hj]
    · exfalso
      simp only [hj, if_false] at ej
      simp only [updR, hi, if_true] at ri; cases ri
      simp only [updR, hj, if_false] at rj
      exact hne j oj lj ej rj hij.symm
    · exfalso
      simp only [hi, if_false] at ei
      simp only [updR, hj, if_true] at rj; cases rj
      simp only [updR, hi, if_false] at ri
      exact hne i oi li ei ri hij
    · simp only [hi, if_false] at ei
      simp only [hj, if_false] at ej
      simp only [updR, hi, if_false] at ri
      simp only [updR, hj, if_false] at rj
      exact hs.apart i j oi oj li lj ei ej ri rj hij

theorem Sim.old_blk (hs : Sim w0 G M ρ h w) {i : Nat} {ob : Obj} {l : Loc} (hi : h.at' i = some ob) (hl : ρ i = some l) : l.blk < w.heap.size := by
  obtain ⟨l', h1, _, h3⟩ := hs.live i ob hi
  rw [hl] at h1; cases h1
  exact objRel_lt h3

theorem relL_append {as bs : List D} {xs ys : List Value} (ha : relL M ρ as xs) (hb : relL M ρ bs ys) : relL M ρ (as ++ bs) (xs ++ ys) := by
  have h1 := relL_length ha
  have h2 := relL_length hb
  refine relL_of_get (by simp [h1, h2]) fun i d v hd hv => ?_
  by_cases hi : i < as.length
  · rw [List.getElem?_append_left hi] at hd
    rw [List.getElem?_append_left (by omega)] at hv
    obtain ⟨u, e1, e2⟩ := relL_get ha i d hd
    rw [e1] at hv; cases hv; exact e2
  · rw [List.getElem?_append_right (by omega)] at hd
    rw [List.getElem?_append_right (by omega), h1] at hv
    obtain ⟨u, e1, e2⟩ := relL_get hb _ d hd
    rw [e1] at hv; cases hv; exact e2

theorem chunks_append (sz : Nat) : ∀ (xs : List (List D)) (ys : List D) (m : Nat), (∀ x ∈ xs, x.length = sz) → chunks sz (xs.length + m) (xs.flatten ++ ys) = xs ++ chunks sz m ys
  | [], ys, m, _ => by simp
  | x :: xs, ys, m, h => by
    have hx := h x (by simp)
    rw [List.length_cons, show xs.length + 1 + m = (xs.length + m) + 1 by omega]
    simp only [chunks, List.flatten_cons, List.append_assoc, List.cons_append]
    rw [List.take_append_of_le_length (by omega), List.take_of_length_le (by omega), List.drop_append_of_le_length (by omega), List.drop_of_length_le (by omega), List.nil_append, chunks_append sz xs ys m fun y hy => h y (by simp [hy])]

theorem relE_lengths {sz : Nat} {xs : List (List D)} {b p : Nat} (hE : relE M ρ sz xs b p) : ∀ x ∈ xs, x.length = sz := fun x hx => by
  obtain ⟨i, hi⟩ := List.mem_iff_getElem?.1 hx
  exact (relE_get hE i x hi).1

/-- New memory for a slice that can be appended to. -/
theorem Sim.growTok (hs : Sim w0 G M ρ h w) (hn : ρ nid = none) {ys : List D} {vs : List Value} (c : Array Value) (e : TypeId) {sz n cap : Nat} (h0 : 0 < sz) (hl : ys.length = n * sz) (hr : relL M ρ ys vs) (hf : ys.all D.flat = true)
    (hc : c.toList.take vs.length = vs) (hcs : c.size = cap * sz) (hnc : n ≤ cap) (hlim : n ≤ lim) (hcp : 0 < cap) :
    ∃ M' ρ', MLe M M' ∧ RLe ρ ρ' ∧ (∀ i, i ≠ nid → ρ' i = ρ i) ∧ Sim w0 G M' ρ' (h.new nid .tok) (w.alloc (.cells c e)) ∧ rel M' ρ' (.sl sz (chunks sz n ys) (.own nid)) (.slice (some ⟨w.heap.size, 0, none⟩) n cap) := by
  have hm : ∀ o, M w.heap.size o = none := hs.none_at (Nat.le_refl _)
  have h1 := hs.allocImm c e vs.length
  rw [hc] at h1
  have hvl : vs.length = n * sz := by rw [relL_length hr, hl]
  have hle : n * sz ≤ cap * sz := Nat.mul_le_mul_right _ hnc
  refine ⟨addM M w.heap.size 0 vs, updR ρ nid ⟨w.heap.size, n * sz, c.size⟩, addM_le fun o _ => hm o, updR_le hn, fun i hi => by simp [updR, hi], ?_, ?_⟩
  · refine h1.addObj hn _ .tok (hs.nokeep (Nat.le_refl _)) (fun i ob' l' e1 e2 => ?_) ⟨fun o ho => ?_, by simp; omega, c, e, ?_, rfl⟩
    · have := hs.old_blk e1 e2; simp; omega
    · simp only at ho ⊢
      unfold addM
      rw [if_neg (by omega)]; exact hm o
    · show (w.heap.push _)[w.heap.size]? = _
      simp
  · simp only [rel, chunks_length]
    exact ⟨h0, hlim, w.heap.size, 0, cap, slAt.mk _ _ _ _, hnc, relE_mono (MLe.refl _) (updR_le hn) _ _ _ _ (relE_chunks hr hf hm hl), _, by simp [updR]; rfl, rfl, by simp, by simp; omega, hcp⟩

/-- Writing behind the end of a slice whose name is used up. -/
theorem Sim.behind (hs : Sim w0 G M ρ h w) {i : Nat} {l : Loc} (hi : h.at' i = some .tok) (hl : ρ i = some l) {vs : List Value} {c : Array Value} {e : TypeId} (hw : w.heap[l.blk]? = some (.cells c e (0, 0))) (hfit : l.endd + vs.length ≤ c.size) (c' : Array Value)
    (hc' : c'.toList = c.toList.take l.endd ++ vs ++ c.toList.drop (l.endd + vs.length)) : MLe M (addM M l.blk l.endd vs) ∧ Sim w0 G (addM M l.blk l.endd vs) ρ (h.del i) (w.setRow l.blk c') := by
  obtain ⟨l', h1, hb, hM, hend, c0, e0, h3, h4⟩ := hs.live i _ hi
  rw [hl] at h1; cases h1
  rw [hw] at h3; cases h3
  have hle : MLe M (addM M l.blk l.endd vs) := addM_le fun o ho => hM o ho
  have hcell : ∀ o : Nat, (w.setRow l.blk c').cell? ⟨l.blk, o, none⟩ = c'.toList[o]? := fun o => by
    rw [cell_setRow_same w l.blk o c c' e (0, 0) hw]; simp
  have hne : ∀ j oj lj, (h.del i).at' j = some oj → ρ j = some lj → lj.blk ≠ l.blk := fun j oj lj e1 e2 hb' => by
    simp only [Heap.del] at e1
    split at e1
    · cases e1
    · rename_i hj; exact hj (hs.apart j i oj .tok lj l e1 hi e2 hl hb')
  have hd := hs.del i
  refine ⟨hle, { below := ?_, imm := fun b o v e' => ?_, live := fun j oj e' => ?_, apart := hd.apart, gdef := fun b hb' => ?_, old := old_add hs.old hb }⟩
  · exact ⟨hs.below.os, hs.below.tape, hs.below.output, by rw [setRow_size]; exact hs.below.size, fun k hk => by
      have hne' : k ≠ l.blk := fun e => hb (by rw [← e]; exact hk)
      rw [setRow_other w _ _ _ hne']; exact hs.below.block k hk⟩
  · unfold addM at e'
    split at e'
    · rename_i hc
      obtain ⟨rfl, h5, h6⟩ := hc
      rw [hcell, hc', splice_get _ _ _ (by simpa using hfit), if_neg (by omega), if_pos h6]
      exact e'
    · rename_i hc
      by_cases hbl : b = l.blk
      · subst hbl
        have h7 : o < l.endd := by
          rcases Nat.lt_or_ge o l.endd with h8 | h8
          · exact h8
          · rw [hM o h8] at e'; cases e'
        rw [hcell, hc', splice_get _ _ _ (by simpa using hfit), if_pos h7]
        have := hs.imm _ _ _ e'
        simp only [World.cell?, hw, Option.isSome_none, Bool.false_eq_true, if_false] at this
        simpa using this
      · rw [cell_setRow_other w _ _ _ hbl]; exact hs.imm _ _ _ e'
  · obtain ⟨lj, g1, g2, g3⟩ := hd.live j oj e'
    have hnb := hne j oj lj e' g1
    refine ⟨lj, g1, g2, objRel_mono hle (RLe.refl _) (fun o ho => ?_) (objRel_congr (setRow_other w _ _ _ hnb) g3)⟩
    unfold addM; rw [if_neg (by omega)]; exact ho
  · obtain ⟨g1, g2⟩ := hs.gdef b hb'
    refine ⟨g1, ?_⟩
    rw [setRow_other w _ _ _ (fun hq => by subst hq; rw [hw] at g2; cases g2)]
    exact g2

theorem new_at (h : Heap) (i : Nat) (o : Obj) : (h.new i o).at' i = some o := by simp [Heap.new]

theorem rowObj_cases (P : Program) (e : TypeId) (cs : List D) : rowObj P e cs = .row cs ∨ rowObj P e cs = .trow e false cs := by
  unfold rowObj
  split
  · split
    · exact .inr rfl
    · exact .inl rfl
  · exact .inl rfl

theorem snd_append (hs : Sim w0 G M ρ h w) (hn : ρ nid = none) {mu : Bool} {t u ty : TypeId} {s x d : D} {vs' vx : Value} {h' : Heap} {ud : TypeDesc} (hu : P.underlying u = some ud) (hud : ∀ k, ud ≠ .int k) (hsv : rel M ρ s vs') (hx : rel M ρ x vx)
    (hv : vappend P mu nid t s x h = some (d, h')) : YV P w0 G M ρ nid w (Builtin.append_ #[t, u] ty #[vs', vx]) d h' := by
  unfold vappend at hv
  split at hv
  · cases hv
  · rename_i e he
    have ht := elemT_some he
    split at hv
    · rename_i hz
      obtain ⟨i, zv, hi, hisz, hib, hiz, hzl, hsz⟩ := zokT_some hz
      generalize hS : szT P e = sz at *
      split at hv
      · cases hv
      · rename_i ys hys
        have h0 : 0 < sz := by omega
        obtain ⟨m, vs, hym, hml, hyr, hyf, hrun⟩ := els_run (P := P) hs h0 hx hys
        have hdiv : ys.length / sz = m := by rw [hym]; exact Nat.mul_div_cancel _ h0
        rw [hdiv] at hv
        obtain ⟨hr1, hr2⟩ := hrun w (keeps_refl w)
        obtain ⟨_, hr3⟩ := hrun w.drew (keeps_drew w)
        have hvl : vs.length = m * sz := by rw [relL_length hyr, hym]
        have hone := flats_oneCell hyr hyf
        -- into new memory
        have grow : ∀ (base : Option Addr) (n cap : Nat) (olds : List Value) (os : List D), vs' = .slice base n cap → cap < n + m → n + m ≤ lim → (n + m) * bytesT P e ≤ lim →
            (Builtin.firstCells sz n (.slice base n cap)).run P w.drew = .ok olds.toArray w.drew → relL M ρ os olds → os.all D.flat = true → os.length = n * sz →
            ∃ c cap', (n + m ≤ cap' ∧ cap' ≤ maxLen) ∧ c.size = cap' * sz ∧ c.toList.take (olds ++ vs).length = olds ++ vs ∧
              (Builtin.append_ #[t, u] ty #[vs', vx]).run P w = .ok (.slice (some ⟨w.heap.size, 0, none⟩) (n + m) cap') (w.drew.alloc (.cells c e)) := by
          intro base n cap olds os hb hcap hl1 hl2 ho hor hof hol
          subst hb
          have hlo : olds.length = n * sz := by rw [relL_length hor, hol]
          have hnew := run_append_new (P := P) (w := w) t u ty e ht hu hud hi hiz base n cap m vx olds vs hr1 (by rw [hisz]; exact hr3) (by rw [hisz]; exact ho) hcap hl1 (by rw [hib]; exact hl2)
          have hge := grownCap_ge w (n + m) cap e
          refine ⟨_, _, ⟨hge, grownCap_le_maxLen w (n + m) cap e (by unfold maxLen; unfold lim at hl1; omega)⟩, ?_, ?_, hnew⟩
          · simp only [Array.size_append, List.size_toArray, size_zeroCells, hzl]
            rw [hlo, hvl, ← Nat.add_mul, ← Nat.add_mul]; congr 1; omega
          · rw [show (olds.toArray ++ vs.toArray ++ Builtin.zeroCells zv.cells (grownCap w (n + m) cap e - (n + m))).toList = (olds ++ vs) ++ (Builtin.zeroCells zv.cells (grownCap w (n + m) cap e - (n + m))).toList by simp [List.append_assoc]]
            exact List.take_left' rfl
        have growI : ∀ (base : Option Addr) (n cap : Nat) (olds : List Value) (os : List D) (hh : Heap), Sim w0 G M ρ hh w → vs' = .slice base n cap → cap < n + m → n + m ≤ lim → (n + m) * bytesT P e ≤ lim →
            (Builtin.firstCells sz n (.slice base n cap)).run P w.drew = .ok olds.toArray w.drew → relL M ρ os olds → os.all D.flat = true → os.length = n * sz →
            YV P w0 G M ρ nid w (Builtin.append_ #[t, u] ty #[vs', vx]) (.sl sz (chunks sz (n + m) (os ++ ys)) (.own nid)) (hh.new nid .tok) := by
          intro base n cap olds os hh hsh hb hcap hl1 hl2 ho hor hof hol
          obtain ⟨c, cap', g1, g2, g3, g4⟩ := grow base n cap olds os hb hcap hl1 hl2 ho hor hof hol
          obtain ⟨M', ρ', k1, k2, k3, k4, k5⟩ := hsh.drew.growTok hn (ys := os ++ ys) (vs := olds ++ vs) c e (sz := sz) (n := n + m) (cap := cap') h0 (by rw [List.length_append, hol, hym, Nat.add_mul]) (relL_append hor hyr) (by rw [List.all_append, hof, hyf]; rfl) g3 g2 g1.1 hl1 (by omega)
          exact ⟨_, _, M', ρ', g4, k1, k2, fun i hi => k3 i (ne_new hi), k4, k5⟩
        have growR : ∀ (base : Option Addr) (n cap : Nat) (olds : List Value) (os : List D) (hh : Heap), Sim w0 G M ρ hh w → vs' = .slice base n cap → cap < n + m → n + m ≤ lim → (n + m) * bytesT P e ≤ lim →
            (Builtin.firstCells sz n (.slice base n cap)).run P w.drew = .ok olds.toArray w.drew → relL M ρ os olds → os.all D.flat = true → os.length = n * sz →
            YV P w0 G M ρ nid w (Builtin.append_ #[t, u] ty #[vs', vx]) (.rs nid sz 0 (n + m)) (hh.new nid (.row (os ++ ys))) := by
          intro base n cap olds os hh hsh hb hcap hl1 hl2 ho hor hof hol
          obtain ⟨c, cap', g1, g2, g3, g4⟩ := grow base n cap olds os hb hcap hl1 hl2 ho hor hof hol
          have hlen : (os ++ ys).length = (olds ++ vs).length := by rw [← relL_length (relL_append hor hyr)]
          have hle : (os ++ ys).length ≤ c.size := by
            rw [g2, List.length_append, hol, hym, ← Nat.add_mul]; exact Nat.mul_le_mul_right _ g1.1
          have hrow := hsh.drew.newRow hn e (ds := os ++ ys) (c := c) hle (by rw [hlen, g3]; exact relL_append hor hyr) (by rw [List.all_append, hof, hyf]; rfl)
          refine ⟨_, _, M, _, g4, MLe.refl _, updR_le hn, fun i hi => by simp [updR, ne_new hi], hrow, ?_⟩
          simp only [rel]
          exact ⟨h0, hl1, _, cap', 0, by simp [updR]; rfl, rfl, g1, by simp; omega, .inr rfl⟩
        have growT : ∀ (base : Option Addr) (n cap : Nat) (olds : List Value) (os : List D) (hh : Heap), Sim w0 G M ρ hh w → vs' = .slice base n cap → cap < n + m → n + m ≤ lim → (n + m) * bytesT P e ≤ lim →
            (Builtin.firstCells sz n (.slice base n cap)).run P w.drew = .ok olds.toArray w.drew → relL M ρ os olds → os.all D.flat = true → os.length = n * sz →
            YV P w0 G M ρ nid w (Builtin.append_ #[t, u] ty #[vs', vx]) (.rs nid sz 0 (n + m)) (hh.new nid (.trow e false (os ++ ys))) := by
          intro base n cap olds os hh hsh hb hcap hl1 hl2 ho hor hof hol
          obtain ⟨c, cap', g1, g2, g3, g4⟩ := grow base n cap olds os hb hcap hl1 hl2 ho hor hof hol
          have hlen : (os ++ ys).length = (olds ++ vs).length := by rw [← relL_length (relL_append hor hyr)]
          have hle : (os ++ ys).length ≤ c.size := by
            rw [g2, List.length_append, hol, hym, ← Nat.add_mul]; exact Nat.mul_le_mul_right _ g1.1
          have hrow := hsh.drew.newTRow hn e false (ds := os ++ ys) (c := c) hle (fun q => by cases q) (by rw [hlen, g3]; exact relL_append hor hyr) (by rw [List.all_append, hof, hyf]; rfl)
          refine ⟨_, _, M, _, g4, MLe.refl _, updR_le hn, fun i hi => by simp [updR, ne_new hi], hrow, ?_⟩
          simp only [rel]
          exact ⟨h0, hl1, _, cap', 0, by simp [updR]; rfl, rfl, g1, by simp; omega, .inr rfl⟩
        have growO : ∀ (base : Option Addr) (n cap : Nat) (olds : List Value) (os : List D) (hh : Heap), Sim w0 G M ρ hh w → vs' = .slice base n cap → cap < n + m → n + m ≤ lim → (n + m) * bytesT P e ≤ lim →
            (Builtin.firstCells sz n (.slice base n cap)).run P w.drew = .ok olds.toArray w.drew → relL M ρ os olds → os.all D.flat = true → os.length = n * sz →
            YV P w0 G M ρ nid w (Builtin.append_ #[t, u] ty #[vs', vx]) (.rs nid sz 0 (n + m)) (hh.new nid (rowObj P e (os ++ ys))) := by
          intro base n cap olds os hh a1 a2 a3 a4 a5 a6 a7 a8 a9
          rcases rowObj_cases P e (os ++ ys) with q | q
          · rw [q]; exact growR base n cap olds os hh a1 a2 a3 a4 a5 a6 a7 a8 a9
          · rw [q]; exact growT base n cap olds os hh a1 a2 a3 a4 a5 a6 a7 a8 a9
        unfold vappendE at hv
        split at hv
        · -- nil
          simp only [rel] at hsv
          subst hsv
          split at hv
          · rename_i hm0
            cases hv
            subst hm0
            have := run_append_in (P := P) (w := w) t u ty e ht hu hud (by omega) none 0 0 0 vx vs hr1 (by rw [hS]; exact hr2) (Nat.le_refl _) w rfl
            exact .pure hs this (by simp only [rel])
          · rename_i hm0
            split at hv
            · rename_i hc
              simp only [Bool.and_eq_true, decide_eq_true_eq] at hc
              split at hv
              · cases hv
                have := growO none 0 0 [] [] h hs rfl (by omega) (by omega) (by rw [Nat.zero_add]; exact hc.1) rfl (by simp [relL]) rfl (by simp)
                simpa using this
              · cases hv
                have := growI none 0 0 [] [] h hs rfl (by omega) (by omega) (by rw [Nat.zero_add]; exact hc.1) rfl (by simp [relL]) rfl (by simp)
                simpa using this
            · cases hv
        · -- a slice that does not change
          rename_i sz' xs tk
          split at hv
          · rename_i hc
            simp only [Bool.and_eq_true, decide_eq_true_eq] at hc
            obtain ⟨⟨hsz', hc1⟩, hc2⟩ := hc
            subst hsz'
            have hsv' := hsv
            simp only [rel] at hsv
            obtain ⟨_, hxl, b, p, cap, ⟨sp, rfl, hsp⟩, hcap, hE, htk⟩ := hsv
            obtain ⟨hC, hfl⟩ := relE_flatten hE
            obtain ⟨olds, o1, o2, o3, o4⟩ := (hs.holds hC).firstCells (P := P) (off := 0) (n := xs.length * sz') (by omega)
            have htt : (xs.flatten.drop 0).take (xs.length * sz') = xs.flatten := by rw [List.drop_zero, ← hfl, List.take_length]
            rw [htt] at o1 o2
            have ho : (Builtin.firstCells sz' xs.length (.slice (some ⟨b, p, sp⟩) xs.length cap)).run P w.drew = .ok olds.toArray w.drew := by
              rcases hsp with rfl | rfl
              · simpa [Builtin.firstCells] using o4 w.drew (keeps_drew w)
              · obtain rfl : xs = [] := List.eq_nil_of_length_eq_zero (by omega)
                have : olds = [] := by apply List.eq_nil_of_length_eq_zero; simpa using o3
                subst this
                simp [Builtin.firstCells, Go.loadCells, loadCellsFrom]
            have hch := chunks_append sz' xs ys m (relE_lengths hE)
            split at hv
            · cases hv
            · simp only at htk
              subst htk
              split at hv
              · rename_i hm0
                cases hv
                subst hm0
                have hvs : vs = [] := by apply List.eq_nil_of_length_eq_zero; omega
                have := run_append_in (P := P) (w := w) t u ty e ht hu hud (by omega) (some ⟨b, p, sp⟩) xs.length xs.length 0 vx vs hr1 (by rw [hS]; exact hr2) (by omega) w (by subst hvs; rfl)
                exact .pure hs this (by simpa using hsv')
              · rename_i hm0
                split at hv
                · cases hv
                  exact growO _ xs.length xs.length olds xs.flatten h hs rfl (by omega) hc2 hc1 ho o1 o2 hfl
                · cases hv
                  rw [← hch]
                  exact growI _ xs.length xs.length olds xs.flatten h hs rfl (by omega) hc2 hc1 ho o1 o2 hfl
            · rename_i ti
              obtain ⟨l, hl, hlb, hle, hls, hcp⟩ := htk
              obtain rfl : sp = none := hsp.resolve_right (by omega)
              split at hv
              · rename_i htok
                split at hv
                · cases hv
                · cases hv
                  rw [← hch]
                  by_cases hroom : xs.length + m ≤ cap
                  · obtain ⟨l', g1, g2, hM, hend, c, e0, hw, hcs⟩ := hs.live ti _ htok
                    rw [hl] at g1; cases g1
                    have hcap2 : (xs.length + m) * sz' ≤ cap * sz' := Nat.mul_le_mul_right _ hroom
                    have hfit : l.endd + vs.length ≤ c.size := by rw [hle, hvl, ← hcs, Nat.add_assoc, ← Nat.add_mul]; omega
                    have hst := run_storeCells_at P l.blk l.endd e0 vs 0 c w hw (by omega) hone
                    rw [Nat.add_zero] at hst
                    obtain ⟨k1, k2⟩ := hs.behind htok hl hw hfit (c.toList.take l.endd ++ vs ++ c.toList.drop (l.endd + vs.length)).toArray (by simp)
                    have hrun' := run_append_in (P := P) (w := w) t u ty e ht hu hud (by omega) (some ⟨b, p, none⟩) xs.length cap m vx vs hr1 (by rw [hS]; exact hr2) hroom _ (by
                      simp only [add_none, hS]; rw [← hlb, ← hle]; exact hst)
                    have hsz2 : (c.toList.take l.endd ++ vs ++ c.toList.drop (l.endd + vs.length)).length = c.size := by simp; omega
                    have k3 := k2.addObj (nid := nid) hn ⟨l.blk, l.endd + vs.length, l.size⟩ .tok g2 (fun j oj lj e1 e2 hb' => by
                        simp only [Heap.del] at e1
                        split at e1
                        · cases e1
                        · rename_i hj; exact hj (hs.apart j ti oj .tok lj l e1 htok e2 hl hb'))
                      ⟨fun o ho' => by
                          simp only at ho' ⊢
                          unfold addM; rw [if_neg (by omega)]; exact hM o (by omega), by simp; omega, _, e0, setRow_heap w l.blk c _ e0 (0, 0) hw, by simp only [List.size_toArray]; rw [hsz2, hcs]⟩
                    refine ⟨_, _, _, _, hrun', k1, updR_le hn, fun i hi => by simp [updR, ne_new hi], k3, ?_⟩
                    simp only [rel, hch, List.length_append, chunks_length]
                    refine ⟨h0, hc2, b, p, cap, slAt.mk _ _ _ _, hroom, ?_, (⟨l.blk, l.endd + vs.length, l.size⟩ : Loc), by simp [updR], hlb, by simp only; rw [hle, hvl, Nat.add_assoc, ← Nat.add_mul], by simpa using hls, hcp⟩
                    have hC2 : relC (addM M l.blk l.endd vs) (updR ρ nid ⟨l.blk, l.endd + vs.length, l.size⟩) (xs.flatten ++ ys) b p := by
                      refine relC_append (relC_mono k1 (updR_le hn) _ _ _ hC) (relC_of_get fun i d hi => ?_)
                      obtain ⟨v, e1, e2⟩ := relL_get hyr i d hi
                      refine ⟨List.all_eq_true.1 hyf d (List.mem_of_getElem? hi), v, ?_, rel_mono k1 (updR_le hn) _ _ e2⟩
                      rw [hfl, ← hle, ← hlb]
                      exact addM_get e1
                    rw [← hch]
                    refine relE_of_get fun i x' hx' => ?_
                    have hi : i < xs.length + m := by rw [← chunks_length sz' (xs.length + m) (xs.flatten ++ ys)]; exact (List.getElem?_eq_some_iff.1 hx').1
                    rw [chunks_get _ _ _ _ hi] at hx'
                    cases hx'
                    have hlt : i * sz' + sz' ≤ (xs.length + m) * sz' := by rw [← Nat.succ_mul]; exact Nat.mul_le_mul_right _ hi
                    have hfl2 : (xs.flatten ++ ys).length = (xs.length + m) * sz' := by rw [List.length_append, hfl, hym, Nat.add_mul]
                    refine ⟨by simp only [List.length_take, List.length_drop]; omega, relC_of_get fun j d hd => ?_⟩
                    simp only [List.getElem?_take, List.getElem?_drop] at hd
                    split at hd
                    · obtain ⟨q0, v, q1, q2⟩ := relC_get hC2 _ d hd
                      exact ⟨q0, v, by rw [← q1]; congr 1; omega, q2⟩
                    · cases hd
                  · exact growI _ xs.length cap olds xs.flatten (h.del ti) (hs.del ti) rfl (by omega) hc2 hc1 ho o1 o2 hfl
              · cases hv
          · cases hv
        · -- a slice that may change
          rename_i id sz' off n
          split at hv
          · rename_i hc
            simp only [Bool.and_eq_true, decide_eq_true_eq] at hc
            obtain ⟨⟨⟨⟨hmu, hsz'⟩, hoff⟩, hc1⟩, hc2⟩ := hc
            subst hsz' hoff
            split at hv
            · rename_i cs hrow
              split at hv
              · rename_i hcl
                cases hv
                simp only [rel] at hsv
                obtain ⟨_, hxl, l, cap, o, hl, rfl, hcap, hlsz, ho0⟩ := hsv
                obtain ⟨l', g1, g2, hM, c, e0, hw, hcs, hlen, hcells⟩ := hs.live id _ hrow
                rw [hl] at g1; cases g1
                have hcsf : cs.all D.flat = true := List.all_eq_true.2 fun q hq => by
                  obtain ⟨j, hj⟩ := List.mem_iff_getElem?.1 hq
                  exact (hcells j q hj).1
                by_cases hroom : n + m ≤ cap
                · have hcap2 : (n + m) * sz' ≤ cap * sz' := Nat.mul_le_mul_right _ hroom
                  have hfit : n * sz' + vs.length ≤ c.size := by rw [hvl, ← Nat.add_mul, ← hcs]; omega
                  have hst : (storeCells ((⟨l.blk, o, none⟩ : Addr).add (n * sz')) vs).run P w = .ok () (w.setRow l.blk (c.toList.take (n * sz') ++ vs ++ c.toList.drop (n * sz' + vs.length)).toArray) := by
                    rcases ho0 with hc0 | ho0
                    · have hvs : vs = [] := by
                        apply List.eq_nil_of_length_eq_zero
                        rw [hvl, show m = 0 by omega, Nat.zero_mul]
                      subst hvs
                      have hcc : (c.toList.take (n * sz') ++ ([] : List Value) ++ c.toList.drop (n * sz' + ([] : List Value).length)).toArray = c := by simp
                      rw [hcc, setRow_self w l.blk c e0 (0, 0) hw]
                      rfl
                    · subst ho0
                      have := run_storeCells_at P l.blk (n * sz') e0 vs 0 c w hw (by omega) hone
                      rw [add_none, Nat.zero_add]
                      simpa using this
                  have hrun' := run_append_in (P := P) (w := w) t u ty e ht hu hud (by omega) (some ⟨l.blk, o, none⟩) n cap m vx vs hr1 (by rw [hS]; exact hr2) hroom _ (by simp only [hS]; exact hst)
                  have hsz2 : (c.toList.take (n * sz') ++ vs ++ c.toList.drop (n * sz' + vs.length)).length = c.size := by simp; omega
                  have hrel : relL M ρ (cs ++ ys) ((c.toList.take (n * sz') ++ vs ++ c.toList.drop (n * sz' + vs.length)).take (cs ++ ys).length) := by
                    have hl2 : (cs ++ ys).length = n * sz' + vs.length := by rw [List.length_append, hcl, hvl, hym]
                    rw [hl2, List.take_left' (by simp; omega)]
                    refine relL_append (relL_of_get (by simp; omega) fun j q v h1 h2 => ?_) hyr
                    obtain ⟨_, u', e1, e2⟩ := hcells j q h1
                    have hlt : j < n * sz' := by rw [← hcl]; exact (List.getElem?_eq_some_iff.1 h1).1
                    rw [List.getElem?_take, if_pos hlt] at h2
                    have : some v = some u' := by rw [← h2, ← e1]; simp
                    cases this; exact e2
                  have hle2 : (cs ++ ys).length ≤ (c.toList.take (n * sz') ++ vs ++ c.toList.drop (n * sz' + vs.length)).toArray.size := by
                    simp only [List.size_toArray]; rw [hsz2, List.length_append, hcl, hym, ← Nat.add_mul]; omega
                  have hflat : (cs ++ ys).all D.flat = true := by rw [List.all_append, hcsf, hyf]; rfl
                  have k1 := hs.setRow hrow hl hw (c' := (c.toList.take (n * sz') ++ vs ++ c.toList.drop (n * sz' + vs.length)).toArray) (by simp only [List.size_toArray]; exact hsz2) hle2 hrel hflat
                  have k2 := (k1.del id).addObj (nid := nid) hn l (.row (cs ++ ys)) g2 (fun j oj lj e1 e2 hb' => by
                      simp only [Heap.del, Heap.set] at e1
                      split at e1
                      · cases e1
                      · rename_i hj
                        exact hj (hs.apart j id oj (.row cs) lj l e1 hrow e2 hl hb'))
                    (objRel_row hM (setRow_heap w l.blk c _ e0 (0, 0) hw) (by simp only [List.size_toArray]; rw [hsz2, hcs]) hle2 (relL_mono (MLe.refl _) (updR_le hn) _ _ hrel) hflat)
                  refine ⟨_, _, M, _, hrun', MLe.refl _, updR_le hn, fun j hj => by simp [updR, ne_new hj], k2.less (fun j oj e1 => ?_), ?_⟩
                  · simp only [Heap.new, Heap.del, Heap.set] at e1 ⊢
                    by_cases hj : j = nid
                    · rw [if_pos hj] at e1 ⊢; exact e1
                    · rw [if_neg hj] at e1 ⊢
                      by_cases hj2 : j = id
                      · rw [if_pos hj2] at e1; cases e1
                      · rw [if_neg hj2] at e1 ⊢; rw [if_neg hj2]; exact e1
                  · simp only [rel]
                    exact ⟨h0, hc2, l, cap, o, by simp [updR], rfl, ⟨hroom, hcap.2⟩, hlsz, ho0⟩
                · obtain ⟨olds, o1, o2, o3, o4⟩ := (hs.row hrow hl).firstCells (P := P) (off := 0) (n := n * sz') (by omega)
                  have htt : (cs.drop 0).take (n * sz') = cs := by rw [List.drop_zero, ← hcl, List.take_length]
                  rw [htt] at o1 o2
                  have ho : (Builtin.firstCells sz' n (.slice (some ⟨l.blk, o, none⟩) n cap)).run P w.drew = .ok olds.toArray w.drew := by
                    rcases ho0 with hc0 | ho0
                    · have hn0 : n = 0 := by omega
                      subst hn0
                      have : olds = [] := by apply List.eq_nil_of_length_eq_zero; omega
                      subst this
                      simp [Builtin.firstCells, Go.loadCells, loadCellsFrom]
                    · subst ho0
                      have := o4 w.drew (keeps_drew w)
                      simpa [Builtin.firstCells] using this
                  exact growR _ n cap olds cs (h.del id) (hs.del id) rfl (by omega) hc2 hc1 ho o1 o2 hcl
              · cases hv
            · rename_i e2 full cs hrow
              split at hv
              · cases hv
              split at hv
              · rename_i hcl0
                simp only [Bool.and_eq_true, decide_eq_true_eq] at hcl0
                obtain ⟨he2, hcl⟩ := hcl0
                obtain rfl : e = e2 := he2.symm
                cases hv
                simp only [rel] at hsv
                obtain ⟨_, hxl, l, cap, o, hl, rfl, hcap, hlsz, ho0⟩ := hsv
                obtain ⟨l', g1, g2, hM, c, e0, hw, hcs, hlen, hcells, hty, _⟩ := hs.live id _ hrow
                rw [hl] at g1; cases g1
                have hcsf : cs.all D.flat = true := List.all_eq_true.2 fun q hq => by
                  obtain ⟨j, hj⟩ := List.mem_iff_getElem?.1 hq
                  exact (hcells j q hj).1
                by_cases hroom : n + m ≤ cap
                · have hcap2 : (n + m) * sz' ≤ cap * sz' := Nat.mul_le_mul_right _ hroom
                  have hfit : n * sz' + vs.length ≤ c.size := by rw [hvl, ← Nat.add_mul, ← hcs]; omega
                  have hst : (storeCells ((⟨l.blk, o, none⟩ : Addr).add (n * sz')) vs).run P w = .ok () (w.setRow l.blk (c.toList.take (n * sz') ++ vs ++ c.toList.drop (n * sz' + vs.length)).toArray) := by
                    rcases ho0 with hc0 | ho0
                    · have hvs : vs = [] := by
                        apply List.eq_nil_of_length_eq_zero
                        rw [hvl, show m = 0 by omega, Nat.zero_mul]
                      subst hvs
                      have hcc : (c.toList.take (n * sz') ++ ([] : List Value) ++ c.toList.drop (n * sz' + ([] : List Value).length)).toArray = c := by simp
                      rw [hcc, setRow_self w l.blk c e0 (0, 0) hw]
                      rfl
                    · subst ho0
                      have := run_storeCells_at P l.blk (n * sz') e0 vs 0 c w hw (by omega) hone
                      rw [add_none, Nat.zero_add]
                      simpa using this
                  have hrun' := run_append_in (P := P) (w := w) t u ty e ht hu hud (by omega) (some ⟨l.blk, o, none⟩) n cap m vx vs hr1 (by rw [hS]; exact hr2) hroom _ (by simp only [hS]; exact hst)
                  have hsz2 : (c.toList.take (n * sz') ++ vs ++ c.toList.drop (n * sz' + vs.length)).length = c.size := by simp; omega
                  have hrel : relL M ρ (cs ++ ys) ((c.toList.take (n * sz') ++ vs ++ c.toList.drop (n * sz' + vs.length)).take (cs ++ ys).length) := by
                    have hl2 : (cs ++ ys).length = n * sz' + vs.length := by rw [List.length_append, hcl, hvl, hym]
                    rw [hl2, List.take_left' (by simp; omega)]
                    refine relL_append (relL_of_get (by simp; omega) fun j q v h1 h2 => ?_) hyr
                    obtain ⟨_, u', e1, e2⟩ := hcells j q h1
                    have hlt : j < n * sz' := by rw [← hcl]; exact (List.getElem?_eq_some_iff.1 h1).1
                    rw [List.getElem?_take, if_pos hlt] at h2
                    have : some v = some u' := by rw [← h2, ← e1]; simp
                    cases this; exact e2
                  have hle2 : (cs ++ ys).length ≤ (c.toList.take (n * sz') ++ vs ++ c.toList.drop (n * sz' + vs.length)).toArray.size := by
                    simp only [List.size_toArray]; rw [hsz2, List.length_append, hcl, hym, ← Nat.add_mul]; omega
                  have hflat : (cs ++ ys).all D.flat = true := by rw [List.all_append, hcsf, hyf]; rfl
                  have k1 := hs.setTRow' hrow hl hw (c' := (c.toList.take (n * sz') ++ vs ++ c.toList.drop (n * sz' + vs.length)).toArray) (by simp only [List.size_toArray]; exact hsz2) hle2 hrel hflat
                  have k2 := (k1.del id).addObj (nid := nid) hn l (.trow e false (cs ++ ys)) g2 (fun j oj lj e1 e2 hb' => by
                      simp only [Heap.del, Heap.set] at e1
                      split at e1
                      · cases e1
                      · rename_i hj
                        exact hj (hs.apart j id oj (.trow e false cs) lj l e1 hrow e2 hl hb'))
                    (objRel_trow hM (by rw [← hty]; exact setRow_heap w l.blk c _ e0 (0, 0) hw) (by simp only [List.size_toArray]; rw [hsz2, hcs]) hle2 (fun q => by cases q) (relL_mono (MLe.refl _) (updR_le hn) _ _ hrel) hflat)
                  refine ⟨_, _, M, _, hrun', MLe.refl _, updR_le hn, fun j hj => by simp [updR, ne_new hj], k2.less (fun j oj e1 => ?_), ?_⟩
                  · simp only [Heap.new, Heap.del, Heap.set] at e1 ⊢
                    by_cases hj : j = nid
                    · rw [if_pos hj] at e1 ⊢; exact e1
                    · rw [if_neg hj] at e1 ⊢
                      by_cases hj2 : j = id
                      · rw [if_pos hj2] at e1; cases e1
                      · rw [if_neg hj2] at e1 ⊢; rw [if_neg hj2]; exact e1
                  · simp only [rel]
                    exact ⟨h0, hc2, l, cap, o, by simp [updR], rfl, ⟨hroom, hcap.2⟩, hlsz, ho0⟩
                · obtain ⟨olds, o1, o2, o3, o4⟩ := (hs.trow hrow hl).firstCells (P := P) (off := 0) (n := n * sz') (by omega)
                  have htt : (cs.drop 0).take (n * sz') = cs := by rw [List.drop_zero, ← hcl, List.take_length]
                  rw [htt] at o1 o2
                  have ho : (Builtin.firstCells sz' n (.slice (some ⟨l.blk, o, none⟩) n cap)).run P w.drew = .ok olds.toArray w.drew := by
                    rcases ho0 with hc0 | ho0
                    · have hn0 : n = 0 := by omega
                      subst hn0
                      have : olds = [] := by apply List.eq_nil_of_length_eq_zero; omega
                      subst this
                      simp [Builtin.firstCells, Go.loadCells, loadCellsFrom]
                    · subst ho0
                      have := o4 w.drew (keeps_drew w)
                      simpa [Builtin.firstCells] using this
                  exact growT _ n cap olds cs (h.del id) (hs.del id) rfl (by omega) hc2 hc1 ho o1 o2 hcl
              · cases hv
            · cases hv
          · cases hv
        · cases hv
    · cases hv
theorem Sim.trunc (hs : Sim w0 G M ρ h w) {id : Nat} {cs : List D} (hi : h.at' id = some (.row cs)) (k : Nat) : Sim w0 G M ρ (h.set id (.row (cs.take k))) w := by
  refine { below := hs.below, imm := hs.imm, live := fun i ob e => ?_, apart := fun i j oi oj li lj e1 e2 r1 r2 hb => ?_, gdef := hs.gdef, old := hs.old }
  · simp only [Heap.set] at e
    split at e
    · rename_i hid
      subst hid
      cases e
      obtain ⟨l, g1, g2, hM, c, e0, hw, hls, hlen, hcells⟩ := hs.live _ _ hi
      refine ⟨l, g1, g2, hM, c, e0, hw, hls, by simp; omega, fun j d hj => ?_⟩
      rw [List.getElem?_take] at hj
      split at hj
      · exact hcells j d hj
      · cases hj
    · exact hs.live i ob e
  · have g : ∀ q oq, (h.set id (.row (cs.take k))).at' q = some oq → ∃ oq', h.at' q = some oq' := fun q oq e => by
      simp only [Heap.set] at e
      split at e
      · rename_i hq; subst hq; exact ⟨_, hi⟩
      · exact ⟨_, e⟩
    obtain ⟨o1, k1⟩ := g i oi e1
    obtain ⟨o2, k2⟩ := g j oj e2
    exact hs.apart i j o1 o2 li lj k1 k2 r1 r2 hb

theorem Sim.truncRs (hs : Sim w0 G M ρ h w) (s x : D) : Sim w0 G M ρ (truncRs s x h) w := by
  unfold V.truncRs
  split
  · split
    · exact hs
    · split
      · rename_i cs hi
        split
        · exact hs.trunc hi _
        · exact hs
      · exact hs
  · exact hs

theorem snd_appendT (hs : Sim w0 G M ρ h w) (hn : ρ nid = none) {mu : Bool} {t u ty : TypeId} {s x d : D} {vs' vx : Value} {h' : Heap} {ud : TypeDesc} (hu : P.underlying u = some ud) (hud : ∀ k, ud ≠ .int k) (hsv : rel M ρ s vs') (hx : rel M ρ x vx)
    (hv : vappendT P mu nid t s x h = some (d, h')) : YV P w0 G M ρ nid w (Builtin.append_ #[t, u] ty #[vs', vx]) d h' := by
  unfold vappendT at hv
  split at hv
  · exact snd_append (hs.truncRs s x) hn hu hud hsv hx hv
  · exact snd_append hs hn hu hud hsv hx hv
end
end Go.V
