/- A machine of abstract values for programs of the model, further rules, part 2. No condition. -/
import Derived.Test.YtalepjdbhjinhaaGreatDoorW20
set_option linter.all false
namespace Go.V
open Go.RowKit (Below)
inductive Pl where
 |nil
 |op (i:Nat) (f:Fl) (r:Pl)
 |or (a b:Pl)
section
variable {P:Program} {mu:Tmp→Bool} {c:Ctx P} {ms:List Nat} {n:Nat} {fr:Frm} {h h0:Heap} {a:Act} {w:World} {Q:Exit→Act→World→Prop} {ro:Option Nat} {ops:Array Oper} {K:Frm→Heap→Prop}
end
section
variable {P:Program} {g:Cfg} {c:Ctx P} {ms:List Nat} {n:Nat} {fr:Frm} {h:Heap} {a:Act} {w:World} {ro rb:Option Nat} {k:Nat} {pl:Pl}
end
section
variable {P:Program} {g:Cfg} {n:Nat} {ro:Option Nat} {k:Nat} {pl:Pl} {mu:Tmp→Bool} {h0:Heap} {Q:Exit→Frm→Heap→Prop} {fr:Frm} {h:Heap} {K:Frm→Heap→Prop}
def Heap.one (i:Nat) (o:Obj):Heap:=⟨0,fun j=>if j=i then some o else none⟩
theorem zVJ (i:Nat) (o:Obj):(Heap.one i o).at' i=some o:=if_pos rfl
theorem zXQ {i:Nat} {o:Obj} :HLe (Heap.one i o) h=(h.at' i=some o):=by
 apply propext;constructor
 ·exact fun q=>q i o (zVJ i o)
 ·intro q j ob hj;simp only[Heap.one] at hj;split at hj
  ·rename_i e;subst e;cases hj;exact q
  ·cases hj
end
end Go.V
