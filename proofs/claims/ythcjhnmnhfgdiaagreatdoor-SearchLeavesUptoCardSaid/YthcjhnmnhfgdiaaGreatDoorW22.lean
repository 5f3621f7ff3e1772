/- A machine of abstract values for programs of the model, further rules, part 2. No condition. -/
import Derived.Test.YthcjhnmnhfgdiaaGreatDoorW19
import Derived.Test.YthcjhnmnhfgdiaaGreatDoorW17
set_option linter.all false
set_option maxHeartbeats 8000000
noncomputable section
namespace Go.V
open Go.RowKit (Below)
inductive Pl where
 |nil
 |op (i:Nat) (f:Fl) (r:Pl)
 |or (a b:Pl)
section
variable {P:Program} {g:Cfg} {n:Nat} {ro:Option Nat} {k:Nat} {pl:Pl} {mu:Tmp->Bool} {h0:Heap} {Q:Exit->Frm->Heap->Prop} {fr:Frm} {h:Heap} {K:Frm->Heap->Prop}
def Heap.one (i:Nat) (o:Obj):Heap:=⟨0,λj=>if j=i then some o else none⟩
def mf (i:Nat) (o:Obj):(Heap.one i o).at' i=some o:=ip rfl
variable {i:Nat}
def py {o:Obj} :HLe (Heap.one i o) h=(h.at' i=some o):=by
 apply propext;constructor
 ·exact λq=>q i o (mf i o)
 ·intro q j b a;simp only[Heap.one] at a;split at a
  ·rename_i e;subst e;cases a;exact q
  ·cases a
end
def vB:D:=.agg [(.sl 4 [[(.str [97]),(.str [97]),(.int .i64 (1)),(.str [])],[(.str [98]),(.str [98]),(.int .i64 (1)),(.str [])]] .no),(.nilsl),(.sl 5 [[(.str [97]),(.int .i64 (1)),(.int .i64 (0)),(.int .i64 (4)),(.sl 1 [[(.str [97])]] .no)]] .no),(.nilsl)]
def vD:D:=.sl 1 [[(.sl 2 [[(.str [97]),(.str [])]] .no)]] .no
def vE:D:=.sl 4 [[(.int .i64 (1)),(.sl 1 [[(.int .i64 (1))],[(.int .i64 (2))]] .no),(.int .i64 (0)),(.nilsl)],[(.int .i64 (-1)),(.nilsl),(.int .i64 (4)),(.sl 1 [[(.int .i64 (2))],[(.int .i64 (3))]] .no)],[(.int .i64 (-1)),(.nilsl),(.int .i64 (1)),(.sl 1 [[(.int .i64 (0))],[(.int .i64 (1))],[(.int .i64 (2))]] .no)]] .no
def vG:D:=.agg [ vD ,(.sl 1 [[(.str [97])]] .no)]
def vH:D:=.agg [(.int .i64 (1)),(.sl 1 [[(.int .i64 (0))],[(.int .i64 (1))],[(.int .i64 (2))]] .no)]
def vI:D:=.agg [ vD ,(.sl 1 [[(.str [98])]] .no)]
def vJ:D:=.str [120,47,111,117,116]
def vA:D:=.sl 12 [[(.int .i64 (1)),(.str [120,47,102]),(.str []),(.int .i64 (0)),(.int .i64 (0)),(.int .i64 (0)),(.bool false),(.int .i64 (0)),(.str [97]),(.str []),(.nilsl),(.nilsl)],[(.int .i64 (0)),(.str [120,47,102]),vJ,(.int .i64 (0)),(.int .i64 (0)),(.int .i64 (0)),(.bool false),(.int .i64 (0)),(.str []),(.str []),(.nilsl),(.nilsl)],[(.int .i64 (2)),(.str []),vJ,(.int .i64 (0)),(.int .i64 (1)),(.int .i64 (0)),(.bool false),(.int .i64 (0)),(.str []),(.str []),(.nilsl),(.nilsl)],[(.int .i64 (3)),(.str []),vJ,(.int .i64 (0)),(.int .i64 (0)),(.int .i64 (0)),(.bool false),(.int .i64 (0)),(.str []),(.str []),(.nilsl),(.sl 1 [[(.str [98])]] .no)]] .no
def vC:D:=.sl 12 [[(.int .i64 (1)),(.str [120,47,102]),(.str []),(.int .i64 (0)),(.int .i64 (0)),(.int .i64 (0)),(.bool false),(.int .i64 (0)),(.str [97]),(.str []),(.nilsl),(.nilsl)],[(.int .i64 (0)),(.str [120,47,102]),vJ,(.int .i64 (0)),(.int .i64 (0)),(.int .i64 (0)),(.bool false),(.int .i64 (0)),(.str []),(.str []),(.nilsl),(.nilsl)],[(.int .i64 (2)),(.str []),vJ,(.int .i64 (0)),(.int .i64 (1)),(.int .i64 (0)),(.bool false),(.int .i64 (0)),(.str []),(.str []),(.nilsl),(.nilsl)]] .no
def vF:D:=.agg [(.sl 1 [[ vD ]] .no),(.sl 1 [[vJ]] .no),(.sl 4 [[(.str [97]),(.str [97]),(.int .i64 (1)),(.str [])],[(.str [98]),(.str [98]),(.int .i64 (1)),(.str [])]] .no),(.nilsl),(.sl 5 [[(.str [97]),(.int .i64 (1)),(.int .i64 (0)),(.int .i64 (4)),(.sl 1 [[(.str [97])]] .no)]] .no),(.nilsl)]
def vK:D:=.agg [ vD ,(.sl 1 [[(.str [])]] .no)]
def vL:D:=.agg [(.int .i64 (4)),(.sl 1 [[(.int .i64 (2))],[(.int .i64 (3))]] .no)]
def vM:D:=.str [108,105,99,101,110,115,101,32,97,32,97,32,49,32,48,10,108,105,99,101,110,115,101,32,98,32,98,32,49,32,48,10,99,108,97,117,115,101,32,97,32,98,105,110,97,114,121,32,105,110,32,115,104,97,114,101,32,97,10]
def vN:D:=.agg [(.bool true), vD ,(.sl 1 [[(.str [97])]] .no),(.nilsl)]
def vO:D:=.agg [(.int .i64 (3)),(.str []), vJ ,(.int .i64 (0)),(.int .i64 (0)),(.int .i64 (0)),(.bool false),(.int .i64 (0)),(.str []),(.str []),(.nilsl),(.sl 1 [[(.str [98])]] .no)]
def vP:D:=.agg [(.int .i64 (1)),(.str [120,47,102]),(.str []),(.int .i64 (0)),(.int .i64 (0)),(.int .i64 (0)),(.bool false),(.int .i64 (0)),(.str [97]),(.str []),(.nilsl),(.nilsl)]
def vQ:D:=.agg [(.int .i64 (0)),(.str [120,47,102]), vJ ,(.int .i64 (0)),(.int .i64 (0)),(.int .i64 (0)),(.bool false),(.int .i64 (0)),(.str []),(.str []),(.nilsl),(.nilsl)]
def vR:D:=.agg [(.int .i64 (0)),(.str [97]),(.str []),(.nilsl)]
def vS:D:=.agg [(.int .i64 (2)),(.str []), vJ ,(.int .i64 (0)),(.int .i64 (1)),(.int .i64 (0)),(.bool false),(.int .i64 (0)),(.str []),(.str []),(.nilsl),(.nilsl)]
def vT:D:=.agg [(.int .i64 (0)),(.nilsl)]
def vU:D:=.agg [(.bool false),(.nilsl),(.nilsl), vE ]
open Go.Proofs
def tu (g:FuncId) (args:List D) (hp:Nat->Option Obj):Lt:=
 match Nat.beq g 174 with
 |true=>YG (jq args)
 |false=>
  match Nat.beq g 175 with
  |true=>YG (mY args)
  |false=>
   match Nat.beq g 248 with
   |true=>YG (mY args)
   |false=>
    match Nat.beq g 249 with
    |true=>YG (ZB args)
    |false=>
     none
def qR (g:FuncId):Bool:=List.contains (α:=Nat) [24,44,20,116,84,180,181,179,198,59,43,342,344,163,90,164,17,66,39,19,12,87,88] g
def m0:tC:=[]
def m1:tC:=(190,([(.str [97])], .bool true))::m0
def m2:tC:=(190,([(.str [98])], .bool true))::m1
def m3:tC:=(59,([ vB ], .int .i64 (0)))::m2
def m4:tC:=(24,([ vM ], .tuple [ vB ,(.int .i64 (0)),(.int .i64 (0))]))::m3
def m5:tC:=(163,([(.str [120,47,102])], .int .i64 (0)))::m4
def m6:tC:=(164,([ vB ,(.str [97])], .tuple [(.agg [(.str [97]),(.str [97]),(.int .i64 (1)),(.str [])]),(.bool true)]))::m5
def m7:tC:=(90,([ vB , vR ], .int .i64 (0)))::m6
def m8:tC:=(89,([ vB , vP ], .int .i64 (0)))::m7
def m9:tC:=(163,([ vJ ], .int .i64 (0)))::m8
def m10:tC:=(89,([ vB , vQ ], .int .i64 (0)))::m9
def m11:tC:=(89,([ vB , vS ], .int .i64 (0)))::m10
def m12:tC:=(164,([ vB ,(.str [98])], .tuple [(.agg [(.str [98]),(.str [98]),(.int .i64 (1)),(.str [])]),(.bool true)]))::m11
def m13:tC:=(89,([ vB , vO ], .int .i64 (0)))::m12
def m14:tC:=(43,([ vB , vA ], .tuple [(.int .i64 (0)),(.int .i64 (0))]))::m13
def m15:tC:=(44,([ vB , vR ], .tuple [ vD ,(.int .i64 (0))]))::m14
def m16:tC:=(20,([ vB , vA ], .tuple [(.sl 1 [[ vD ]] .no),(.sl 1 [[ vJ ]] .no),(.int .i64 (0))]))::m15
def m17:tC:=(116,([ vB , vA ], .tuple [ vF ,(.int .i64 (0))]))::m16
def m18:tC:=(63,([ vB , vA ], .tuple [(.int .i64 (2)),(.int .i64 (0))]))::m17
def m19:tC:=(39,([ vB , vA , vK ,(.bool true)], .int .i64 (0)))::m18
def m20:tC:=(342,([ vB ,(.agg [(.str [97]),(.str [])]),(.int .i64 (1)),(.int .i64 (0))], .sl 5 [[(.str [97]),(.int .i64 (1)),(.int .i64 (0)),(.int .i64 (4)),(.sl 1 [[(.str [97])]] .no)]] .no))::m19
def m21:tC:=(344,([ vB ,(.str [97]),(.str [97])], .bool false))::m20
def m22:tC:=(84,([ vB , vA , vK ], .tuple [ vT ,(.bool false),(.int .i64 (0))]))::m21
def m23:tC:=(39,([ vB , vA , vG ,(.bool true)], .int .i64 (0)))::m22
def m24:tC:=(84,([ vB , vA , vG ], .tuple [ vL ,(.bool true),(.int .i64 (0))]))::m23
def m25:tC:=(39,([ vB , vA , vI ,(.bool true)], .int .i64 (0)))::m24
def m26:tC:=(84,([ vB , vA , vI ], .tuple [ vH ,(.bool true),(.int .i64 (0))]))::m25
def m27:tC:=(19,([ vB , vA ], .tuple [ vU ,(.int .i64 (0))]))::m26
def m28:tC:=(43,([ vB , vC ], .tuple [(.int .i64 (0)),(.int .i64 (0))]))::m27
def m29:tC:=(20,([ vB , vC ], .tuple [(.sl 1 [[ vD ]] .no),(.sl 1 [[ vJ ]] .no),(.int .i64 (0))]))::m28
def m30:tC:=(116,([ vB , vC ], .tuple [ vF ,(.int .i64 (0))]))::m29
def m31:tC:=(63,([ vB , vC ], .tuple [(.int .i64 (2)),(.int .i64 (0))]))::m30
def m32:tC:=(39,([ vB , vC , vK ,(.bool true)], .int .i64 (0)))::m31
def m33:tC:=(84,([ vB , vC , vK ], .tuple [ vT ,(.bool false),(.int .i64 (0))]))::m32
def m34:tC:=(39,([ vB , vC , vG ,(.bool true)], .int .i64 (0)))::m33
def m35:tC:=(84,([ vB , vC , vG ], .tuple [ vT ,(.bool false),(.int .i64 (0))]))::m34
def m36:tC:=(19,([ vB , vC ], .tuple [ vN ,(.int .i64 (0))]))::m35
def m37:tC:=(39,([ vB , vC , vI ,(.bool true)], .int .i64 (0)))::m36
def m38:tC:=(84,([ vB , vC , vI ], .tuple [ vH ,(.bool true),(.int .i64 (0))]))::m37
def m39:tC:=(18,([ vB , vC ], .tuple [(.int .i64 (1)),(.int .i64 (0))]))::m38
def m40:tC:=(15,([ vE ], .sl 1 [[(.int .i64 (0))],[(.int .i64 (1))],[(.int .i64 (2))],[(.int .i64 (3))]] .no))::m39
def m41:tC:=(66,([ vB , vA , vG , vL ], .int .i64 (0)))::m40
def m42:tC:=(66,([ vB , vA , vI , vH ], .int .i64 (0)))::m41
def m43:tC:=(12,([ vB , vA , vU ], .int .i64 (0)))::m42
def m44:tC:=(39,([ vB , vA , vG ,(.bool false)], .int .i64 (0)))::m43
def m45:tC:=(17,([ vB , vA , vG ], .tuple [(.bool false),(.int .i64 (0))]))::m44
def m46:tC:=(12,([ vB , vA , vN ], .int .i64 (18)))::m45
def m47:tC:=(8,([], .bool true))::m46
end Go.V
end
