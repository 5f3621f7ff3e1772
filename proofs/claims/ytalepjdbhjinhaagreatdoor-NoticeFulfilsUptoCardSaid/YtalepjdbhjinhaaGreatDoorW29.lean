/- A machine of abstract values for programs of the model, further rules, part 2. No condition. -/
import Derived.Test.YtalepjdbhjinhaaGreatDoorW20
import Derived.Ground.Names2Prog
import Derived.Shelf.Slices.Delete
import Derived.Test.YtalepjdbhjinhaaGreatDoorProg
import Derived.Test.YtalepjdbhjinhaaGreatDoorW04
set_option linter.all false
namespace Go.V
open Go.RowKit (Below)
inductive Pl where
 |nil
 |op (i:Nat) (f:Fl) (r:Pl)
 |or (a b:Pl)
section
variable {P:Program} {mu:Tmp→Bool} {c:Ctx P} {ms:List Nat} {n:Nat} {fr:Frm} {h h0:Heap} {a:Act} {w:World} {Q:Exit→Act→World→Prop} {ro:Option Nat} {ops:Array Oper} {K:Frm→Heap→Prop}
end
section
variable {P:Program} {g:Cfg} {c:Ctx P} {ms:List Nat} {n:Nat} {fr:Frm} {h:Heap} {a:Act} {w:World} {ro rb:Option Nat} {k:Nat} {pl:Pl}
end
section
variable {P:Program} {g:Cfg} {n:Nat} {ro:Option Nat} {k:Nat} {pl:Pl} {mu:Tmp→Bool} {h0:Heap} {Q:Exit→Frm→Heap→Prop} {fr:Frm} {h:Heap} {K:Frm→Heap→Prop}
def Heap.one (i:Nat) (o:Obj):Heap:=⟨0,fun j=>if j=i then some o else none⟩
theorem zVq (i:Nat) (o:Obj):(Heap.one i o).at' i=some o:=if_pos rfl
theorem zXo {i:Nat} {o:Obj} :HLe (Heap.one i o) h=(h.at' i=some o):=by
 apply propext;constructor
 ·exact fun q=>q i o (zVq i o)
 ·intro q j ob hj;simp only[Heap.one] at hj;split at hj
  ·rename_i e;subst e;cases hj;exact q
  ·cases hj
end
end Go.V
namespace Go.Proofs
open Go.Shelf
def Tryz.laysNm224_ren:Go.Shelf.Ren:=⟨fun|24=>27|n=>n,fun|24=>31|9=>9|3=>3|4=>4|0=>0|n=>n,fun|n=>n⟩
theorem Tryz.laysNm224:Go.Proofs.Lays2.n24 Tryz.prog Tryz.laysNm224_ren:= {
 mixed:=by kernel_rfl
 f24:=Tryz.func27.trans (congrArg some (by kernel_rfl))
 t0:=Tryz.underlying0
 a0:=Tryz.isAgg0
 z0:=Tryz.sizeOf0
 v0:=Tryz.zeroValue0
 t3:=Tryz.underlying3
 a3:=Tryz.isAgg3
 z3:=Tryz.sizeOf3
 v3:=Tryz.zeroValue3
 t4:=Tryz.underlying4
 a4:=Tryz.isAgg4
 z4:=Tryz.sizeOf4
 v4:=Tryz.zeroValue4
 t9:=Tryz.underlying9
 a9:=Tryz.isAgg9
 z9:=Tryz.sizeOf9
 v9:=Tryz.zeroValue9
 t24:=Tryz.underlying31
 a24:=Tryz.isAgg31
 z24:=Tryz.sizeOf31
 v24:=Tryz.zeroValue31
 i9:=by kernel_rfl }
open Go.RowKit Go.Lib Go.Sort in
theorem Tryz.slices_Delete_string (blk off cap i j:Nat) (zs:List (List UInt8)) (w:World) (hH:Holds encStr w blk off zs.toArray) (hcap:zs.length≤cap) (hm:cap≤9223372036854775807) (hij:i≤j) (hj:j≤zs.length):
  Calls Tryz.prog 27 #[.slice (some ⟨blk,off,none⟩) zs.length cap, .int .i64 i, .int .i64 j] w fun e w'=>e= .returned (.slice (some ⟨blk,off,none⟩) (zs.length- (j-i)) cap)∧∃q,w'=putRow encStr (Sort.ahead w q) blk off (zs.take i++zs.drop j++List.replicate (j-i) []).toArray:=Any.slices_Delete_string Tryz.laysNm224 blk off cap i j zs w hH hcap hm hij hj
end Go.Proofs
namespace Go.V
open Go.RowKit (Below)
section
variable {w0:Base} {G:List Nat} {M:Imm} {ρ:Ren} {h:Heap} {w:World} {id:Nat} {cs:List D}
theorem Sim.freeze (k3:Sim w0 G M ρ h w) (k6:h.at' id=some (.row cs)):∃M' l,MLe M M'∧ρ id=some l∧zAi M' ρ cs l.blk 0∧Sim w0 G M' ρ (h.frz id cs) w:=by
 obtain⟨l,g1,g2,hm,c,ty,g3,g4,g5,g6⟩:=k3.live id _ k6;have hle:MLe M (zAZ M l.blk 0 (c.toList.take cs.length)):=zBB fun o _=>hm o;have hc:zAi (zAZ M l.blk 0 (c.toList.take cs.length)) ρ cs l.blk 0:=yP fun i d hi=>by
  obtain⟨q1,u,q2,q3⟩:=g6 i d hi;have hlt:=(List.getElem?_eq_some_iff.1 hi).1;refine⟨q1,u,?_,yk hle (RLe.refl _) _ _ q3⟩;unfold zAZ;rw[if_pos ⟨rfl,by omega,by simp;omega⟩];simp only[Nat.zero_add,Nat.sub_zero,List.getElem?_take,if_pos hlt];simpa using q2
 refine⟨zAZ M l.blk 0 (c.toList.take cs.length),l,hle,g1,hc,?_⟩;refine { below:=k3.below,imm:=fun b o u e=> ?_,live:=fun i ob e=> ?_,apart:=fun i j oi oj li lj ei ej ri rj hij=> ?_,gdef:=k3.gdef,old:=zEX k3.old g2 }
 ·unfold zAZ at e;split at e
  ·rename_i hcc;obtain⟨rfl,_,hlt⟩:=hcc;simp only[Nat.sub_zero,List.getElem?_take] at e;split at e
   ·simp[World.cell?,g3];simpa using e
   ·cases e
  ·exact k3.imm b o u e
 ·simp only[Heap.frz] at e;split at e
  ·cases e
  ·rename_i hne;cases ho:h.at' i with
   |none=>rw[ho] at e;cases e
   |some ob0=>
    rw[ho] at e;cases e;obtain⟨l',q1,q2,q3⟩:=k3.live i ob0 ho;refine⟨l',q1,q2,zH9 hle g1 hc (fun o hz=> ?_) _ q3⟩;unfold zAZ;rw[if_neg fun hcc=>hne (k3.apart i id ob0 _ l' l ho k6 q1 g1 hcc.1)];exact hz
 ·simp only[Heap.frz] at ei ej;split at ei
  ·cases ei
  ·split at ej
   ·cases ej
   ·cases hoi:h.at' i with
    |none=>rw[hoi] at ei;cases ei
    |some o1=>
     cases hoj:h.at' j with
     |none=>rw[hoj] at ej;cases ej
     |some o2=>exact k3.apart i j o1 o2 li lj hoi hoj ri rj hij
end
theorem zA.argsFrz {P:Program} {f:FuncId} {args:List D} {h:Heap} {Q:D→Heap→Prop} {id:Nat} {cs:List D} (hi:h.at' id=some (.row cs)) (hv:zA P f (zB5 id cs args) (h.frz id cs) Q):zA P f args h Q:=by
 refine⟨hv.1,fun w0 G M ρ w va hg0 hs hfr hr=> ?_⟩;obtain⟨M',l,hle,hl,hc,hs'⟩:=hs.freeze hi;refine(hv.2 w0 G M' ρ w va hg0 hs' hfr (zCg hle hl hc _ _ hr)).mono fun e w' hq=> ?_;obtain⟨v,M2,ρ2,d,h2,rfl,k1,k2,k3,k4,k5,k7⟩:=hq;exact⟨v,M2,ρ2,d,h2,rfl,hle.trans k1,k2,k3,k4,k5,k7⟩
end Go.V
