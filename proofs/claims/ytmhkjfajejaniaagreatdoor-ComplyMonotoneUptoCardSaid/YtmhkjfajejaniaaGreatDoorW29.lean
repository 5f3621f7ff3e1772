/- Library functions in the closed calls, and the function awake of chapter 40 returns true, part 1. No condition. -/
import Derived.Test.YtmhkjfajejaniaaGreatDoorW24
import Derived.Test.YtmhkjfajejaniaaGreatDoorW19
import Derived.Test.YtmhkjfajejaniaaGreatDoorW25
import Derived.Test.YtmhkjfajejaniaaGreatDoorW26
import Derived.Test.YtmhkjfajejaniaaGreatDoorW27
import Derived.Test.YtmhkjfajejaniaaGreatDoorW28
import Derived.Test.YtmhkjfajejaniaaGreatDoorW04
set_option linter.all false
namespace Go.V
open Go.Proofs
theorem qJ:zWS Tryz.prog zDo:=fun g args h r he=>by
 unfold zDo at he;split at he
 ·rename_i hg;have e:g=130:=Nat.eq_of_beq_eq_true hg;subst e;exact zHA he fun d hd=>zH2 (by kernel_rfl) (fun s c w=>Tryz.strings_Count_one s c w) hd h
 ·skip
  split at he
  ·rename_i hg;have e:g=131:=Nat.eq_of_beq_eq_true hg;subst e;exact zHA he fun d hd=>zET (by kernel_rfl) (fun s c w=>Tryz.strings_Index_one s c w) hd h
  ·skip
   split at he
   ·rename_i hg;have e:g=188:=Nat.eq_of_beq_eq_true hg;subst e;exact zHA he fun d hd=>zET (by kernel_rfl) (fun s c w=>Tryz.stringslite_Index_one s c w) hd h
   ·skip
    split at he
    ·rename_i hg;have e:g=189:=Nat.eq_of_beq_eq_true hg;subst e;exact zHA he fun d hd=>zJr (by kernel_rfl) (fun s c w h0 h1 h2 h3=>zQF Tryz.lays160 (by kernel_rfl) s c w h0 h1 h2 h3) hd h
    ·skip
     cases he
set_option maxRecDepth 100000
theorem k0:zb Tryz.prog m0:=trivial
theorem k1:zb Tryz.prog m1:=zb.add mix qI qJ k0 rfl rfl r1
theorem k2:zb Tryz.prog m2:=zb.add mix qI qJ k1 rfl rfl r2
theorem k3:zb Tryz.prog m3:=zb.add mix qI qJ k2 rfl rfl r3
theorem k4:zb Tryz.prog m4:=zb.add mix qI qJ k3 rfl rfl r4
theorem k5:zb Tryz.prog m5:=zb.add mix qI qJ k4 rfl rfl r5
theorem k6:zb Tryz.prog m6:=zb.add mix qI qJ k5 rfl rfl r6
theorem k7:zb Tryz.prog m7:=zb.add mix qI qJ k6 rfl rfl r7
theorem k8:zb Tryz.prog m8:=zb.add mix qI qJ k7 rfl rfl r8
theorem k9:zb Tryz.prog m9:=zb.add mix qI qJ k8 rfl rfl r9
theorem k10:zb Tryz.prog m10:=zb.add mix qI qJ k9 rfl rfl r10
theorem k11:zb Tryz.prog m11:=zb.add mix qI qJ k10 rfl rfl r11
theorem k12:zb Tryz.prog m12:=zb.add mix qI qJ k11 rfl rfl r12
theorem k13:zb Tryz.prog m13:=zb.add mix qI qJ k12 rfl rfl r13
theorem k14:zb Tryz.prog m14:=zb.add mix qI qJ k13 rfl rfl r14
theorem k15:zb Tryz.prog m15:=zb.add mix qI qJ k14 rfl rfl r15
theorem k16:zb Tryz.prog m16:=zb.add mix qI qJ k15 rfl rfl r16
theorem k17:zb Tryz.prog m17:=zb.add mix qI qJ k16 rfl rfl r17
theorem k18:zb Tryz.prog m18:=zb.add mix qI qJ k17 rfl rfl r18
theorem k19:zb Tryz.prog m19:=zb.add mix qI qJ k18 rfl rfl r19
theorem k20:zb Tryz.prog m20:=zb.add mix qI qJ k19 rfl rfl r20
theorem k21:zb Tryz.prog m21:=zb.add mix qI qJ k20 rfl rfl r21
theorem k22:zb Tryz.prog m22:=zb.add mix qI qJ k21 rfl rfl r22
theorem k23:zb Tryz.prog m23:=zb.add mix qI qJ k22 rfl rfl r23
theorem k24:zb Tryz.prog m24:=zb.add mix qI qJ k23 rfl rfl r24
theorem k25:zb Tryz.prog m25:=zb.add mix qI qJ k24 rfl rfl r25
theorem k26:zb Tryz.prog m26:=zb.add mix qI qJ k25 rfl rfl r26
theorem k27:zb Tryz.prog m27:=zb.add mix qI qJ k26 rfl rfl r27
theorem k28:zb Tryz.prog m28:=zb.add mix qI qJ k27 rfl rfl r28
theorem k29:zb Tryz.prog m29:=zb.add mix qI qJ k28 rfl rfl r29
theorem k30:zb Tryz.prog m30:=zb.add mix qI qJ k29 rfl rfl r30
theorem k31:zb Tryz.prog m31:=zb.add mix qI qJ k30 rfl rfl r31
theorem k32:zb Tryz.prog m32:=zb.add mix qI qJ k31 rfl rfl r32
theorem zGt (h:Heap):zA Tryz.prog 8 [] h fun a b=>a= .bool true∧b=h:=k32.1 h
open Go.RowKit (Below)
section
variable {w0:Base} {G:List Nat} {M:Imm} {ρ:Ren} {h:Heap} {w:World} {id:Nat} {cs:List D}
theorem Sim.freeze (k3:Sim w0 G M ρ h w) (k6:h.at' id=some (.row cs)):∃M' l,MLe M M'∧ρ id=some l∧zBW M' ρ cs l.blk 0∧Sim w0 G M' ρ (h.frz id cs) w:=by
 obtain⟨l,g1,g2,hm,c,ty,g3,g4,g5,g6⟩:=k3.live id _ k6;have hle:MLe M (zBP M l.blk 0 (c.toList.take cs.length)):=zB4 fun o _=>hm o;have hc:zBW (zBP M l.blk 0 (c.toList.take cs.length)) ρ cs l.blk 0:=yZ fun i d hi=>by
  obtain⟨q1,u,q2,q3⟩:=g6 i d hi;have hlt:=(List.getElem?_eq_some_iff.1 hi).1;refine⟨q1,u,?_,qA hle (RLe.refl _) _ _ q3⟩;unfold zBP;rw[if_pos ⟨rfl,by omega,by simp;omega⟩];simp only[Nat.zero_add,Nat.sub_zero,List.getElem?_take,if_pos hlt];simpa using q2
 refine⟨zBP M l.blk 0 (c.toList.take cs.length),l,hle,g1,hc,?_⟩;refine { below:=k3.below,imm:=fun b o u e=> ?_,live:=fun i ob e=> ?_,apart:=fun i j oi oj li lj ei ej ri rj hij=> ?_,gdef:=k3.gdef,old:=zFg k3.old g2 }
 ·unfold zBP at e;split at e
  ·rename_i hcc;obtain⟨rfl,_,hlt⟩:=hcc;simp only[Nat.sub_zero,List.getElem?_take] at e;split at e
   ·simp[World.cell?,g3];simpa using e
   ·cases e
  ·exact k3.imm b o u e
 ·simp only[Heap.frz] at e;split at e
  ·cases e
  ·rename_i hne;cases ho:h.at' i with
   |none=>rw[ho] at e;cases e
   |some ob0=>
    rw[ho] at e;cases e;obtain⟨l',q1,q2,q3⟩:=k3.live i ob0 ho;refine⟨l',q1,q2,zJZ hle g1 hc (fun o hz=> ?_) _ q3⟩;unfold zBP;rw[if_neg fun hcc=>hne (k3.apart i id ob0 _ l' l ho k6 q1 g1 hcc.1)];exact hz
 ·simp only[Heap.frz] at ei ej;split at ei
  ·cases ei
  ·split at ej
   ·cases ej
   ·cases hoi:h.at' i with
    |none=>rw[hoi] at ei;cases ei
    |some o1=>
     cases hoj:h.at' j with
     |none=>rw[hoj] at ej;cases ej
     |some o2=>exact k3.apart i j o1 o2 li lj hoi hoj ri rj hij
end
theorem zA.argsFrz {P:Program} {f:FuncId} {args:List D} {h:Heap} {Q:D→Heap→Prop} {id:Nat} {cs:List D} (hi:h.at' id=some (.row cs)) (hv:zA P f (zGN id cs args) (h.frz id cs) Q):zA P f args h Q:=by
 refine⟨hv.1,fun w0 G M ρ w va hg0 hs hfr hr=> ?_⟩;obtain⟨M',l,hle,hl,hc,hs'⟩:=hs.freeze hi;refine(hv.2 w0 G M' ρ w va hg0 hs' hfr (zDl hle hl hc _ _ hr)).mono fun e w' hq=> ?_;obtain⟨v,M2,ρ2,d,h2,rfl,k1,k2,k3,k4,k5,k7⟩:=hq;exact⟨v,M2,ρ2,d,h2,rfl,hle.trans k1,k2,k3,k4,k5,k7⟩
end Go.V
