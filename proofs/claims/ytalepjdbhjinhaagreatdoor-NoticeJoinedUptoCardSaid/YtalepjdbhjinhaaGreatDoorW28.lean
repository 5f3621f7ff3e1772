/- Contracts of functions that the law reaches, part 1. No condition. -/
import Derived.Test.YtalepjdbhjinhaaGreatDoorW19
import Derived.Test.YtalepjdbhjinhaaGreatDoorW22
import Derived.KernelRfl
import Derived.Test.YtalepjdbhjinhaaGreatDoorW23
import Derived.Test.YtalepjdbhjinhaaGreatDoorW24
import Derived.Test.YtalepjdbhjinhaaGreatDoorW25
import Derived.Test.YtalepjdbhjinhaaGreatDoorW26
import Derived.Test.YtalepjdbhjinhaaGreatDoorW27
import Derived.Test.YtalepjdbhjinhaaGreatDoorW21
set_option linter.all false
namespace Go.Proofs
def Tryz.lays240_ren:Go.Shelf.Ren:=⟨fun|240=>102|276=>148|n=>n,fun|0=>0|4=>4|9=>9|20=>20|37=>113|70=>112|72=>115|164=>222|n=>n,fun n=>n⟩
theorem Tryz.lays240:Go.Proofs.Lays.n240 Tryz.prog Tryz.lays240_ren:= {
 mixed:=by kernel_rfl
 f240:=Tryz.func102.trans (congrArg some (by kernel_rfl))
 f276:=Tryz.func148.trans (congrArg some (by kernel_rfl))
 t0:=Tryz.underlying0
 a0:=Tryz.isAgg0
 z0:=Tryz.sizeOf0
 v0:=Tryz.zeroValue0
 t4:=Tryz.underlying4
 a4:=Tryz.isAgg4
 z4:=Tryz.sizeOf4
 v4:=Tryz.zeroValue4
 t9:=Tryz.underlying9
 a9:=Tryz.isAgg9
 z9:=Tryz.sizeOf9
 v9:=Tryz.zeroValue9
 t20:=Tryz.underlying20
 a20:=Tryz.isAgg20
 z20:=Tryz.sizeOf20
 v20:=Tryz.zeroValue20
 t70:=Tryz.underlying112
 a70:=Tryz.isAgg112
 z70:=Tryz.sizeOf112
 v70:=Tryz.zeroValue112
 t72:=Tryz.underlying115
 a72:=Tryz.isAgg115
 z72:=Tryz.sizeOf115
 v72:=Tryz.zeroValue115
 t164:=Tryz.underlying222
 a164:=Tryz.isAgg222
 z164:=Tryz.sizeOf222
 v164:=Tryz.zeroValue222 }
theorem Tryz.Builder_X72_240:Builder.X72 Tryz.prog Tryz.lays240_ren:= {
 sizeBuilder:=by kernel_rfl
 liesBuilder:=by kernel_rfl }
end Go.Proofs
namespace Go.V
open Go.Proofs
theorem qB:zVE Tryz.prog zDH:=fun g args h r he=>by
 unfold zDH at he;split at he
 ·rename_i hg;have e:g=24:=Nat.eq_of_beq_eq_true hg;subst e;exact zGY he fun d hd=>zHQ (by kernel_rfl) (fun s c w=>Tryz.strings_Count_one s c w) hd h
 ·skip
  split at he
  ·rename_i hg;have e:g=54:=Nat.eq_of_beq_eq_true hg;subst e;exact zGY he fun d hd=>zDi (by kernel_rfl) (fun s c w=>Tryz.strings_Index_one s c w) hd h
  ·skip
   split at he
   ·rename_i hg;have e:g=104:=Nat.eq_of_beq_eq_true hg;subst e;exact zGY he fun d hd=>zDi (by kernel_rfl) (fun s c w=>Tryz.stringslite_Index_one s c w) hd h
   ·skip
    split at he
    ·rename_i hg;have e:g=105:=Nat.eq_of_beq_eq_true hg;subst e;exact zGY he fun d hd=>zI2 (by kernel_rfl) (fun s c w h0 h1 h2 h3=>zOz Tryz.lays160 (by kernel_rfl) s c w h0 h1 h2 h3) hd h
    ·skip
     split at he
     ·rename_i hg;have e:g=102:=Nat.eq_of_beq_eq_true hg;subst e;exact zP3 Tryz.lays240 Tryz.Builder_X72_240 (by kernel_rfl) he
     ·skip
      cases he
set_option maxRecDepth 100000
theorem k0:zp Tryz.prog m0:=trivial
theorem k1:zp Tryz.prog m1:=zp.add mix qA qB k0 rfl rfl r1
theorem k2:zp Tryz.prog m2:=zp.add mix qA qB k1 rfl rfl r2
theorem k3:zp Tryz.prog m3:=zp.add mix qA qB k2 rfl rfl r3
theorem k4:zp Tryz.prog m4:=zp.add mix qA qB k3 rfl rfl r4
theorem k5:zp Tryz.prog m5:=zp.add mix qA qB k4 rfl rfl r5
theorem k6:zp Tryz.prog m6:=zp.add mix qA qB k5 rfl rfl r6
theorem k7:zp Tryz.prog m7:=zp.add mix qA qB k6 rfl rfl r7
theorem k8:zp Tryz.prog m8:=zp.add mix qA qB k7 rfl rfl r8
theorem k9:zp Tryz.prog m9:=zp.add mix qA qB k8 rfl rfl r9
theorem k10:zp Tryz.prog m10:=zp.add mix qA qB k9 rfl rfl r10
theorem k11:zp Tryz.prog m11:=zp.add mix qA qB k10 rfl rfl r11
theorem k12:zp Tryz.prog m12:=zp.add mix qA qB k11 rfl rfl r12
theorem k13:zp Tryz.prog m13:=zp.add mix qA qB k12 rfl rfl r13
theorem k14:zp Tryz.prog m14:=zp.add mix qA qB k13 rfl rfl r14
theorem k15:zp Tryz.prog m15:=zp.add mix qA qB k14 rfl rfl r15
theorem k16:zp Tryz.prog m16:=zp.add mix qA qB k15 rfl rfl r16
theorem k17:zp Tryz.prog m17:=zp.add mix qA qB k16 rfl rfl r17
theorem k18:zp Tryz.prog m18:=zp.add mix qA qB k17 rfl rfl r18
theorem k19:zp Tryz.prog m19:=zp.add mix qA qB k18 rfl rfl r19
theorem k20:zp Tryz.prog m20:=zp.add mix qA qB k19 rfl rfl r20
theorem k21:zp Tryz.prog m21:=zp.add mix qA qB k20 rfl rfl r21
theorem k22:zp Tryz.prog m22:=zp.add mix qA qB k21 rfl rfl r22
theorem k23:zp Tryz.prog m23:=zp.add mix qA qB k22 rfl rfl r23
theorem k24:zp Tryz.prog m24:=zp.add mix qA qB k23 rfl rfl r24
theorem k25:zp Tryz.prog m25:=zp.add mix qA qB k24 rfl rfl r25
theorem k26:zp Tryz.prog m26:=zp.add mix qA qB k25 rfl rfl r26
theorem k27:zp Tryz.prog m27:=zp.add mix qA qB k26 rfl rfl r27
theorem k28:zp Tryz.prog m28:=zp.add mix qA qB k27 rfl rfl r28
theorem k29:zp Tryz.prog m29:=zp.add mix qA qB k28 rfl rfl r29
theorem zGD (h:Heap):zA Tryz.prog 6 [] h fun a b=>a= .bool true∧b=h:=k29.1 h
theorem zLz {l:List UInt8} {d:D} (hd:zX 1 (zBv l) d) (hl:l.length≤1048576) {g:FuncId} {fst cap:List D} {p:UInt8→Bool} (hp:∀s∈l,∀h,zA Tryz.prog g (fst++ [.int .u8 (s.toNat:Int)]++cap) h fun r h'=>h'=h∧r= .bool (p s)) (h:Heap):
  zA Tryz.prog 209 [d, .fn (.func g) fst cap] h fun r h'=>h'=h∧r= .int .i64 (match l.findIdx? p with|some i=>(i:Int)|none=> -1):=by
 refine zA.of_fn (g:=zSX) mix Tryz.func209 zc9 rfl rfl ?_;simp only[Tryz.f209,gJ];have hll:((zBv l).length:Int)=l.length:=by rw[zCG]
 simp only[go_sem,Nat.reduceEqDiff,↓reduceIte,zP hd Tryz.underlying113,hll];refine yG (fun i fr h'=>fr 0=d∧fr 1= .fn (.func g) fst cap∧fr 7= .int .i64 l.length∧fr 8= .int .i64 (i:Int)∧h'=h∧∀j (hj:j<l.length),j<i→p l[j]=false) l.length (by simp[go_sem]) ?_;rintro i fr h' hi ⟨f0,f1,f7,f8,rfl,hj⟩;simp only[go_sem,Nat.reduceEqDiff,↓reduceIte,f0,f1,f7,f8];by_cases hlt:i<l.length
 ·rw[decide_eq_true (by exact_mod_cast hlt)];simp only[go_sem,Nat.reduceEqDiff,↓reduceIte,f0,f1,f7,f8,zE hd wq zIN (zAy hlt),zC];refine(hp _ (List.getElem_mem hlt) _).mono ?_;rintro r h2 ⟨rfl,rfl⟩;cases he:p l[i] with
  |true=>
   simp only[go_sem,Nat.reduceEqDiff,↓reduceIte]
   have:l.findIdx? p=some i:=by
    rw[List.findIdx?_eq_some_iff_getElem];exact⟨hlt,he,fun j hji=>by rw[hj j (by omega) hji];exact Bool.false_ne_true⟩
   rw[this]
  |false=>
   simp only[go_sem,Nat.reduceEqDiff,↓reduceIte];refine⟨hlt,by rw[zf (by unfold lim;omega)],fun j hjl hji=> ?_⟩;rcases Nat.lt_succ_iff_lt_or_eq.1 hji with hji|rfl
   ·exact hj j hjl hji
   ·exact he
 ·have hie:i=l.length:=by omega
  subst hie;rw[decide_eq_false (by omega)];simp only[go_sem,Nat.reduceEqDiff,↓reduceIte]
  have:l.findIdx? p=none:=by
   rw[List.findIdx?_eq_none_iff];intro n hn;obtain⟨j,hjl,rfl⟩:=List.mem_iff_getElem.1 hn;exact hj j hjl hjl
  rw[this]
theorem zHY {l:List UInt8} {d:D} (hd:zX 1 (zBv l) d) (hl:l.length≤1048576) {g:FuncId} {fst cap:List D} {p:UInt8→Bool} (hp:∀s∈l,∀h,zA Tryz.prog g (fst++ [.int .u8 (s.toNat:Int)]++cap) h fun r h'=>h'=h∧r= .bool (p s)) (h:Heap):
  zA Tryz.prog 161 [d, .fn (.func g) fst cap] h fun r h'=>h'=h∧r= .bool (l.any p):=by
 refine zA.of_fn (g:=zSL) mix Tryz.func161 zcu rfl rfl ?_;simp only[Tryz.f161,gJ];simp only[go_sem,Nat.reduceEqDiff,↓reduceIte];refine(zLz hd hl hp _).mono ?_;rintro r h2 ⟨rfl,rfl⟩;simp only[go_sem,Nat.reduceEqDiff,↓reduceIte];exact congrArg D.bool (zDD (l:=l) (p:=p))
def zHZ (b:UInt8):Bool:=decide ((b.toNat:Int)<32)||decide ((b.toNat:Int)>126)
theorem zS2 (b:UInt8) (h:Heap):zA Tryz.prog 162 [.int .u8 (b.toNat:Int)] h fun r h'=>h'=h∧r= .bool (zHZ b):=by
 refine zA.of_fn (g:=zSW) mix Tryz.func162 zc8 rfl rfl ?_;simp only[Tryz.f162,gJ];cases h1:decide ((b.toNat:Int)<32) with
 |true=>
  simp only[go_sem,Nat.reduceEqDiff,↓reduceIte,h1];simp only[zHZ,h1,Bool.true_or]
 |false=>
  simp only[go_sem,Nat.reduceEqDiff,↓reduceIte,h1];simp only[zHZ,h1,Bool.false_or]
def wu (s:List UInt8):Bool:= !(decide (s.length<1)||decide (s.length>200)|| !(Lib.trimS s [32,42,47]==s))&& !s.any zHZ
theorem zVK {s:List UInt8} (hl:s.length≤1048576) (h:Heap):zA Tryz.prog 107 [.str s] h fun r h'=>h'=h∧r= .bool (wu s):=by
 refine zA.of_fn (g:=zSH) mix Tryz.func107 zcr rfl rfl ?_;simp only[Tryz.f107,gJ];have e1:decide ((s.length:Int)<1)=decide (s.length<1):=by
  by_cases e:s.length<1
  ·rw[decide_eq_true e,decide_eq_true (by omega)]
  ·rw[decide_eq_false e,decide_eq_false (by omega)]
 have e2:decide ((s.length:Int)>200)=decide (s.length>200):=by
  by_cases e:s.length>200
  ·rw[decide_eq_true e,decide_eq_true (by omega)]
  ·rw[decide_eq_false e,decide_eq_false (by omega)]
 cases h1:decide (s.length<1) with
 |true=>
  simp only[go_sem,Nat.reduceEqDiff,↓reduceIte,z7 Tryz.underlying9,e1,h1];simp only[wu,h1,Bool.true_or,Bool.not_true,Bool.false_and]
 |false=>
 cases h2:decide (s.length>200) with
 |true=>
  simp only[go_sem,Nat.reduceEqDiff,↓reduceIte,z7 Tryz.underlying9,e1,h1,e2,h2];simp only[wu,h1,h2,Bool.true_or,Bool.or_true,Bool.not_true,Bool.false_and]
 |false=>
 simp only[go_sem,Nat.reduceEqDiff,↓reduceIte,z7 Tryz.underlying9,e1,h1,e2,h2];refine(zO2 hl (c:=[32,42,47]) rfl (by simp) h).mono ?_;rintro r h' ⟨rfl,rfl⟩;cases h3:(Lib.trimS s [32,42,47]==s) with
 |false=>
  simp only[go_sem,Nat.reduceEqDiff,↓reduceIte,h3];simp only[wu,h1,h2,h3,Bool.false_or,Bool.not_false,Bool.not_true,Bool.false_and]
 |true=>
  simp only[go_sem,Nat.reduceEqDiff,↓reduceIte,h3,zFL];refine(zHY (zX.mk .no) hl (p:=zHZ) (fun b _ h=>zS2 b h) h').mono ?_;rintro r h2' ⟨rfl,rfl⟩;simp only[vun,go_sem,Nat.reduceEqDiff,↓reduceIte];simp only[wu,h1,h2,h3,Bool.false_or,Bool.not_false,Bool.not_true,Bool.true_and]
theorem zS3 (h:Heap):zA Tryz.prog 106 [] h fun r h'=>h'=h∧r= .sl 1 [[.str [76,105,99,101,110,115,101,58]],[.str [67,111,112,121,114,105,103,104,116,58]]] .no:=
 zA.of_run (sett:=fun _=>true) (ext:=zDH) (fuel:=20) (k:=10) mix qA qB (by kernel_rfl) (by kernel_rfl) (by kernel_rfl) h
theorem zZb {s:List UInt8} (hl:s.length≤1048576) (h:Heap):zA Tryz.prog 60 [.int .i64 1, .str s] h fun r h'=>h'=h∧∃x,r= .tuple [.str x, .int .i64 (if wu s then 0 else 4)]:=by
 refine zA.of_fn (g:=zY4) mix Tryz.func60 ziN rfl rfl ?_;simp only[Tryz.f60,gJ];have g1:decide ((1:Int)<0)=false:=rfl;have g2:∀ (xs:List (List D)),xs.length=2→decide ((1:Int)≥(xs.length:Int))=false:=fun xs hx=>by rw[hx];rfl
 have gl:(([[.str [76,105,99,101,110,115,101,58]],[.str [67,111,112,121,114,105,103,104,116,58]]]:List (List D)).length:Int)=2:=rfl;have g3:decide ((1:Int)≥2)=false:=rfl;simp only[go_sem,Nat.reduceEqDiff,↓reduceIte,g1];refine(zS3 h).mono ?_;rintro r h ⟨rfl,rfl⟩;simp only[go_sem,Nat.reduceEqDiff,↓reduceIte,zP (zX.mk .no) Tryz.underlying31,gl,g3];refine(zVK hl h).mono ?_;rintro r h ⟨rfl,rfl⟩;cases ht:wu s with
 |false=>
  simp only[vun,go_sem,Nat.reduceEqDiff,↓reduceIte];exact⟨_,rfl⟩
 |true=>
  simp only[vun,go_sem,Nat.reduceEqDiff,↓reduceIte];refine(zS3 h).mono ?_;rintro r h ⟨rfl,rfl⟩;have hix:zR Tryz.prog 31 (.sl 1 [[.str [76,105,99,101,110,115,101,58]],[.str [67,111,112,121,114,105,103,104,116,58]]] .no) (.int .i64 1)=some (.iptr [.str [67,111,112,121,114,105,103,104,116,58]] 0):=zE (i:=1) (zX.mk .no) zd yu rfl;have ha:∀a b:List UInt8,a.length≤2000000→b.length≤2000000→zF3 .add a b=some (.str (a++b)):=fun a b h1 h2=>by
   simp only[zF3];rw[if_pos (by unfold lim;omega)]
  have hsl:s.length≤200:=by
   unfold wu at ht;simp only[Bool.and_eq_true,Bool.not_eq_true',Bool.or_eq_false_iff,decide_eq_false_iff_not] at ht;omega
  simp only[go_sem,Nat.reduceEqDiff,↓reduceIte,hix,zC,List.getElem?_cons_zero];rw[ha _ _ (by simp) (by simp)];simp only[go_sem];rw[ha _ _ (by simp) (by simp)];simp only[go_sem];rw[ha _ _ (by simp) (by omega)];simp only[go_sem,Nat.reduceEqDiff,↓reduceIte];exact⟨_,rfl⟩
theorem zVL {s:List UInt8} (hl:s.length≤1048576) (h:Heap):zA Tryz.prog 57 [.str s] h fun r h'=>h'=h∧r= .bool (ye s):=by
 refine zA.of_fn (g:=zZH) mix Tryz.func57 zik rfl rfl ?_;simp only[Tryz.f57,gJ];cases s with
 |nil=>
  have e1:decide ((([]:List UInt8).length:Int)<1)=true:=rfl;simp only[go_sem,Nat.reduceEqDiff,↓reduceIte,z7 Tryz.underlying9,e1,ye]
 |cons b r=>
  have e1:decide (((b::r).length:Int)<1)=false:=decide_eq_false (by simp only[List.length_cons];omega);have e2:decide (((b::r).length:Int)>32)=decide ((b::r).length>32):=by
   by_cases e:(b::r).length>32
   ·rw[decide_eq_true e,decide_eq_true (by omega)]
   ·rw[decide_eq_false e,decide_eq_false (by omega)]
  have hi:zA2 Tryz.prog 9 (.str (b::r)) (.int .i64 0)=some (.int .u8 b.toNat):=wj (n:=0) Tryz.underlying9 rfl;cases h2:decide ((b::r).length>32) with
  |true=>
   simp only[go_sem,Nat.reduceEqDiff,↓reduceIte,z7 Tryz.underlying9,e1,e2,h2];simp only[ye,h2,Bool.true_or,Bool.not_true,Bool.false_and]
  |false=>
  cases h3:decide ((b.toNat:Int)<97) with
  |true=>
   simp only[go_sem,Nat.reduceEqDiff,↓reduceIte,z7 Tryz.underlying9,e1,e2,h2,hi,h3];simp only[ye,h2,h3,Bool.true_or,Bool.or_true,Bool.not_true,Bool.false_and]
  |false=>
  cases h4:decide ((b.toNat:Int)>122) with
  |true=>
   simp only[go_sem,Nat.reduceEqDiff,↓reduceIte,z7 Tryz.underlying9,e1,e2,h2,hi,h3,h4];simp only[ye,h2,h3,h4,Bool.true_or,Bool.or_true,Bool.not_true,Bool.false_and]
  |false=>
  cases h5:((b::r:List UInt8)== [97,110,100]) with
  |true=>
   simp only[go_sem,Nat.reduceEqDiff,↓reduceIte,z7 Tryz.underlying9,e1,e2,h2,hi,h3,h4,h5];simp only[ye,h2,h3,h4,h5,Bool.true_or,Bool.or_true,Bool.not_true,Bool.false_and]
  |false=>
  cases h6:((b::r:List UInt8)== [111,114]) with
  |true=>
   simp only[go_sem,Nat.reduceEqDiff,↓reduceIte,z7 Tryz.underlying9,e1,e2,h2,hi,h3,h4,h5,h6];simp only[ye,h2,h3,h4,h5,h6,Bool.true_or,Bool.or_true,Bool.not_true,Bool.false_and]
  |false=>
  cases h7:((b::r:List UInt8)== [119,105,116,104]) with
  |true=>
   simp only[go_sem,Nat.reduceEqDiff,↓reduceIte,z7 Tryz.underlying9,e1,e2,h2,hi,h3,h4,h5,h6,h7];simp only[ye,h2,h3,h4,h5,h6,h7,Bool.true_or,Bool.or_true,Bool.not_true,Bool.false_and]
  |false=>
   simp only[go_sem,Nat.reduceEqDiff,↓reduceIte,z7 Tryz.underlying9,e1,e2,h2,hi,h3,h4,h5,h6,h7];refine(zO2 hl (c:=zDl) (by decide) (by decide) h).mono ?_;rintro r2 h' ⟨rfl,rfl⟩;simp only[go_sem,Nat.reduceEqDiff,↓reduceIte];simp only[ye,h2,h3,h4,h5,h6,h7,Bool.false_or,Bool.not_false,Bool.true_and]
theorem zS4 {s:List UInt8} (hl:s.length≤1048576) (h:Heap):zA Tryz.prog 48 [.str s] h fun r h'=>h'=h∧Fin 1 (zt (yK s)) r:=by
 refine zA.of_fn (g:=zZG) mix Tryz.func48 zij rfl rfl ?_;simp only[Tryz.f48,gJ];cases h1:(s== []) with
 |true=>
  simp only[go_sem,Nat.reduceEqDiff,↓reduceIte,h1]
  have:s= []:=by simpa using h1
  subst this;exact .inl ⟨rfl,rfl⟩
 |false=>
  simp only[go_sem,Nat.reduceEqDiff,↓reduceIte,h1];refine(zNP hl 10 h).mono ?_;rintro r h' ⟨rfl,rfl⟩;simp only[go_sem,Nat.reduceEqDiff,↓reduceIte]
  have:s≠[]:=by simpa using h1
  rw[yK,if_neg this];exact .inr rfl
theorem zNT {s:List UInt8} (hl:s.length≤1048576) (h:Heap):zA Tryz.prog 58 [.str s] h fun r h'=>h'=h∧r= .int .i64 (qN s):=by
 refine zA.of_fn (g:=zZL) mix Tryz.func58 ziu rfl rfl ?_;simp only[Tryz.f58,gJ];have e1:decide ((s.length:Int)>4096)=decide (s.length>4096):=by
  by_cases e:s.length>4096
  ·rw[decide_eq_true e,decide_eq_true (by omega)]
  ·rw[decide_eq_false e,decide_eq_false (by omega)]
 have e2:decide (((zt (yK s)).length:Int)>999)=decide ((yK s).length>999):=by
  rw[zJ];by_cases e:(yK s).length>999
  ·rw[decide_eq_true e,decide_eq_true (by omega)]
  ·rw[decide_eq_false e,decide_eq_false (by omega)]
 cases h1:decide (s.length>4096) with
 |true=>
  simp only[go_sem,Nat.reduceEqDiff,↓reduceIte,z7 Tryz.underlying9,e1,h1];rw[qN,if_pos (.inl (of_decide_eq_true h1))]
 |false=>
 have g1:=of_decide_eq_false h1;simp only[go_sem,Nat.reduceEqDiff,↓reduceIte,z7 Tryz.underlying9,e1,h1];refine(zS4 hl h).mono ?_;rintro r h ⟨rfl,hr⟩;cases h2:decide ((yK s).length>999) with
 |true=>
  simp only[go_sem,Nat.reduceEqDiff,↓reduceIte,zP hr.isSl Tryz.underlying31,e2,h2];rw[qN,if_pos (.inr (of_decide_eq_true h2))]
 |false=>
 have g2:=of_decide_eq_false h2;have hll:((zBv s).length:Int)=s.length:=by rw[zCG]
 simp only[go_sem,Nat.reduceEqDiff,↓reduceIte,zP hr.isSl Tryz.underlying31,e2,h2,zFL,zP (zX.mk .no) Tryz.underlying113,hll];refine yG (fun i fr h'=>fr 15= .sl 1 (zBv s) .no∧fr 16= .int .i64 s.length∧fr 17= .int .i64 (i:Int)∧h'=h∧∀j (hj:j<s.length),j<i→qI s[j]=false) s.length (by simp[go_sem]) ?_;rintro i fr h' hi ⟨f15,f16,f17,rfl,hj⟩;simp only[go_sem,Nat.reduceEqDiff,↓reduceIte,f15,f16,f17];by_cases hlt:i<s.length
 ·rw[decide_eq_true (by exact_mod_cast hlt)];have bad:qI s[i]=true→qN s=4:=fun hb=>by
   rw[qN,if_neg (fun e=>e.elim g1 g2),if_pos (List.any_eq_true.2 ⟨_,List.getElem_mem hlt,hb⟩)]
  have good:qI s[i]=false→∀j (hj:j<s.length),j<i+1→qI s[j]=false:=fun hb j hjl hji=>by
   rcases Nat.lt_succ_iff_lt_or_eq.1 hji with hji|rfl
   ·exact hj j hjl hji
   ·exact hb
  cases h3:((s[i].toNat:Int) !=10) with
  |false=>
   simp only[go_sem,Nat.reduceEqDiff,↓reduceIte,f15,f16,f17,zE (zX.mk .no) wq zIN (zAy hlt),zC,List.getElem?_cons_zero,h3];exact⟨hlt,by rw[zf (by unfold lim;omega)],good (by simp only[qI,h3,Bool.false_and])⟩
  |true=>
  cases h4:decide ((s[i].toNat:Int)<32) with
  |true=>
   simp only[go_sem,Nat.reduceEqDiff,↓reduceIte,f15,f16,f17,zE (zX.mk .no) wq zIN (zAy hlt),zC,List.getElem?_cons_zero,h3,h4];rw[bad (by simp only[qI,h3,h4,Bool.true_or,Bool.and_self])]
  |false=>
  cases h5:decide ((s[i].toNat:Int)>126) with
  |true=>
   simp only[go_sem,Nat.reduceEqDiff,↓reduceIte,f15,f16,f17,zE (zX.mk .no) wq zIN (zAy hlt),zC,List.getElem?_cons_zero,h3,h4,h5];rw[bad (by simp only[qI,h3,h4,h5,Bool.or_true,Bool.and_self])]
  |false=>
   simp only[go_sem,Nat.reduceEqDiff,↓reduceIte,f15,f16,f17,zE (zX.mk .no) wq zIN (zAy hlt),zC,List.getElem?_cons_zero,h3,h4,h5];exact⟨hlt,by rw[zf (by unfold lim;omega)],good (by simp only[qI,h3,h4,h5,Bool.or_self,Bool.and_false])⟩
 ·have hie:i=s.length:=by omega
  subst hie;rw[decide_eq_false (by omega)];simp only[go_sem,Nat.reduceEqDiff,↓reduceIte]
  have:s.any qI=false:=by
   rw[List.any_eq_false];intro x hx;obtain⟨j,hjl,rfl⟩:=List.mem_iff_getElem.1 hx;rw[hj j hjl hjl];exact Bool.false_ne_true
  rw[qN,if_neg (fun e=>e.elim g1 g2),if_neg (by rw[this];exact Bool.false_ne_true)]
def leS (a b:List UInt8):Bool:=zIB a b||a==b
def zBJ (e:Nat→Int) (l:List (List UInt8)) (i:Nat):Int:=if e i≠0 then e i else if 0<i∧leS (l.getD i []) (l.getD (i-1) [])=true then 5 else 0
def zDV (e:Nat→Int):Nat→Int
 |0=>0
 |n+1=>if zDV e n≠0 then zDV e n else e n
def zAh (e:Nat→Int) (l:List (List UInt8)):Int:=zDV (zBJ e l) l.length
theorem zAO {e:Nat→Int} :∀ {n:Nat},zDV e n=0↔∀i,i<n→e i=0
 |0=>by simp[zDV]
 |n+1=>by
  have ih:=zAO (e:=e) (n:=n);simp only[zDV];constructor
  ·intro h;have h0:zDV e n=0:=by
    by_cases q:zDV e n=0
    ·exact q
    ·rw[if_pos q] at h;exact h
   rw[if_neg (by simp[h0])] at h;intro i hi;rcases Nat.lt_succ_iff_lt_or_eq.1 hi with hi|rfl
   ·exact ih.1 h0 i hi
   ·exact h
  ·intro h;have h0:=ih.2 fun i hi=>h i (by omega);rw[if_neg (by simp[h0])];exact h n (by omega)
theorem zL0 {e:Nat→Int} :∀ {n i:Nat},i<n→(∀j,j<i→e j=0)→e i≠0→zDV e n=e i
 |0,i,h,_,_=>by omega
 |n+1,i,h,hj,hi=>by
  simp only[zDV];by_cases q:i<n
  ·rw[zL0 q hj hi,if_pos hi]
  ·have:i=n:=by omega
   subst this;rw[if_neg (by rw[zAO.2 hj];simp)]
theorem zO4 (a b:List UInt8):zF3 .leq a b=some (.bool (leS a b)):=rfl
theorem zCp {l:List (List UInt8)} {d:D} (hd:zX 1 (zt l) d) (hl:l.length≤1048576) {g:FuncId} {fst cap:List D} {e:Nat→Int} (he:∀i,i<l.length→∀h,zA Tryz.prog g (fst++ [.int .i64 (i:Int)]++cap) h fun r h'=>h'=h∧r= .int .i64 (e i)) (h:Heap):
  zA Tryz.prog 55 [d, .fn (.func g) fst cap] h fun r h'=>h'=h∧r= .int .i64 (zAh e l):=by
 refine zA.of_fn (g:=zY8) mix Tryz.func55 ziU rfl rfl ?_;simp only[Tryz.f55,gJ];have hll:((zt l).length:Int)=l.length:=by rw[zJ]
 simp only[go_sem,Nat.reduceEqDiff,↓reduceIte,zP hd Tryz.underlying31,hll];refine yG (fun i fr h'=>fr 0=d∧fr 1= .fn (.func g) fst cap∧fr 8= .int .i64 l.length∧fr 9= .int .i64 (i:Int)∧h'=h∧∀j,j<i→zBJ e l j=0) l.length (by simp[go_sem]) ?_;rintro i fr h' hi ⟨f0,f1,f8,f9,rfl,hj⟩;simp only[go_sem,Nat.reduceEqDiff,↓reduceIte,f0,f1,f8,f9];by_cases hlt:i<l.length
 ·rw[decide_eq_true (by exact_mod_cast hlt)];simp only[go_sem,Nat.reduceEqDiff,↓reduceIte,f0,f1,f8,f9];refine(he i hlt h').mono ?_;rintro r h2 ⟨rfl,rfl⟩;have bad:zBJ e l i≠0→zAh e l=zBJ e l i:=fun hb=>zL0 hlt hj hb;cases h1:(e i !=0) with
  |true=>
   have hne:e i≠0:=by simpa using h1
   have hat:zBJ e l i=e i:=by rw[zBJ,if_pos hne]
   simp only[go_sem,Nat.reduceEqDiff,↓reduceIte,h1];rw[bad (by rw[hat];exact hne),hat]
  |false=>
   have heq:e i=0:=by simpa using h1
   simp only[go_sem,Nat.reduceEqDiff,↓reduceIte,h1,f0,f1,f8,f9];by_cases h0:0<i
   ·have hd0:decide ((i:Int)>0)=true:=decide_eq_true (by omega);have hw:IntKind.i64.wrap ((i:Int)-1)=((i-1:Nat):Int):=by rw[zx (by omega) (by omega)];omega
    have hlt':i-1<l.length:=by omega
    have g1:l.getD i []=l[i]:=by simp[hlt]
    have g2:l.getD (i-1) []=l[i-1]:=by simp[hlt']
    cases hle:leS l[i] l[i-1] with
    |true=>
     refine zi (by kernel_rfl) ?_;simp only[go_sem,Nat.reduceEqDiff,↓reduceIte,f0,f1,f8,f9,hd0,hw,zE hd zd yu (yy hlt),zE hd zd yu (yy hlt'),zC,List.getElem?_cons_zero,zO4,hle];have hat:zBJ e l i=5:=by rw[zBJ,if_neg (by simp[heq]),if_pos ⟨h0,by rw[g1,g2];exact hle⟩]
     rw[bad (by rw[hat];simp),hat]
    |false=>
     refine zi (by kernel_rfl) ?_;simp only[go_sem,Nat.reduceEqDiff,↓reduceIte,f0,f1,f8,f9,hd0,hw,zE hd zd yu (yy hlt),zE hd zd yu (yy hlt'),zC,List.getElem?_cons_zero,zO4,hle];have hat:zBJ e l i=0:=by rw[zBJ,if_neg (by simp[heq]),if_neg (fun q=>by rw[g1,g2,hle] at q;exact Bool.false_ne_true q.2)]
     refine⟨hlt,by rw[zf (by unfold lim;omega)],fun j hji=> ?_⟩;rcases Nat.lt_succ_iff_lt_or_eq.1 hji with hji|rfl
     ·exact hj j hji
     ·exact hat
   ·have hd0:decide ((i:Int)>0)=false:=decide_eq_false (by omega);refine zi (by kernel_rfl) ?_;simp only[go_sem,Nat.reduceEqDiff,↓reduceIte,f0,f1,f8,f9,hd0];have hat:zBJ e l i=0:=by rw[zBJ,if_neg (by simp[heq]),if_neg (fun q=>h0 q.1)]
    refine⟨hlt,by rw[zf (by unfold lim;omega)],fun j hji=> ?_⟩;rcases Nat.lt_succ_iff_lt_or_eq.1 hji with hji|rfl
    ·exact hj j hji
    ·exact hat
 ·have hie:i=l.length:=by omega
  subst hie;rw[decide_eq_false (by omega)];simp only[go_sem,Nat.reduceEqDiff,↓reduceIte];rw[zAh,zAO.2 hj]
structure Note where
 ls:List (List UInt8)
 ts:List (List UInt8)
 hs:List (List UInt8)
 cs:List (List UInt8)
def SmL (l:List (List UInt8)):Prop:=l.length≤1048576∧∀s∈l,s.length≤1048576
structure Note.Sm (n:Note):Prop where
 ls:SmL n.ls
 ts:SmL n.ts
 hs:SmL n.hs
 cs:SmL n.cs
def zBw (n:Note) (d:D):Prop:=∃a b c e,d= .agg [a,b,c,e]∧zX 1 (zt n.ls) a∧zX 1 (zt n.ts) b∧zX 1 (zt n.hs) c∧zX 1 (zt n.cs) e
def zFO (n:Note) (i:Nat):Int:=if ye (n.ls.getD i []) then qN (n.ts.getD i []) else 2
def zCR (n:Note) (i:Nat):Int:=if wu (n.hs.getD i []) then 0 else 4
def zAt (n:Note) (i:Nat):Int:=zGC (n.cs.getD i [])
def zw (n:Note):Int:=
 if max (max (max n.ls.length n.ts.length) n.hs.length) n.cs.length>1024 then 10
 else if n.ts.length≠n.ls.length then 9
 else if zAh (zFO n) n.ls≠0 then zAh (zFO n) n.ls
 else if zAh (zCR n) n.hs≠0 then zAh (zCR n) n.hs
 else zAh (zAt n) n.cs
theorem wJ {l:List (List UInt8)} {i:Nat} (h:i<l.length):l.getD i []=l[i]:=by simp[h]
theorem zVM {n:Note} {a b c e:D} (ha:zX 1 (zt n.ls) a) (hb:zX 1 (zt n.ts) b) (hs:n.Sm) (hl:n.ts.length=n.ls.length) {i:Nat} (hi:i<n.ls.length) (h:Heap):
  zA Tryz.prog 56 [.int .i64 (i:Int), .iptr [a,b,c,e] 0] h fun r h'=>h'=h∧r= .int .i64 (zFO n i):=by
 refine zA.of_fn (g:=zZC) mix Tryz.func56 zic rfl rfl ?_;simp only[Tryz.f56,gJ];have hi':i<n.ts.length:=by omega
 simp only[go_sem,Nat.reduceEqDiff,↓reduceIte,zI,Nat.reduceAdd,Nat.zero_add,zC,List.getElem?_cons_zero,List.getElem?_cons_succ,zE ha zd yu (yy hi)];refine(zVL (hs.ls.2 _ (List.getElem_mem hi)) h).mono ?_;rintro r h ⟨rfl,rfl⟩;cases h1:ye n.ls[i] with
 |false=>
  simp only[vun,go_sem,Nat.reduceEqDiff,↓reduceIte,Bool.not_false,Bool.not_true];rw[zFO,wJ hi,h1];rfl
 |true=>
  simp only[vun,go_sem,Nat.reduceEqDiff,↓reduceIte,Bool.not_false,Bool.not_true,zI,Nat.reduceAdd,Nat.zero_add,zC,List.getElem?_cons_zero,List.getElem?_cons_succ,zE hb zd yu (yy hi')];refine(zNT (hs.ts.2 _ (List.getElem_mem hi')) h).mono ?_;rintro r h ⟨rfl,rfl⟩;simp only[go_sem,Nat.reduceEqDiff,↓reduceIte];rw[zFO,wJ hi,wJ hi',h1];rfl
theorem zVN {n:Note} {a b c e:D} (hc:zX 1 (zt n.hs) c) (hs:n.Sm) {i:Nat} (hi:i<n.hs.length) (h:Heap):
  zA Tryz.prog 59 [.int .i64 (i:Int), .iptr [a,b,c,e] 0] h fun r h'=>h'=h∧r= .int .i64 (zCR n i):=by
 refine zA.of_fn (g:=zZO) mix Tryz.func59 ziz rfl rfl ?_;simp only[Tryz.f59,gJ];simp only[go_sem,Nat.reduceEqDiff,↓reduceIte,zI,Nat.reduceAdd,Nat.zero_add,zC,List.getElem?_cons_zero,List.getElem?_cons_succ,zE hc zd yu (yy hi)];refine(zZb (hs.hs.2 _ (List.getElem_mem hi)) h).mono ?_;rintro r h ⟨rfl,x,rfl⟩;simp only[go_sem,Nat.reduceEqDiff,↓reduceIte,zo,List.getElem?_cons_zero,List.getElem?_cons_succ];rw[zCR,wJ hi]
theorem zVO {n:Note} {a b c e:D} (he:zX 1 (zt n.cs) e) (hs:n.Sm) {i:Nat} (hi:i<n.cs.length) (h:Heap):
  zA Tryz.prog 61 [.int .i64 (i:Int), .iptr [a,b,c,e] 0] h fun r h'=>h'=h∧r= .int .i64 (zAt n i):=by
 refine zA.of_fn (g:=zcU) mix Tryz.func61 zjW rfl rfl ?_;simp only[Tryz.f61,gJ];simp only[go_sem,Nat.reduceEqDiff,↓reduceIte,zI,Nat.reduceAdd,Nat.zero_add,zC,List.getElem?_cons_zero,List.getElem?_cons_succ,zE he zd yu (yy hi)];refine(zFN (hs.cs.2 _ (List.getElem_mem hi)) h).mono ?_;rintro r h ⟨rfl,rfl⟩;simp only[go_sem,Nat.reduceEqDiff,↓reduceIte];rw[zAt,wJ hi]
theorem zVP (a b:Nat):zQp (.int .i64 (a:Int)) (.int .i64 (b:Int))=some (.int .i64 ((max a b:Nat):Int)):=by
 simp only[zQp,if_true];by_cases q:(b:Int)>a
 ·rw[if_pos q,Nat.max_eq_right (by omega)]
 ·rw[if_neg q,Nat.max_eq_left (by omega)]
theorem wv (a b c e:Nat):zIE (.int .i64 (a:Int)) [.int .i64 (b:Int), .int .i64 (c:Int), .int .i64 (e:Int)]=some (.int .i64 ((max (max (max a b) c) e:Nat):Int)):=by
 simp only[zIE,zVP]
theorem zHa {n:Note} {d:D} (hd:zBw n d) (hs:n.Sm) (h:Heap):
  zA Tryz.prog 26 [d] h fun r h'=>h'=h∧r= .int .i64 (zw n):=by
 obtain⟨a,b,c,e,rfl,ha,hb,hc,he⟩:=hd;refine zA.of_fn (g:=zSd) mix Tryz.func26 zg0 rfl rfl ?_;simp only[Tryz.f26,gJ];have l1:((zt n.ls).length:Int)=n.ls.length:=by rw[zJ]
 have l2:((zt n.ts).length:Int)=n.ts.length:=by rw[zJ]
 have l3:((zt n.hs).length:Int)=n.hs.length:=by rw[zJ]
 have l4:((zt n.cs).length:Int)=n.cs.length:=by rw[zJ]
 have e1:decide (((max (max (max n.ls.length n.ts.length) n.hs.length) n.cs.length:Nat):Int)>1024)=decide (max (max (max n.ls.length n.ts.length) n.hs.length) n.cs.length>1024):=by
  by_cases q:max (max (max n.ls.length n.ts.length) n.hs.length) n.cs.length>1024
  ·rw[decide_eq_true q,decide_eq_true (by omega)]
  ·rw[decide_eq_false q,decide_eq_false (by omega)]
 cases h1:decide (max (max (max n.ls.length n.ts.length) n.hs.length) n.cs.length>1024) with
 |true=>
  simp only[go_sem,Nat.reduceEqDiff,↓reduceIte,zU8,List.contains_nil,D.notTuple,D.cells,zI,Nat.reduceAdd,Nat.zero_add,zC,List.getElem?_cons_zero,List.getElem?_cons_succ,zP ha Tryz.underlying31,zP hb Tryz.underlying31,zP hc Tryz.underlying31,zP he Tryz.underlying31,l1,l2,l3,l4,wv,e1,h1];rw[zw,if_pos (of_decide_eq_true h1)]
 |false=>
 have g1:=of_decide_eq_false h1;cases h2:((n.ts.length:Int) !=n.ls.length) with
 |true=>
  simp only[go_sem,Nat.reduceEqDiff,↓reduceIte,zU8,List.contains_nil,D.notTuple,D.cells,zI,Nat.reduceAdd,Nat.zero_add,zC,List.getElem?_cons_zero,List.getElem?_cons_succ,zP ha Tryz.underlying31,zP hb Tryz.underlying31,zP hc Tryz.underlying31,zP he Tryz.underlying31,l1,l2,l3,l4,wv,e1,h1,h2];rw[zw,if_neg g1,if_pos (by simp at h2;omega)]
 |false=>
 have g2:n.ts.length=n.ls.length:=by simp at h2;omega
 have hck:zw n=if zAh (zFO n) n.ls≠0 then zAh (zFO n) n.ls else if zAh (zCR n) n.hs≠0 then zAh (zCR n) n.hs else zAh (zAt n) n.cs:=by
  rw[zw,if_neg g1,if_neg (by simp[g2])]
 simp only[go_sem,Nat.reduceEqDiff,↓reduceIte,zU8,List.contains_nil,D.notTuple,D.cells,zI,Nat.reduceAdd,Nat.zero_add,zC,List.getElem?_cons_zero,List.getElem?_cons_succ,zP ha Tryz.underlying31,zP hb Tryz.underlying31,zP hc Tryz.underlying31,zP he Tryz.underlying31,l1,l2,l3,l4,wv,e1,h1,h2];refine(zCp ha hs.ls.1 (e:=zFO n) (g:=56) (fst:=[]) (cap:=[.iptr [a,b,c,e] 0]) (fun i hi h=>zVM ha hb hs g2 hi h) h).mono ?_;rintro r h ⟨rfl,rfl⟩;cases h3:(zAh (zFO n) n.ls !=0) with
 |true=>
  simp only[go_sem,Nat.reduceEqDiff,↓reduceIte,zU8,List.contains_nil,D.notTuple,D.cells,zI,Nat.reduceAdd,Nat.zero_add,zC,List.getElem?_cons_zero,List.getElem?_cons_succ,zP ha Tryz.underlying31,zP hb Tryz.underlying31,zP hc Tryz.underlying31,zP he Tryz.underlying31,l1,l2,l3,l4,wv,e1,h1,h2,h3];rw[hck,if_pos (by simpa using h3)]
 |false=>
 simp only[go_sem,Nat.reduceEqDiff,↓reduceIte,zU8,List.contains_nil,D.notTuple,D.cells,zI,Nat.reduceAdd,Nat.zero_add,zC,List.getElem?_cons_zero,List.getElem?_cons_succ,zP ha Tryz.underlying31,zP hb Tryz.underlying31,zP hc Tryz.underlying31,zP he Tryz.underlying31,l1,l2,l3,l4,wv,e1,h1,h2,h3];refine(zCp hc hs.hs.1 (e:=zCR n) (g:=59) (fst:=[]) (cap:=[.iptr [a,b,c,e] 0]) (fun i hi h=>zVN hc hs hi h) h).mono ?_;rintro r h ⟨rfl,rfl⟩;cases h4:(zAh (zCR n) n.hs !=0) with
 |true=>
  simp only[go_sem,Nat.reduceEqDiff,↓reduceIte,zU8,List.contains_nil,D.notTuple,D.cells,zI,Nat.reduceAdd,Nat.zero_add,zC,List.getElem?_cons_zero,List.getElem?_cons_succ,zP ha Tryz.underlying31,zP hb Tryz.underlying31,zP hc Tryz.underlying31,zP he Tryz.underlying31,l1,l2,l3,l4,wv,e1,h1,h2,h3,h4];rw[hck,if_neg (by simpa using h3),if_pos (by simpa using h4)]
 |false=>
 simp only[go_sem,Nat.reduceEqDiff,↓reduceIte,zU8,List.contains_nil,D.notTuple,D.cells,zI,Nat.reduceAdd,Nat.zero_add,zC,List.getElem?_cons_zero,List.getElem?_cons_succ,zP ha Tryz.underlying31,zP hb Tryz.underlying31,zP hc Tryz.underlying31,zP he Tryz.underlying31,l1,l2,l3,l4,wv,e1,h1,h2,h3,h4];refine(zCp he hs.cs.1 (e:=zAt n) (g:=61) (fst:=[]) (cap:=[.iptr [a,b,c,e] 0]) (fun i hi h=>zVO he hs hi h) h).mono ?_;rintro r h ⟨rfl,rfl⟩
 simp only[go_sem,Nat.reduceEqDiff,↓reduceIte,zU8,List.contains_nil,D.notTuple,D.cells,zI,Nat.reduceAdd,Nat.zero_add,zC,List.getElem?_cons_zero,List.getElem?_cons_succ,zP ha Tryz.underlying31,zP hb Tryz.underlying31,zP hc Tryz.underlying31,zP he Tryz.underlying31,l1,l2,l3,l4,wv,e1,h1,h2,h3,h4];rw[hck,if_neg (by simpa using h3),if_neg (by simpa using h4)]
theorem zS5 {id sz len:Nat} {cs rest:List D} {xs:List (List D)} (hx:∀x∈xs,x.length=sz) (hl:xs.length=len) (hc:cs=xs.flatten++rest):frz id cs (.rs id sz 0 len)= .sl sz xs .no:=by
 subst hc hl;simp only[frz];have hf:=qR hx;rw[if_pos ⟨trivial,by rw[List.length_append,hf];omega⟩,List.drop_zero,List.take_append_of_le_length (by rw[hf];omega),List.take_of_length_le (by rw[hf];omega),zAN hx]
theorem zZc {l:List (List UInt8)} {d:D} (hd:zX 1 (zt l) d) {h:Heap} {id nid n:Nat} {xs:List D} (ho:h.at' id=some (.row xs)) (hn:n≤xs.length) (hlen:n≤1048576) (hl:l.length≤1048576):
  ∃h2,yv (.rs id 1 0 n) d h=h2∧h2.next=h.next∧(∀j,j≠id→h2.at' j=h.at' j)∧zZ Tryz.prog true nid 31 (.rs id 1 0 n) d h2=some (.rs nid 1 0 (n+l.length),(h2.del id).new nid (.row (xs.take n++l.map sdd))):=by
 have hb:(n+l.length)*16≤lim:=by unfold lim;omega
 have hb2:n+l.length≤lim:=by unfold lim;omega
 have key:∀h2:Heap,h2.at' id=some (.row (xs.take n))→zZ Tryz.prog true nid 31 (.rs id 1 0 n) d h2=some (.rs nid 1 0 (n+l.length),(h2.del id).new nid (.row (xs.take n++l.map sdd))):=fun h2 e=>by
  have hv:zKy 1 d h2=some (l.map sdd):=by
   rcases hd with⟨rfl,hs⟩ | ⟨tk,rfl⟩
   ·have:l= []:=List.map_eq_nil_iff.1 hs;subst this;rfl
   ·simp only[zKy,if_true,zCl]
  have hlt:(xs.take n).length=n:=by rw[List.length_take];omega
  simp only[zZ,zd,zBq,yu,if_true,hv,Nat.div_one,yk,wO,List.length_map,Bool.true_and];rw[if_pos (by simp[hb,hb2]),e];simp only[];rw[if_pos (by omega)]
 by_cases hlt:n<xs.length
 ·refine⟨h.set id (.row (xs.take n)),?_,rfl,fun j hj=>by simp[Heap.set,hj],key _ (zF _ _ _)⟩;rcases hd with⟨rfl,hs⟩ | ⟨tk,rfl⟩ <;>simp[yv,ho,hlt]
 ·have ht:xs.take n=xs:=List.take_of_length_le (by omega);refine⟨h,?_,rfl,fun _ _=>rfl,key _ (by rw[ht];exact ho)⟩;rcases hd with⟨rfl,hs⟩ | ⟨tk,rfl⟩ <;>simp[yv,ho,hlt]
theorem zVQ {l:List (List UInt8)} {d:D} (hd:zX 1 (zt l) d) (h0:l≠[]) (hl:l.length≤1099511627776) (h:Heap):
  zA Tryz.prog 28 [d] h fun r h'=>r= .rs h.next 1 0 l.length∧h'=h.new h.next (.row (l.map sdd)):=by
 rcases hd with⟨rfl,hs⟩ | ⟨tk,rfl⟩
 ·exact absurd (List.map_eq_nil_iff.1 hs) h0
 refine zA.of_fn (g:=zUm) mix Tryz.func28 ziR rfl rfl ?_;simp only[Tryz.f28,gJ];have hn:zD1 Tryz.prog .eql 31 true (.sl 1 (zt l) tk) .nilsl=some (.bool false):=by rw[zCD (zX.mk tk) Tryz.underlying31];rfl
 simp only[go_sem,Nat.reduceEqDiff,↓reduceIte,hn,zjU,List.contains_cons,Nat.reduceBEq,zAg zd zCA yu rfl rfl (by omega:0<1)];have hpos:0<l.length:=List.length_pos_iff.2 h0
 have:zZ Tryz.prog true h.next 31 (.sl 1 [] .full) (.sl 1 (zt l) tk) h=some (.rs h.next 1 0 l.length,h.new h.next (.row (l.map sdd))):=by
  rw[zEW zd zBq yu (by omega) zDC (by rw[wO,zJ];unfold lim;omega) (by rw[zJ];unfold lim;omega),zJ,if_neg (by omega),zCl,zI4 Tryz.underlying9]
 simp only[yv,this,go_sem]
theorem zdh {n:Nat} (h0:0<n) (hn:n≤1048576*8) (h:Heap):
  zA Tryz.prog 99 [.nilsl, .int .i64 n] h fun r h'=>∃xs:List D,xs.length=n∧r= .rs h.next 1 0 0∧h'=h.new h.next (.row xs):=by
 refine zA.of_fn (g:=zSG) mix Tryz.func99 zgS rfl rfl ?_;simp only[Tryz.f99,gJ];have e1:decide ((n:Int)<0)=false:=decide_eq_false (by omega);have e2:IntKind.i64.wrap (0-0)=0:=rfl;have e3:IntKind.i64.wrap ((n:Int)-0)=n:=by rw[zx (by omega) (by omega)];omega
 have e4:decide ((n:Int)>0)=true:=decide_eq_true (by omega);have e5:yZ Tryz.prog 31 .nilsl none (some (.int .i64 0)) none h=some .nilsl:=by
  simp[yZ,zM9,zCN,zd,yu,qj,zIC,zJa]
 have e6:wn Tryz.prog true h.next 31 3 .nilsl (.int .i64 n) h=some (.rs h.next 1 0 n,h.new h.next (.row (zBW n [.str []]))):=by
  have hb:n*16≤lim:=by unfold lim;omega
  have hb2:n≤lim:=by unfold lim;omega
  simp only[wn,Tryz.underlying3,zd,zCA,yu,wO,Int.toNat_natCast,D.notTuple,D.cells];rw[if_pos (by simp[hb,hb2,h0]),zI4 Tryz.underlying9]
 have e7:yZ Tryz.prog 31 (.rs h.next 1 0 n) none (some (.int .i64 0)) none (h.new h.next (.row (zBW n [.str []])))=some (.rs h.next 1 0 0):=
  zBU (n:=0) zM9 zd yu (by omega)
 have e8:∀h:Heap,zAd Tryz.prog 31 .nilsl h=some (.int .i64 0):=fun h=>zP (sz:=1) zX.nil Tryz.underlying31;simp only[go_sem,Nat.reduceEqDiff,↓reduceIte,zio,List.contains_cons,Nat.reduceBEq,e1,e2,e3,e4,zKP Tryz.underlying31,e8,e5,e6,e7,Option.map_none,Option.map_some,List.length_nil,Int.natCast_zero,Int.ofNat_zero];exact⟨zBW n [.str []],by rw[zO1,List.length_replicate],rfl⟩
theorem zZd (h:Heap):zA Tryz.prog 99 [.nilsl, .int .i64 0] h fun r h'=>r= .nilsl∧h'=h:=by
 refine zA.of_fn (g:=zSG) mix Tryz.func99 zgS rfl rfl ?_;simp only[Tryz.f99,gJ];have e1:decide ((0:Int)<0)=false:=rfl;have e2:IntKind.i64.wrap (0-0)=0:=rfl;have e4:decide ((0:Int)>0)=false:=rfl;have e8:∀h:Heap,zAd Tryz.prog 31 .nilsl h=some (.int .i64 0):=fun h=>zP (sz:=1) zX.nil Tryz.underlying31;simp only[go_sem,Nat.reduceEqDiff,↓reduceIte,zio,List.contains_cons,Nat.reduceBEq,e1,e2,e4,zKP Tryz.underlying31,e8]
def zdi (h0 h:Heap) (l:List (List UInt8)) (d:D):Prop:=(d= .nilsl∧l= [])∨∃id xs,d= .rs id 1 0 l.length∧h.at' id=some (.row xs)∧h0.next≤id∧id<h.next∧l.length≤xs.length∧xs.take l.length=l.map sdd
theorem zZe {l l2:List (List UInt8)} {d d2:D} {h0 h:Heap} (hc:zdi h0 h l d) (hd:zX 1 (zt l2) d2) (he:Ext h0 h) (hl:l.length≤1048576) (hl2:l2.length≤1048576) (hz:d= .nilsl→l2= []):
  ∃d' h',zZ Tryz.prog true h.next 31 d d2 (yv d d2 h)=some (d',h')∧Ext h0 h'∧zdi h0 h' (l++l2) d'∧(d'= .nilsl↔d= .nilsl):=by
 rcases hc with⟨rfl,rfl⟩ | ⟨id,xs,rfl,hid,hg,hlt,hle,ht⟩
 ·have:=hz rfl;subst this;refine⟨.nilsl,h,?_,he, .inl ⟨rfl,rfl⟩,Iff.rfl⟩;have hv:zKy 1 d2 h=some []:=by
   rcases hd with⟨rfl,_⟩ | ⟨tk,rfl⟩ <;>rfl
  simp[yv,zZ,zd,zBq,yu,hv,yk]
 ·obtain⟨h2,e1,e2,e3,e4⟩:=zZc hd (nid:=h.next) hid hle hl hl2;have he2:Ext h0 h2:=⟨by rw[e2];exact he.1,fun i hi=>by rw[e3 i (by omega)];exact he.2 i hi⟩;rw[e1,e4];refine⟨_,_,rfl,(he2.del hg).new he.1 _, .inr ⟨h.next,_,by rw[List.length_append],zQ _ _ _,he.1,?_,?_,?_⟩,iff_of_false (by simp) (by simp)⟩
  ·have:(h2.del id).next=h2.next:=rfl;simp only[Heap.new,this,e2];omega
  ·simp;omega
  ·rw[ht,List.map_append,List.take_of_length_le (by simp)]
theorem zVR {l1 l2:List (List UInt8)} {a b:D} (ha:zX 1 (zt l1) a) (hb:zX 1 (zt l2) b) (h1:l1.length≤1048576) (h2:l2.length≤1048576) (tk:Tk) (h:Heap):
  zA Tryz.prog 46 [.sl 1 [[a],[b]] tk] h fun r h'=>h'=h∧((l1++l2= []∧r= .nilsl)∨(l1++l2≠[]∧r= .sl 1 (zt (l1++l2)) .no)):=by
 have s1:((zt l1).length:Int)=l1.length:=by rw[zJ]
 have s2:((zt l2).length:Int)=l2.length:=by rw[zJ]
 refine zA.pure (by kernel_rfl) fun hok=> ?_
 suffices hh:zA Tryz.prog 46 [.sl 1 [[a],[b]] tk] h fun r h'=>Ext h h'∧zdi h h' (l1++l2) r∧(r= .nilsl↔l1++l2= []) by
  by_cases he:l1++l2= []
  ·refine hh.mono ?_;rintro r h' ⟨hE,_,hz⟩;rw[hz.2 he];exact⟨hE,trivial, .inl ⟨he,rfl⟩⟩
  ·refine zA.freezeD (hh.mono ?_);rintro r h' ⟨hE,hc,hz⟩;rcases hc with⟨rfl,e⟩ | ⟨id,xs,rfl,hid,hg,hlt,hle,ht⟩
   ·exact absurd e he
   ·refine⟨id,xs,hid,hE.del hg,?_⟩;rw[zS5 (xs:=zt (l1++l2)) (rest:=xs.drop (l1++l2).length) zDC (zJ _) (by rw[zCl,←ht,List.take_append_drop])];exact⟨zu (Nat.zero_le _) _ (yN (sz:=1) yW .no).2, .inr ⟨he,rfl⟩⟩
 refine zA.of_fn (g:=zUn) mix Tryz.func46 ziT rfl rfl ?_;simp only[Tryz.f46,gJ];have hx:∀i:Nat,i<2→zR Tryz.prog 182 (.sl 1 [[a],[b]] tk) (.int .i64 (i:Int))=some (.iptr (if i=0 then [a] else [b]) 0):=fun i hi=>by
  refine zE (zX.mk tk) zLb zCQ ?_;rcases i with _|_|i
  ·rfl
  ·rfl
  ·omega
 have hll:∀h:Heap,zAd Tryz.prog 182 (.sl 1 [[a],[b]] tk) h=some (.int .i64 2):=fun h=>zP (zX.mk tk) Tryz.underlying182;simp only[go_sem,Nat.reduceEqDiff,↓reduceIte,zcT,List.contains_cons,Nat.reduceBEq,hll];refine yG (fun i fr h'=>fr 0= .sl 1 [[a],[b]] tk∧fr 9= .sl 1 [[a],[b]] tk∧fr 10= .int .i64 2∧fr 11= .int .i64 (i:Int)∧fr 3= .int .i64 ((if i=0 then 0 else if i=1 then l1.length else l1.length+l2.length:Nat):Int)∧h'=h) 2 (by simp[go_sem]) ?_
 rintro i fr h' hi ⟨f0,f9,f10,f11,f3,rfl⟩;have hcell:∀i:Nat,(if i=0 then [a] else [b])[0]? =some (if i=0 then a else b):=fun i=>by split<;>rfl
 by_cases hlt:i<2
 ·have e1:decide ((i:Int)<2)=true:=decide_eq_true (by omega);have hlen:zAd Tryz.prog 31 (if i=0 then a else b) h'=some (.int .i64 ((if i=0 then l1.length else l2.length:Nat):Int)):=by
   split
   ·rw[zP ha Tryz.underlying31,s1]
   ·rw[zP hb Tryz.underlying31,s2]
  have hw:IntKind.i64.wrap (((if i=0 then 0 else if i=1 then l1.length else l1.length+l2.length:Nat):Int)+((if i=0 then l1.length else l2.length:Nat):Int))=((if i+1=0 then 0 else if i+1=1 then l1.length else l1.length+l2.length:Nat):Int):=by
   rcases i with _|_|i
   ·simp;rw[zx (by omega) (by omega)]
   ·simp;rw[zx (by omega) (by omega)]
   ·omega
  have hneg:decide (((if i+1=0 then 0 else if i+1=1 then l1.length else l1.length+l2.length:Nat):Int)<0)=false:=decide_eq_false (by omega)
  generalize(if i+1=0 then 0 else if i+1=1 then l1.length else l1.length+l2.length:Nat)=q at hw hneg⊢
  generalize(if i=0 then 0 else if i=1 then l1.length else l1.length+l2.length:Nat)=q0 at hw f3
  generalize(if i=0 then l1.length else l2.length:Nat)=q1 at hw hlen
  simp only[go_sem,Nat.reduceEqDiff,↓reduceIte,zcT,List.contains_cons,Nat.reduceBEq,f0,f9,f10,f11,f3,e1,hx i hlt,zC,hcell,hlen,hw,hneg,zf (show i<lim by unfold lim;omega)];exact⟨hlt,by rw[zf (by unfold lim;omega)]⟩
 ·have hie:i=2:=by omega
  subst hie;have e1:decide (((2:Nat):Int)<2)=false:=rfl;have f3':fr 3= .int .i64 ((l1.length+l2.length:Nat):Int):=f3;have hgrow:zA Tryz.prog 99 [.nilsl, .int .i64 ((l1.length+l2.length:Nat):Int)] h' fun r h2=>zdi h' h2 [] r∧Ext h' h2∧(r= .nilsl↔l1++l2= []):=by
   by_cases hz:l1.length+l2.length=0
   ·rw[hz];refine(zZd h').mono ?_;rintro r h2 ⟨rfl,rfl⟩;exact⟨.inl ⟨rfl,rfl⟩,Ext.refl _,iff_of_true rfl (List.length_eq_zero_iff.1 (by simpa using hz))⟩
   ·refine(zdh (by omega) (by omega) h').mono ?_;rintro r h2 ⟨xs,hxs,rfl,rfl⟩;refine⟨.inr ⟨h'.next,xs,rfl,zQ _ _ _,Nat.le_refl _,?_,by simp,by simp⟩,(Ext.refl _).new (Nat.le_refl _) _,iff_of_false (by simp) fun e=>hz (by rw[←List.length_append,e];rfl)⟩;rw[zK];omega
  simp only[go_sem,Nat.reduceEqDiff,↓reduceIte,zcT,List.contains_cons,Nat.reduceBEq,f0,f9,f10,f11,f3',e1];refine hgrow.mono ?_;rintro d0 h3 ⟨hc0,hE0,hz0⟩;obtain⟨L,hL0,hL1,hL2⟩:∃L:Nat→List (List UInt8),L 0= []∧L 1=l1∧L 2=l1++l2:=⟨fun i=>if i=0 then [] else if i=1 then l1 else l1++l2,rfl,rfl,rfl⟩
  simp only[go_sem,Nat.reduceEqDiff,↓reduceIte,f0,hll];refine yG (fun i fr h4=>fr 25= .sl 1 [[a],[b]] tk∧fr 26= .int .i64 2∧fr 27= .int .i64 (i:Int)∧Ext h' h4∧zdi h' h4 (L i) (fr 6)∧(fr 6= .nilsl↔l1++l2= [])) 2 ?_ ?_
  ·simp only[go_sem,Nat.reduceEqDiff,↓reduceIte,f0,true_and,hL0];exact⟨rfl,hE0,hc0,hz0⟩
  rintro i fr2 h4 hi2 ⟨g25,g26,g27,gE,gC,gz⟩;obtain⟨d,g6⟩:∃x,fr2 6=x:=⟨_,rfl⟩;rw[g6] at gC gz;by_cases hlt2:i<2
  ·have e2:decide ((i:Int)<2)=true:=decide_eq_true (by omega);have hpart:zX 1 (zt (if i=0 then l1 else l2)) (if i=0 then a else b):=by split<;>assumption
   have hL:L (i+1)=L i++(if i=0 then l1 else l2):=by
    rcases i with _|_|i
    ·simp[hL0,hL1]
    ·simp[hL2,hL1]
    ·omega
   have hll1:(L i).length≤1048576:=by
    rcases i with _|_|i
    ·simp[hL0]
    ·rw[hL1];exact h1
    ·omega
   obtain⟨d',h5,k1,k2,k3,k4⟩:=zZe gC hpart gE hll1 (by split<;>assumption) (fun e=>by
    have:=List.append_eq_nil_iff.1 (gz.1 e);split
    ·exact this.1
    ·exact this.2)
   rw[←hL] at k3;simp only[go_sem,Nat.reduceEqDiff,↓reduceIte,zcT,List.contains_cons,Nat.reduceBEq,g25,g26,g27,g6,e2,hx i hlt2,zC,hcell,k1,zf (show i<lim by unfold lim;omega)];exact⟨hlt2,by rw[zf (by unfold lim;omega)],k2,k3,k4.trans gz⟩
  ·have hie:i=2:=by omega
   subst hie;rw[hL2] at gC;simp only[go_sem,Nat.reduceEqDiff,↓reduceIte,zcT,List.contains_cons,Nat.reduceBEq,g25,g26,g27,g6,e1];exact⟨gE,gC,gz⟩
def zIA (l:List (List UInt8)) (d:D):Prop:=(l= []∧d= .nilsl)∨(l≠[]∧d= .sl 1 (zt l) .no)
theorem zIA.isSl {l:List (List UInt8)} {d:D} (hf:zIA l d):zX 1 (zt l) d:=by
 rcases hf with⟨rfl,rfl⟩ | ⟨_,rfl⟩
 ·exact zX.nil
 ·exact zX.mk _
theorem zdj {l:List (List UInt8)} {id:Nat} {h:Heap} (h0:l≠[]) (hl:l.length≤1099511627776) (hrow:h.at' id=some (.row (l.map sdd))):
  zA Tryz.prog 84 [.rs id 1 0 l.length] h fun r h'=>r= .tuple []∧h'=h.set id (.row ((l.mergeSort fun x y=>decide (x≤y)).map sdd)):=by
 have:=zA.of_rowU (P:=Tryz.prog) (f:=84) (α:=List UInt8) (enc:=encStr) (dd:=sdd) (fun M ρ x v hr=>zXb hr) (fun _=>rfl) (xs:=l) (ys:=l.mergeSort fun x y=>decide (x≤y)) (rest:=[]) (id:=id) (pre:=[]) (post:=[]) (h:=h) (by kernel_rfl) (by simpa using hrow) (List.length_pos_iff.2 h0) (List.length_mergeSort _) (fun y hy=> .inl (List.mem_mergeSort.1 hy))
  (fun blk o cap w M ρ va hH hb h1 h2 hr=>by
   simp only[zy] at hr;subst hr;exact Tryz.slices_Sort_string blk o cap l w hH hb (by omega))
 simpa using this
theorem zNU {l:List (List UInt8)} {x:List UInt8} (hx:x∈Lib.compact l):x∈l:=by
 unfold Lib.compact Lib.compactUpTo at hx;obtain⟨j,hj,rfl⟩:=List.mem_map.1 hx;have hj':j<l.length:=List.mem_range.1 (List.mem_filter.1 hj).1
 have:l.toArray[j]! =l[j]:=by simp[hj']
 rw[this];exact List.getElem_mem hj'
theorem zS6 {l:List (List UInt8)} {id:Nat} {h:Heap} (h0:l≠[]) (hl:l.length≤1099511627776) (hrow:h.at' id=some (.row (l.map sdd))):
  zA Tryz.prog 85 [.rs id 1 0 l.length] h fun r h'=>r= .rs id 1 0 (Lib.compact l).length∧h'=h.set id (.row ((Lib.compact l++List.replicate (l.length- (Lib.compact l).length) []).map sdd)):=by
 have hle:=Lib.compact_length_le l;have:=zA.of_row (P:=Tryz.prog) (f:=85) (α:=List UInt8) (enc:=encStr) (dd:=sdd) (fun M ρ x v hr=>zXb hr) (fun _=>rfl) (xs:=l) (ys:=Lib.compact l++List.replicate (l.length- (Lib.compact l).length) []) (m:=(Lib.compact l).length) (rest:=[]) (id:=id) (pre:=[]) (post:=[]) (h:=h) (by kernel_rfl) (by simpa using hrow) (List.length_pos_iff.2 h0) (by simp;omega) hle
  (fun y hy=>by
   rcases List.mem_append.1 hy with hy|hy
   ·exact .inl (zNU hy)
   ·refine .inr fun M ρ=> ?_;rw[List.eq_of_mem_replicate hy];simp only[sdd,rel];exact⟨⟨#[]⟩,rfl,rfl,by decide⟩)
  (fun blk o cap w M ρ va hH h1 h2 hr=>by
   simp only[zy] at hr;subst hr;exact Tryz.slices_Compact_string blk o cap l w hH (by omega) h1)
 simpa using this
def zZf (l:List (List UInt8)) (d:D):Prop:=(l= []∧d= .nilsl)∨(l≠[]∧∃tk,d= .sl 1 (zt l) tk)
theorem zIA.t {l:List (List UInt8)} {d:D} (h:zIA l d):zZf l d:=h.imp (fun q=>q) fun q=>⟨q.1, .no,q.2⟩
theorem zEc {l:List (List UInt8)} {d:D} (hd:zZf l d) (hl:l.length≤1099511627776) (h:Heap):
  zA Tryz.prog 37 [d] h fun r h'=>h'=h∧zIA (zV l) r:=by
 rcases hd with⟨rfl,rfl⟩ | ⟨h0,tk,rfl⟩
 ·refine(zA.of_run (sett:=fun _=>true) (ext:=zDH) (fuel:=40) (k:=20) (d:= .nilsl) mix qA qB (by kernel_rfl) (by kernel_rfl) (by kernel_rfl) h).mono ?_;rintro r h' ⟨rfl,rfl⟩;exact⟨rfl, .inl ⟨List.eq_nil_of_length_eq_zero (Nat.le_zero.1 (zCF [])),rfl⟩⟩
 refine zA.pure (by kernel_rfl) fun hok=>zA.freezeD ?_;refine zA.of_fn (g:=zU1) mix Tryz.func37 zir rfl rfl ?_;simp only[Tryz.f37,gJ];simp only[go_sem,Nat.reduceEqDiff,↓reduceIte,zjn];refine(zVQ (zX.mk tk) h0 hl h).mono ?_;rintro r h2 ⟨rfl,rfl⟩;refine(zdj h0 hl (zQ _ _ _)).mono ?_;rintro r h2 ⟨rfl,rfl⟩;have e1:(l.mergeSort fun x y=>decide (x≤y)).length=l.length:=List.length_mergeSort _;have hne:(l.mergeSort fun x y=>decide (x≤y))≠[]:=fun e=>h0 (List.length_eq_zero_iff.1 (by rw[←e1,e];rfl))
 have hc:=zS6 (l:=l.mergeSort fun x y=>decide (x≤y)) (id:=h.next) (h:=(h.new h.next (.row (l.map sdd))).set h.next (.row ((l.mergeSort fun x y=>decide (x≤y)).map sdd))) hne (by omega) (zF _ _ _);rw[e1] at hc;refine hc.mono ?_;rintro r h2 ⟨rfl,rfl⟩;refine⟨h.next,_,zF _ _ _,((((Ext.refl h).new (Nat.le_refl _) _).set (Nat.le_refl _) _).set (Nat.le_refl _) _).del (Nat.le_refl _),?_⟩;have hs0:zV l≠[]:=fun e=>by
  obtain⟨x,hx⟩:=List.exists_mem_of_ne_nil l h0;have:=zl.2 hx;rw[e] at this;cases this
 have hdef:Lib.compact (l.mergeSort fun x y=>decide (x≤y))=zV l:=rfl;rw[hdef,zS5 (xs:=zt (zV l)) (rest:=(List.replicate (l.length- (zV l).length) []).map sdd) zDC (zJ _) (by rw[zCl,List.map_append])];exact⟨zu (Nat.zero_le _) _ (yN (sz:=1) yW .no).2, .inr ⟨hs0,rfl⟩⟩
theorem zVS {l:List (List UInt8)} {d:D} (hd:zIA l d) (hl:l.length≤1099511627776) (h:Heap):
  zA Tryz.prog 37 [d] h fun r h'=>h'=h∧zIA (zV l) r:=zEc hd.t hl h
end Go.V
