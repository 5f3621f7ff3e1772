/- Contracts of functions that the law reaches, part 1. No condition. -/
import Derived.Test.YtalepjdbhjinhaaGreatDoorW19
import Derived.Test.YtalepjdbhjinhaaGreatDoorW22
import Derived.KernelRfl
import Derived.Test.YtalepjdbhjinhaaGreatDoorW23
import Derived.Test.YtalepjdbhjinhaaGreatDoorW24
import Derived.Test.YtalepjdbhjinhaaGreatDoorW25
import Derived.Test.YtalepjdbhjinhaaGreatDoorW26
import Derived.Test.YtalepjdbhjinhaaGreatDoorW27
import Derived.Test.YtalepjdbhjinhaaGreatDoorW21
set_option linter.all false
namespace Go.Proofs
def Tryz.lays240_ren:Go.Shelf.Ren:=⟨fun|240=>102|276=>148|n=>n,fun|0=>0|4=>4|9=>9|20=>20|37=>113|70=>112|72=>115|164=>222|n=>n,fun n=>n⟩
theorem Tryz.lays240:Go.Proofs.Lays.n240 Tryz.prog Tryz.lays240_ren:= {
 mixed:=by kernel_rfl
 f240:=Tryz.func102.trans (congrArg some (by kernel_rfl))
 f276:=Tryz.func148.trans (congrArg some (by kernel_rfl))
 t0:=Tryz.underlying0
 a0:=Tryz.isAgg0
 z0:=Tryz.sizeOf0
 v0:=Tryz.zeroValue0
 t4:=Tryz.underlying4
 a4:=Tryz.isAgg4
 z4:=Tryz.sizeOf4
 v4:=Tryz.zeroValue4
 t9:=Tryz.underlying9
 a9:=Tryz.isAgg9
 z9:=Tryz.sizeOf9
 v9:=Tryz.zeroValue9
 t20:=Tryz.underlying20
 a20:=Tryz.isAgg20
 z20:=Tryz.sizeOf20
 v20:=Tryz.zeroValue20
 t70:=Tryz.underlying112
 a70:=Tryz.isAgg112
 z70:=Tryz.sizeOf112
 v70:=Tryz.zeroValue112
 t72:=Tryz.underlying115
 a72:=Tryz.isAgg115
 z72:=Tryz.sizeOf115
 v72:=Tryz.zeroValue115
 t164:=Tryz.underlying222
 a164:=Tryz.isAgg222
 z164:=Tryz.sizeOf222
 v164:=Tryz.zeroValue222 }
theorem Tryz.Builder_X72_240:Builder.X72 Tryz.prog Tryz.lays240_ren:= {
 sizeBuilder:=by kernel_rfl
 liesBuilder:=by kernel_rfl }
end Go.Proofs
namespace Go.V
open Go.Proofs
theorem ym:zTA Tryz.prog zCe:=fun g args h r he=>by
 unfold zCe at he;split at he
 ·rename_i hg;have e:g=24:=Nat.eq_of_beq_eq_true hg;subst e;exact zFY he fun d hd=>zGO (by kernel_rfl) (fun s c w=>Tryz.strings_Count_one s c w) hd h
 ·skip
  split at he
  ·rename_i hg;have e:g=54:=Nat.eq_of_beq_eq_true hg;subst e;exact zFY he fun d hd=>zC4 (by kernel_rfl) (fun s c w=>Tryz.strings_Index_one s c w) hd h
  ·skip
   split at he
   ·rename_i hg;have e:g=104:=Nat.eq_of_beq_eq_true hg;subst e;exact zFY he fun d hd=>zC4 (by kernel_rfl) (fun s c w=>Tryz.stringslite_Index_one s c w) hd h
   ·skip
    split at he
    ·rename_i hg;have e:g=105:=Nat.eq_of_beq_eq_true hg;subst e;exact zFY he fun d hd=>zHy (by kernel_rfl) (fun s c w h0 h1 h2 h3=>zNT Tryz.lays160 (by kernel_rfl) s c w h0 h1 h2 h3) hd h
    ·skip
     split at he
     ·rename_i hg;have e:g=102:=Nat.eq_of_beq_eq_true hg;subst e;exact zOU Tryz.lays240 Tryz.Builder_X72_240 (by kernel_rfl) he
     ·skip
      cases he
set_option maxRecDepth 100000
theorem k0:zZ Tryz.prog m0:=trivial
theorem k1:zZ Tryz.prog m1:=zZ.add mix yj ym k0 rfl rfl r1
theorem k2:zZ Tryz.prog m2:=zZ.add mix yj ym k1 rfl rfl r2
theorem k3:zZ Tryz.prog m3:=zZ.add mix yj ym k2 rfl rfl r3
theorem k4:zZ Tryz.prog m4:=zZ.add mix yj ym k3 rfl rfl r4
theorem k5:zZ Tryz.prog m5:=zZ.add mix yj ym k4 rfl rfl r5
theorem k6:zZ Tryz.prog m6:=zZ.add mix yj ym k5 rfl rfl r6
theorem k7:zZ Tryz.prog m7:=zZ.add mix yj ym k6 rfl rfl r7
theorem k8:zZ Tryz.prog m8:=zZ.add mix yj ym k7 rfl rfl r8
theorem k9:zZ Tryz.prog m9:=zZ.add mix yj ym k8 rfl rfl r9
theorem k10:zZ Tryz.prog m10:=zZ.add mix yj ym k9 rfl rfl r10
theorem k11:zZ Tryz.prog m11:=zZ.add mix yj ym k10 rfl rfl r11
theorem k12:zZ Tryz.prog m12:=zZ.add mix yj ym k11 rfl rfl r12
theorem k13:zZ Tryz.prog m13:=zZ.add mix yj ym k12 rfl rfl r13
theorem k14:zZ Tryz.prog m14:=zZ.add mix yj ym k13 rfl rfl r14
theorem k15:zZ Tryz.prog m15:=zZ.add mix yj ym k14 rfl rfl r15
theorem k16:zZ Tryz.prog m16:=zZ.add mix yj ym k15 rfl rfl r16
theorem k17:zZ Tryz.prog m17:=zZ.add mix yj ym k16 rfl rfl r17
theorem k18:zZ Tryz.prog m18:=zZ.add mix yj ym k17 rfl rfl r18
theorem k19:zZ Tryz.prog m19:=zZ.add mix yj ym k18 rfl rfl r19
theorem k20:zZ Tryz.prog m20:=zZ.add mix yj ym k19 rfl rfl r20
theorem k21:zZ Tryz.prog m21:=zZ.add mix yj ym k20 rfl rfl r21
theorem k22:zZ Tryz.prog m22:=zZ.add mix yj ym k21 rfl rfl r22
theorem k23:zZ Tryz.prog m23:=zZ.add mix yj ym k22 rfl rfl r23
theorem k24:zZ Tryz.prog m24:=zZ.add mix yj ym k23 rfl rfl r24
theorem k25:zZ Tryz.prog m25:=zZ.add mix yj ym k24 rfl rfl r25
theorem k26:zZ Tryz.prog m26:=zZ.add mix yj ym k25 rfl rfl r26
theorem k27:zZ Tryz.prog m27:=zZ.add mix yj ym k26 rfl rfl r27
theorem k28:zZ Tryz.prog m28:=zZ.add mix yj ym k27 rfl rfl r28
theorem k29:zZ Tryz.prog m29:=zZ.add mix yj ym k28 rfl rfl r29
theorem zFE (h:Heap):zA Tryz.prog 6 [] h fun a b=>a= .bool true∧b=h:=k29.1 h
theorem zKg {l:List UInt8} {d:D} (hd:zV 1 (zBN l) d) (hl:l.length≤1048576) {g:FuncId} {fst cap:List D} {p:UInt8→Bool} (hp:∀s∈l,∀h,zA Tryz.prog g (fst++ [.int .u8 (s.toNat:Int)]++cap) h fun r h'=>h'=h∧r= .bool (p s)) (h:Heap):
  zA Tryz.prog 209 [d, .fn (.func g) fst cap] h fun r h'=>h'=h∧r= .int .i64 (match l.findIdx? p with|some i=>(i:Int)|none=> -1):=by
 refine zA.of_fn (g:=zQr) mix Tryz.func209 zaw rfl rfl ?_;simp only[Tryz.f209,gJ];have hll:((zBN l).length:Int)=l.length:=by rw[zBj]
 simp only[go_sem,Nat.reduceEqDiff,↓reduceIte,zP hd Tryz.underlying113,hll];refine yJ (fun i fr h'=>fr 0=d∧fr 1= .fn (.func g) fst cap∧fr 7= .int .i64 l.length∧fr 8= .int .i64 (i:Int)∧h'=h∧∀j (hj:j<l.length),j<i→p l[j]=false) l.length (by simp[go_sem]) ?_;rintro i fr h' hi ⟨f0,f1,f7,f8,rfl,hj⟩;simp only[go_sem,Nat.reduceEqDiff,↓reduceIte,f0,f1,f7,f8];by_cases hlt:i<l.length
 ·rw[decide_eq_true (by exact_mod_cast hlt)];simp only[go_sem,Nat.reduceEqDiff,↓reduceIte,f0,f1,f7,f8,zF hd zBH zOO (zAT hlt),zS];refine(hp _ (List.getElem_mem hlt) _).mono ?_;rintro r h2 ⟨rfl,rfl⟩;cases he:p l[i] with
  |true=>
   simp only[go_sem,Nat.reduceEqDiff,↓reduceIte]
   have:l.findIdx? p=some i:=by
    rw[List.findIdx?_eq_some_iff_getElem];exact⟨hlt,he,fun j hji=>by rw[hj j (by omega) hji];exact Bool.false_ne_true⟩
   rw[this]
  |false=>
   simp only[go_sem,Nat.reduceEqDiff,↓reduceIte];refine⟨hlt,by rw[zh (by unfold lim;omega)],fun j hjl hji=> ?_⟩;rcases Nat.lt_succ_iff_lt_or_eq.1 hji with hji|rfl
   ·exact hj j hjl hji
   ·exact he
 ·have hie:i=l.length:=by omega
  subst hie;rw[decide_eq_false (by omega)];simp only[go_sem,Nat.reduceEqDiff,↓reduceIte]
  have:l.findIdx? p=none:=by
   rw[List.findIdx?_eq_none_iff];intro n hn;obtain⟨j,hjl,rfl⟩:=List.mem_iff_getElem.1 hn;exact hj j hjl hjl
  rw[this]
theorem zGc {l:List UInt8} {d:D} (hd:zV 1 (zBN l) d) (hl:l.length≤1048576) {g:FuncId} {fst cap:List D} {p:UInt8→Bool} (hp:∀s∈l,∀h,zA Tryz.prog g (fst++ [.int .u8 (s.toNat:Int)]++cap) h fun r h'=>h'=h∧r= .bool (p s)) (h:Heap):
  zA Tryz.prog 161 [d, .fn (.func g) fst cap] h fun r h'=>h'=h∧r= .bool (l.any p):=by
 refine zA.of_fn (g:=zQe) mix Tryz.func161 zag rfl rfl ?_;simp only[Tryz.f161,gJ];simp only[go_sem,Nat.reduceEqDiff,↓reduceIte];refine(zKg hd hl hp _).mono ?_;rintro r h2 ⟨rfl,rfl⟩;simp only[go_sem,Nat.reduceEqDiff,↓reduceIte];exact congrArg D.bool (zCa (l:=l) (p:=p))
def zGd (b:UInt8):Bool:=decide ((b.toNat:Int)<32)||decide ((b.toNat:Int)>126)
theorem zRJ (b:UInt8) (h:Heap):zA Tryz.prog 162 [.int .u8 (b.toNat:Int)] h fun r h'=>h'=h∧r= .bool (zGd b):=by
 refine zA.of_fn (g:=zQq) mix Tryz.func162 zav rfl rfl ?_;simp only[Tryz.f162,gJ];cases h1:decide ((b.toNat:Int)<32) with
 |true=>
  simp only[go_sem,Nat.reduceEqDiff,↓reduceIte,h1];simp only[zGd,h1,Bool.true_or]
 |false=>
  simp only[go_sem,Nat.reduceEqDiff,↓reduceIte,h1];simp only[zGd,h1,Bool.false_or]
def zBk (s:List UInt8):Bool:= !(decide (s.length<1)||decide (s.length>200)|| !(Lib.trimS s [32,42,47]==s))&& !s.any zGd
theorem zTI {s:List UInt8} (hl:s.length≤1048576) (h:Heap):zA Tryz.prog 107 [.str s] h fun r h'=>h'=h∧r= .bool (zBk s):=by
 refine zA.of_fn (g:=zQa) mix Tryz.func107 zad rfl rfl ?_;simp only[Tryz.f107,gJ];have e1:decide ((s.length:Int)<1)=decide (s.length<1):=by
  by_cases e:s.length<1
  ·rw[decide_eq_true e,decide_eq_true (by omega)]
  ·rw[decide_eq_false e,decide_eq_false (by omega)]
 have e2:decide ((s.length:Int)>200)=decide (s.length>200):=by
  by_cases e:s.length>200
  ·rw[decide_eq_true e,decide_eq_true (by omega)]
  ·rw[decide_eq_false e,decide_eq_false (by omega)]
 cases h1:decide (s.length<1) with
 |true=>
  simp only[go_sem,Nat.reduceEqDiff,↓reduceIte,zu Tryz.underlying9,e1,h1];simp only[zBk,h1,Bool.true_or,Bool.not_true,Bool.false_and]
 |false=>
 cases h2:decide (s.length>200) with
 |true=>
  simp only[go_sem,Nat.reduceEqDiff,↓reduceIte,zu Tryz.underlying9,e1,h1,e2,h2];simp only[zBk,h1,h2,Bool.true_or,Bool.or_true,Bool.not_true,Bool.false_and]
 |false=>
 simp only[go_sem,Nat.reduceEqDiff,↓reduceIte,zu Tryz.underlying9,e1,h1,e2,h2];refine(zNW hl (c:=[32,42,47]) rfl (by simp) h).mono ?_;rintro r h' ⟨rfl,rfl⟩;cases h3:(Lib.trimS s [32,42,47]==s) with
 |false=>
  simp only[go_sem,Nat.reduceEqDiff,↓reduceIte,h3];simp only[zBk,h1,h2,h3,Bool.false_or,Bool.not_false,Bool.not_true,Bool.false_and]
 |true=>
  simp only[go_sem,Nat.reduceEqDiff,↓reduceIte,h3,zEX];refine(zGc (zV.mk .no) hl (p:=zGd) (fun b _ h=>zRJ b h) h').mono ?_;rintro r h2' ⟨rfl,rfl⟩;simp only[vun,go_sem,Nat.reduceEqDiff,↓reduceIte];simp only[zBk,h1,h2,h3,Bool.false_or,Bool.not_false,Bool.not_true,Bool.true_and]
theorem zRK (h:Heap):zA Tryz.prog 106 [] h fun r h'=>h'=h∧r= .sl 1 [[.str [76,105,99,101,110,115,101,58]],[.str [67,111,112,121,114,105,103,104,116,58]]] .no:=
 zA.of_run (sett:=fun _=>true) (ext:=zCe) (fuel:=20) (k:=10) mix yj ym (by kernel_rfl) (by kernel_rfl) (by kernel_rfl) h
theorem zXM {s:List UInt8} (hl:s.length≤1048576) (h:Heap):zA Tryz.prog 60 [.int .i64 1, .str s] h fun r h'=>h'=h∧∃x,r= .tuple [.str x, .int .i64 (if zBk s then 0 else 4)]:=by
 refine zA.of_fn (g:=zWi) mix Tryz.func60 zf2 rfl rfl ?_;simp only[Tryz.f60,gJ];have g1:decide ((1:Int)<0)=false:=rfl;have g2:∀ (xs:List (List D)),xs.length=2→decide ((1:Int)≥(xs.length:Int))=false:=fun xs hx=>by rw[hx];rfl
 have gl:(([[.str [76,105,99,101,110,115,101,58]],[.str [67,111,112,121,114,105,103,104,116,58]]]:List (List D)).length:Int)=2:=rfl;have g3:decide ((1:Int)≥2)=false:=rfl;simp only[go_sem,Nat.reduceEqDiff,↓reduceIte,g1];refine(zRK h).mono ?_;rintro r h ⟨rfl,rfl⟩;simp only[go_sem,Nat.reduceEqDiff,↓reduceIte,zP (zV.mk .no) Tryz.underlying31,gl,g3];refine(zTI hl h).mono ?_;rintro r h ⟨rfl,rfl⟩;cases ht:zBk s with
 |false=>
  simp only[vun,go_sem,Nat.reduceEqDiff,↓reduceIte];exact⟨_,rfl⟩
 |true=>
  simp only[vun,go_sem,Nat.reduceEqDiff,↓reduceIte];refine(zRK h).mono ?_;rintro r h ⟨rfl,rfl⟩;have hix:zQ Tryz.prog 31 (.sl 1 [[.str [76,105,99,101,110,115,101,58]],[.str [67,111,112,121,114,105,103,104,116,58]]] .no) (.int .i64 1)=some (.iptr [.str [67,111,112,121,114,105,103,104,116,58]] 0):=zF (i:=1) (zV.mk .no) zi qH rfl;have ha:∀a b:List UInt8,a.length≤2000000→b.length≤2000000→zN0 .add a b=some (.str (a++b)):=fun a b h1 h2=>by
   simp only[zN0];rw[if_pos (by unfold lim;omega)]
  have hsl:s.length≤200:=by
   unfold zBk at ht;simp only[Bool.and_eq_true,Bool.not_eq_true',Bool.or_eq_false_iff,decide_eq_false_iff_not] at ht;omega
  simp only[go_sem,Nat.reduceEqDiff,↓reduceIte,hix,zS,List.getElem?_cons_zero];rw[ha _ _ (by simp) (by simp)];simp only[go_sem];rw[ha _ _ (by simp) (by simp)];simp only[go_sem];rw[ha _ _ (by simp) (by omega)];simp only[go_sem,Nat.reduceEqDiff,↓reduceIte];exact⟨_,rfl⟩
theorem zTJ {s:List UInt8} (hl:s.length≤1048576) (h:Heap):zA Tryz.prog 57 [.str s] h fun r h'=>h'=h∧r= .bool (yk s):=by
 refine zA.of_fn (g:=zW0) mix Tryz.func57 zgO rfl rfl ?_;simp only[Tryz.f57,gJ];cases s with
 |nil=>
  have e1:decide ((([]:List UInt8).length:Int)<1)=true:=rfl;simp only[go_sem,Nat.reduceEqDiff,↓reduceIte,zu Tryz.underlying9,e1,yk]
 |cons b r=>
  have e1:decide (((b::r).length:Int)<1)=false:=decide_eq_false (by simp only[List.length_cons];omega);have e2:decide (((b::r).length:Int)>32)=decide ((b::r).length>32):=by
   by_cases e:(b::r).length>32
   ·rw[decide_eq_true e,decide_eq_true (by omega)]
   ·rw[decide_eq_false e,decide_eq_false (by omega)]
  have hi:zAX Tryz.prog 9 (.str (b::r)) (.int .i64 0)=some (.int .u8 b.toNat):=wN (n:=0) Tryz.underlying9 rfl;cases h2:decide ((b::r).length>32) with
  |true=>
   simp only[go_sem,Nat.reduceEqDiff,↓reduceIte,zu Tryz.underlying9,e1,e2,h2];simp only[yk,h2,Bool.true_or,Bool.not_true,Bool.false_and]
  |false=>
  cases h3:decide ((b.toNat:Int)<97) with
  |true=>
   simp only[go_sem,Nat.reduceEqDiff,↓reduceIte,zu Tryz.underlying9,e1,e2,h2,hi,h3];simp only[yk,h2,h3,Bool.true_or,Bool.or_true,Bool.not_true,Bool.false_and]
  |false=>
  cases h4:decide ((b.toNat:Int)>122) with
  |true=>
   simp only[go_sem,Nat.reduceEqDiff,↓reduceIte,zu Tryz.underlying9,e1,e2,h2,hi,h3,h4];simp only[yk,h2,h3,h4,Bool.true_or,Bool.or_true,Bool.not_true,Bool.false_and]
  |false=>
  cases h5:((b::r:List UInt8)== [97,110,100]) with
  |true=>
   simp only[go_sem,Nat.reduceEqDiff,↓reduceIte,zu Tryz.underlying9,e1,e2,h2,hi,h3,h4,h5];simp only[yk,h2,h3,h4,h5,Bool.true_or,Bool.or_true,Bool.not_true,Bool.false_and]
  |false=>
  cases h6:((b::r:List UInt8)== [111,114]) with
  |true=>
   simp only[go_sem,Nat.reduceEqDiff,↓reduceIte,zu Tryz.underlying9,e1,e2,h2,hi,h3,h4,h5,h6];simp only[yk,h2,h3,h4,h5,h6,Bool.true_or,Bool.or_true,Bool.not_true,Bool.false_and]
  |false=>
  cases h7:((b::r:List UInt8)== [119,105,116,104]) with
  |true=>
   simp only[go_sem,Nat.reduceEqDiff,↓reduceIte,zu Tryz.underlying9,e1,e2,h2,hi,h3,h4,h5,h6,h7];simp only[yk,h2,h3,h4,h5,h6,h7,Bool.true_or,Bool.or_true,Bool.not_true,Bool.false_and]
  |false=>
   simp only[go_sem,Nat.reduceEqDiff,↓reduceIte,zu Tryz.underlying9,e1,e2,h2,hi,h3,h4,h5,h6,h7];refine(zNW hl (c:=zC6) (by decide) (by decide) h).mono ?_;rintro r2 h' ⟨rfl,rfl⟩;simp only[go_sem,Nat.reduceEqDiff,↓reduceIte];simp only[yk,h2,h3,h4,h5,h6,h7,Bool.false_or,Bool.not_false,Bool.true_and]
theorem zXN {s:List UInt8} (hl:s.length≤1048576) (h:Heap):zA Tryz.prog 48 [.str s] h fun r h'=>h'=h∧Fin 1 (zy (zBM s)) r:=by
 refine zA.of_fn (g:=zWz) mix Tryz.func48 zgN rfl rfl ?_;simp only[Tryz.f48,gJ];cases h1:(s== []) with
 |true=>
  simp only[go_sem,Nat.reduceEqDiff,↓reduceIte,h1]
  have:s= []:=by simpa using h1
  subst this;exact .inl ⟨rfl,rfl⟩
 |false=>
  simp only[go_sem,Nat.reduceEqDiff,↓reduceIte,h1];refine(zLz hl 10 h).mono ?_;rintro r h' ⟨rfl,rfl⟩;simp only[go_sem,Nat.reduceEqDiff,↓reduceIte]
  have:s≠[]:=by simpa using h1
  rw[zBM,if_neg this];exact .inr rfl
theorem zL3 {s:List UInt8} (hl:s.length≤1048576) (h:Heap):zA Tryz.prog 58 [.str s] h fun r h'=>h'=h∧r= .int .i64 (wo s):=by
 refine zA.of_fn (g:=zW4) mix Tryz.func58 zgV rfl rfl ?_;simp only[Tryz.f58,gJ];have e1:decide ((s.length:Int)>4096)=decide (s.length>4096):=by
  by_cases e:s.length>4096
  ·rw[decide_eq_true e,decide_eq_true (by omega)]
  ·rw[decide_eq_false e,decide_eq_false (by omega)]
 have e2:decide (((zy (zBM s)).length:Int)>999)=decide ((zBM s).length>999):=by
  rw[zH];by_cases e:(zBM s).length>999
  ·rw[decide_eq_true e,decide_eq_true (by omega)]
  ·rw[decide_eq_false e,decide_eq_false (by omega)]
 cases h1:decide (s.length>4096) with
 |true=>
  simp only[go_sem,Nat.reduceEqDiff,↓reduceIte,zu Tryz.underlying9,e1,h1];rw[wo,if_pos (.inl (of_decide_eq_true h1))]
 |false=>
 have g1:=of_decide_eq_false h1;simp only[go_sem,Nat.reduceEqDiff,↓reduceIte,zu Tryz.underlying9,e1,h1];refine(zXN hl h).mono ?_;rintro r h ⟨rfl,hr⟩;cases h2:decide ((zBM s).length>999) with
 |true=>
  simp only[go_sem,Nat.reduceEqDiff,↓reduceIte,zP hr.isSl Tryz.underlying31,e2,h2];rw[wo,if_pos (.inr (of_decide_eq_true h2))]
 |false=>
 have g2:=of_decide_eq_false h2;have hll:((zBN s).length:Int)=s.length:=by rw[zBj]
 simp only[go_sem,Nat.reduceEqDiff,↓reduceIte,zP hr.isSl Tryz.underlying31,e2,h2,zEX,zP (zV.mk .no) Tryz.underlying113,hll];refine yJ (fun i fr h'=>fr 15= .sl 1 (zBN s) .no∧fr 16= .int .i64 s.length∧fr 17= .int .i64 (i:Int)∧h'=h∧∀j (hj:j<s.length),j<i→yz s[j]=false) s.length (by simp[go_sem]) ?_;rintro i fr h' hi ⟨f15,f16,f17,rfl,hj⟩;simp only[go_sem,Nat.reduceEqDiff,↓reduceIte,f15,f16,f17];by_cases hlt:i<s.length
 ·rw[decide_eq_true (by exact_mod_cast hlt)];have bad:yz s[i]=true→wo s=4:=fun hb=>by
   rw[wo,if_neg (fun e=>e.elim g1 g2),if_pos (List.any_eq_true.2 ⟨_,List.getElem_mem hlt,hb⟩)]
  have good:yz s[i]=false→∀j (hj:j<s.length),j<i+1→yz s[j]=false:=fun hb j hjl hji=>by
   rcases Nat.lt_succ_iff_lt_or_eq.1 hji with hji|rfl
   ·exact hj j hjl hji
   ·exact hb
  cases h3:((s[i].toNat:Int) !=10) with
  |false=>
   simp only[go_sem,Nat.reduceEqDiff,↓reduceIte,f15,f16,f17,zF (zV.mk .no) zBH zOO (zAT hlt),zS,List.getElem?_cons_zero,h3];exact⟨hlt,by rw[zh (by unfold lim;omega)],good (by simp only[yz,h3,Bool.false_and])⟩
  |true=>
  cases h4:decide ((s[i].toNat:Int)<32) with
  |true=>
   simp only[go_sem,Nat.reduceEqDiff,↓reduceIte,f15,f16,f17,zF (zV.mk .no) zBH zOO (zAT hlt),zS,List.getElem?_cons_zero,h3,h4];rw[bad (by simp only[yz,h3,h4,Bool.true_or,Bool.and_self])]
  |false=>
  cases h5:decide ((s[i].toNat:Int)>126) with
  |true=>
   simp only[go_sem,Nat.reduceEqDiff,↓reduceIte,f15,f16,f17,zF (zV.mk .no) zBH zOO (zAT hlt),zS,List.getElem?_cons_zero,h3,h4,h5];rw[bad (by simp only[yz,h3,h4,h5,Bool.or_true,Bool.and_self])]
  |false=>
   simp only[go_sem,Nat.reduceEqDiff,↓reduceIte,f15,f16,f17,zF (zV.mk .no) zBH zOO (zAT hlt),zS,List.getElem?_cons_zero,h3,h4,h5];exact⟨hlt,by rw[zh (by unfold lim;omega)],good (by simp only[yz,h3,h4,h5,Bool.or_self,Bool.and_false])⟩
 ·have hie:i=s.length:=by omega
  subst hie;rw[decide_eq_false (by omega)];simp only[go_sem,Nat.reduceEqDiff,↓reduceIte]
  have:s.any yz=false:=by
   rw[List.any_eq_false];intro x hx;obtain⟨j,hjl,rfl⟩:=List.mem_iff_getElem.1 hx;rw[hj j hjl hjl];exact Bool.false_ne_true
  rw[wo,if_neg (fun e=>e.elim g1 g2),if_neg (by rw[this];exact Bool.false_ne_true)]
def leS (a b:List UInt8):Bool:=zHB a b||a==b
def zBu (e:Nat→Int) (l:List (List UInt8)) (i:Nat):Int:=if e i≠0 then e i else if 0<i∧leS (l.getD i []) (l.getD (i-1) [])=true then 5 else 0
def zCt (e:Nat→Int):Nat→Int
 |0=>0
 |n+1=>if zCt e n≠0 then zCt e n else e n
def zC7 (e:Nat→Int) (l:List (List UInt8)):Int:=zCt (zBu e l) l.length
theorem zC8 {e:Nat→Int} :∀ {n:Nat},zCt e n=0↔∀i,i<n→e i=0
 |0=>by simp[zCt]
 |n+1=>by
  have ih:=zC8 (e:=e) (n:=n);simp only[zCt];constructor
  ·intro h;have h0:zCt e n=0:=by
    by_cases q:zCt e n=0
    ·exact q
    ·rw[if_pos q] at h;exact h
   rw[if_neg (by simp[h0])] at h;intro i hi;rcases Nat.lt_succ_iff_lt_or_eq.1 hi with hi|rfl
   ·exact ih.1 h0 i hi
   ·exact h
  ·intro h;have h0:=ih.2 fun i hi=>h i (by omega);rw[if_neg (by simp[h0])];exact h n (by omega)
theorem zKh {e:Nat→Int} :∀ {n i:Nat},i<n→(∀j,j<i→e j=0)→e i≠0→zCt e n=e i
 |0,i,h,_,_=>by omega
 |n+1,i,h,hj,hi=>by
  simp only[zCt];by_cases q:i<n
  ·rw[zKh q hj hi,if_pos hi]
  ·have:i=n:=by omega
   subst this;rw[if_neg (by rw[zC8.2 hj];simp)]
theorem zNY (a b:List UInt8):zN0 .leq a b=some (.bool (leS a b)):=rfl
theorem zCF {l:List (List UInt8)} {d:D} (hd:zV 1 (zy l) d) (hl:l.length≤1048576) {g:FuncId} {fst cap:List D} {e:Nat→Int} (he:∀i,i<l.length→∀h,zA Tryz.prog g (fst++ [.int .i64 (i:Int)]++cap) h fun r h'=>h'=h∧r= .int .i64 (e i)) (h:Heap):
  zA Tryz.prog 55 [d, .fn (.func g) fst cap] h fun r h'=>h'=h∧r= .int .i64 (zC7 e l):=by
 refine zA.of_fn (g:=zWn) mix Tryz.func55 zf7 rfl rfl ?_;simp only[Tryz.f55,gJ];have hll:((zy l).length:Int)=l.length:=by rw[zH]
 simp only[go_sem,Nat.reduceEqDiff,↓reduceIte,zP hd Tryz.underlying31,hll];refine yJ (fun i fr h'=>fr 0=d∧fr 1= .fn (.func g) fst cap∧fr 8= .int .i64 l.length∧fr 9= .int .i64 (i:Int)∧h'=h∧∀j,j<i→zBu e l j=0) l.length (by simp[go_sem]) ?_;rintro i fr h' hi ⟨f0,f1,f8,f9,rfl,hj⟩;simp only[go_sem,Nat.reduceEqDiff,↓reduceIte,f0,f1,f8,f9];by_cases hlt:i<l.length
 ·rw[decide_eq_true (by exact_mod_cast hlt)];simp only[go_sem,Nat.reduceEqDiff,↓reduceIte,f0,f1,f8,f9];refine(he i hlt h').mono ?_;rintro r h2 ⟨rfl,rfl⟩;have bad:zBu e l i≠0→zC7 e l=zBu e l i:=fun hb=>zKh hlt hj hb;cases h1:(e i !=0) with
  |true=>
   have hne:e i≠0:=by simpa using h1
   have hat:zBu e l i=e i:=by rw[zBu,if_pos hne]
   simp only[go_sem,Nat.reduceEqDiff,↓reduceIte,h1];rw[bad (by rw[hat];exact hne),hat]
  |false=>
   have heq:e i=0:=by simpa using h1
   simp only[go_sem,Nat.reduceEqDiff,↓reduceIte,h1,f0,f1,f8,f9];by_cases h0:0<i
   ·have hd0:decide ((i:Int)>0)=true:=decide_eq_true (by omega);have hw:IntKind.i64.wrap ((i:Int)-1)=((i-1:Nat):Int):=by rw[zq (by omega) (by omega)];omega
    have hlt':i-1<l.length:=by omega
    have g1:l.getD i []=l[i]:=by simp[hlt]
    have g2:l.getD (i-1) []=l[i-1]:=by simp[hlt']
    cases hle:leS l[i] l[i-1] with
    |true=>
     refine zg (by kernel_rfl) ?_;simp only[go_sem,Nat.reduceEqDiff,↓reduceIte,f0,f1,f8,f9,hd0,hw,zF hd zi qH (qY hlt),zF hd zi qH (qY hlt'),zS,List.getElem?_cons_zero,zNY,hle];have hat:zBu e l i=5:=by rw[zBu,if_neg (by simp[heq]),if_pos ⟨h0,by rw[g1,g2];exact hle⟩]
     rw[bad (by rw[hat];simp),hat]
    |false=>
     refine zg (by kernel_rfl) ?_;simp only[go_sem,Nat.reduceEqDiff,↓reduceIte,f0,f1,f8,f9,hd0,hw,zF hd zi qH (qY hlt),zF hd zi qH (qY hlt'),zS,List.getElem?_cons_zero,zNY,hle];have hat:zBu e l i=0:=by rw[zBu,if_neg (by simp[heq]),if_neg (fun q=>by rw[g1,g2,hle] at q;exact Bool.false_ne_true q.2)]
     refine⟨hlt,by rw[zh (by unfold lim;omega)],fun j hji=> ?_⟩;rcases Nat.lt_succ_iff_lt_or_eq.1 hji with hji|rfl
     ·exact hj j hji
     ·exact hat
   ·have hd0:decide ((i:Int)>0)=false:=decide_eq_false (by omega);refine zg (by kernel_rfl) ?_;simp only[go_sem,Nat.reduceEqDiff,↓reduceIte,f0,f1,f8,f9,hd0];have hat:zBu e l i=0:=by rw[zBu,if_neg (by simp[heq]),if_neg (fun q=>h0 q.1)]
    refine⟨hlt,by rw[zh (by unfold lim;omega)],fun j hji=> ?_⟩;rcases Nat.lt_succ_iff_lt_or_eq.1 hji with hji|rfl
    ·exact hj j hji
    ·exact hat
 ·have hie:i=l.length:=by omega
  subst hie;rw[decide_eq_false (by omega)];simp only[go_sem,Nat.reduceEqDiff,↓reduceIte];rw[zC7,zC8.2 hj]
structure Note where
 ls:List (List UInt8)
 ts:List (List UInt8)
 hs:List (List UInt8)
 cs:List (List UInt8)
def SmL (l:List (List UInt8)):Prop:=l.length≤1048576∧∀s∈l,s.length≤1048576
structure Note.Sm (n:Note):Prop where
 ls:SmL n.ls
 ts:SmL n.ts
 hs:SmL n.hs
 cs:SmL n.cs
def zH3 (n:Note) (d:D):Prop:=∃a b c e,d= .agg [a,b,c,e]∧zV 1 (zy n.ls) a∧zV 1 (zy n.ts) b∧zV 1 (zy n.hs) c∧zV 1 (zy n.cs) e
def zJD (n:Note) (i:Nat):Int:=if yk (n.ls.getD i []) then wo (n.ts.getD i []) else 2
def zEz (n:Note) (i:Nat):Int:=if zBk (n.hs.getD i []) then 0 else 4
def zDr (n:Note) (i:Nat):Int:=zKf (n.cs.getD i [])
def zAH (n:Note):Int:=
 if max (max (max n.ls.length n.ts.length) n.hs.length) n.cs.length>1024 then 10
 else if n.ts.length≠n.ls.length then 9
 else if zC7 (zJD n) n.ls≠0 then zC7 (zJD n) n.ls
 else if zC7 (zEz n) n.hs≠0 then zC7 (zEz n) n.hs
 else zC7 (zDr n) n.cs
theorem zGe {l:List (List UInt8)} {i:Nat} (h:i<l.length):l.getD i []=l[i]:=by simp[h]
theorem zTK {n:Note} {a b c e:D} (ha:zV 1 (zy n.ls) a) (hb:zV 1 (zy n.ts) b) (hs:n.Sm) (hl:n.ts.length=n.ls.length) {i:Nat} (hi:i<n.ls.length) (h:Heap):
  zA Tryz.prog 56 [.int .i64 (i:Int), .iptr [a,b,c,e] 0] h fun r h'=>h'=h∧r= .int .i64 (zJD n i):=by
 refine zA.of_fn (g:=zWu) mix Tryz.func56 zgE rfl rfl ?_;simp only[Tryz.f56,gJ];have hi':i<n.ts.length:=by omega
 simp only[go_sem,Nat.reduceEqDiff,↓reduceIte,zx,Nat.reduceAdd,Nat.zero_add,zS,List.getElem?_cons_zero,List.getElem?_cons_succ,zF ha zi qH (qY hi)];refine(zTJ (hs.ls.2 _ (List.getElem_mem hi)) h).mono ?_;rintro r h ⟨rfl,rfl⟩;cases h1:yk n.ls[i] with
 |false=>
  simp only[vun,go_sem,Nat.reduceEqDiff,↓reduceIte,Bool.not_false,Bool.not_true];rw[zJD,zGe hi,h1];rfl
 |true=>
  simp only[vun,go_sem,Nat.reduceEqDiff,↓reduceIte,Bool.not_false,Bool.not_true,zx,Nat.reduceAdd,Nat.zero_add,zS,List.getElem?_cons_zero,List.getElem?_cons_succ,zF hb zi qH (qY hi')];refine(zL3 (hs.ts.2 _ (List.getElem_mem hi')) h).mono ?_;rintro r h ⟨rfl,rfl⟩;simp only[go_sem,Nat.reduceEqDiff,↓reduceIte];rw[zJD,zGe hi,zGe hi',h1];rfl
theorem zTL {n:Note} {a b c e:D} (hc:zV 1 (zy n.hs) c) (hs:n.Sm) {i:Nat} (hi:i<n.hs.length) (h:Heap):
  zA Tryz.prog 59 [.int .i64 (i:Int), .iptr [a,b,c,e] 0] h fun r h'=>h'=h∧r= .int .i64 (zEz n i):=by
 refine zA.of_fn (g:=zW9) mix Tryz.func59 zgb rfl rfl ?_;simp only[Tryz.f59,gJ];simp only[go_sem,Nat.reduceEqDiff,↓reduceIte,zx,Nat.reduceAdd,Nat.zero_add,zS,List.getElem?_cons_zero,List.getElem?_cons_succ,zF hc zi qH (qY hi)];refine(zXM (hs.hs.2 _ (List.getElem_mem hi)) h).mono ?_;rintro r h ⟨rfl,x,rfl⟩;simp only[go_sem,Nat.reduceEqDiff,↓reduceIte,zAL,List.getElem?_cons_zero,List.getElem?_cons_succ];rw[zEz,zGe hi]
theorem zTM {n:Note} {a b c e:D} (he:zV 1 (zy n.cs) e) (hs:n.Sm) {i:Nat} (hi:i<n.cs.length) (h:Heap):
  zA Tryz.prog 61 [.int .i64 (i:Int), .iptr [a,b,c,e] 0] h fun r h'=>h'=h∧r= .int .i64 (zDr n i):=by
 refine zA.of_fn (g:=zaC) mix Tryz.func61 zhG rfl rfl ?_;simp only[Tryz.f61,gJ];simp only[go_sem,Nat.reduceEqDiff,↓reduceIte,zx,Nat.reduceAdd,Nat.zero_add,zS,List.getElem?_cons_zero,List.getElem?_cons_succ,zF he zi qH (qY hi)];refine(zEZ (hs.cs.2 _ (List.getElem_mem hi)) h).mono ?_;rintro r h ⟨rfl,rfl⟩;simp only[go_sem,Nat.reduceEqDiff,↓reduceIte];rw[zDr,zGe hi]
theorem zTN (a b:Nat):zO9 (.int .i64 (a:Int)) (.int .i64 (b:Int))=some (.int .i64 ((max a b:Nat):Int)):=by
 simp only[zO9,if_true];by_cases q:(b:Int)>a
 ·rw[if_pos q,Nat.max_eq_right (by omega)]
 ·rw[if_neg q,Nat.max_eq_left (by omega)]
theorem wV (a b c e:Nat):zHC (.int .i64 (a:Int)) [.int .i64 (b:Int), .int .i64 (c:Int), .int .i64 (e:Int)]=some (.int .i64 ((max (max (max a b) c) e:Nat):Int)):=by
 simp only[zHC,zTN]
theorem zXO {n:Note} {d:D} (hd:zH3 n d) (hs:n.Sm) (h:Heap):
  zA Tryz.prog 26 [d] h fun r h'=>h'=h∧r= .int .i64 (zAH n):=by
 obtain⟨a,b,c,e,rfl,ha,hb,hc,he⟩:=hd;refine zA.of_fn (g:=zQx) mix Tryz.func26 zeh rfl rfl ?_;simp only[Tryz.f26,gJ];have l1:((zy n.ls).length:Int)=n.ls.length:=by rw[zH]
 have l2:((zy n.ts).length:Int)=n.ts.length:=by rw[zH]
 have l3:((zy n.hs).length:Int)=n.hs.length:=by rw[zH]
 have l4:((zy n.cs).length:Int)=n.cs.length:=by rw[zH]
 have e1:decide (((max (max (max n.ls.length n.ts.length) n.hs.length) n.cs.length:Nat):Int)>1024)=decide (max (max (max n.ls.length n.ts.length) n.hs.length) n.cs.length>1024):=by
  by_cases q:max (max (max n.ls.length n.ts.length) n.hs.length) n.cs.length>1024
  ·rw[decide_eq_true q,decide_eq_true (by omega)]
  ·rw[decide_eq_false q,decide_eq_false (by omega)]
 cases h1:decide (max (max (max n.ls.length n.ts.length) n.hs.length) n.cs.length>1024) with
 |true=>
  simp only[go_sem,Nat.reduceEqDiff,↓reduceIte,zS4,List.contains_nil,D.notTuple,D.cells,zx,Nat.reduceAdd,Nat.zero_add,zS,List.getElem?_cons_zero,List.getElem?_cons_succ,zP ha Tryz.underlying31,zP hb Tryz.underlying31,zP hc Tryz.underlying31,zP he Tryz.underlying31,l1,l2,l3,l4,wV,e1,h1];rw[zAH,if_pos (of_decide_eq_true h1)]
 |false=>
 have g1:=of_decide_eq_false h1;cases h2:((n.ts.length:Int) !=n.ls.length) with
 |true=>
  simp only[go_sem,Nat.reduceEqDiff,↓reduceIte,zS4,List.contains_nil,D.notTuple,D.cells,zx,Nat.reduceAdd,Nat.zero_add,zS,List.getElem?_cons_zero,List.getElem?_cons_succ,zP ha Tryz.underlying31,zP hb Tryz.underlying31,zP hc Tryz.underlying31,zP he Tryz.underlying31,l1,l2,l3,l4,wV,e1,h1,h2];rw[zAH,if_neg g1,if_pos (by simp at h2;omega)]
 |false=>
 have g2:n.ts.length=n.ls.length:=by simp at h2;omega
 have hck:zAH n=if zC7 (zJD n) n.ls≠0 then zC7 (zJD n) n.ls else if zC7 (zEz n) n.hs≠0 then zC7 (zEz n) n.hs else zC7 (zDr n) n.cs:=by
  rw[zAH,if_neg g1,if_neg (by simp[g2])]
 simp only[go_sem,Nat.reduceEqDiff,↓reduceIte,zS4,List.contains_nil,D.notTuple,D.cells,zx,Nat.reduceAdd,Nat.zero_add,zS,List.getElem?_cons_zero,List.getElem?_cons_succ,zP ha Tryz.underlying31,zP hb Tryz.underlying31,zP hc Tryz.underlying31,zP he Tryz.underlying31,l1,l2,l3,l4,wV,e1,h1,h2];refine(zCF ha hs.ls.1 (e:=zJD n) (g:=56) (fst:=[]) (cap:=[.iptr [a,b,c,e] 0]) (fun i hi h=>zTK ha hb hs g2 hi h) h).mono ?_;rintro r h ⟨rfl,rfl⟩;cases h3:(zC7 (zJD n) n.ls !=0) with
 |true=>
  simp only[go_sem,Nat.reduceEqDiff,↓reduceIte,zS4,List.contains_nil,D.notTuple,D.cells,zx,Nat.reduceAdd,Nat.zero_add,zS,List.getElem?_cons_zero,List.getElem?_cons_succ,zP ha Tryz.underlying31,zP hb Tryz.underlying31,zP hc Tryz.underlying31,zP he Tryz.underlying31,l1,l2,l3,l4,wV,e1,h1,h2,h3];rw[hck,if_pos (by simpa using h3)]
 |false=>
 simp only[go_sem,Nat.reduceEqDiff,↓reduceIte,zS4,List.contains_nil,D.notTuple,D.cells,zx,Nat.reduceAdd,Nat.zero_add,zS,List.getElem?_cons_zero,List.getElem?_cons_succ,zP ha Tryz.underlying31,zP hb Tryz.underlying31,zP hc Tryz.underlying31,zP he Tryz.underlying31,l1,l2,l3,l4,wV,e1,h1,h2,h3];refine(zCF hc hs.hs.1 (e:=zEz n) (g:=59) (fst:=[]) (cap:=[.iptr [a,b,c,e] 0]) (fun i hi h=>zTL hc hs hi h) h).mono ?_;rintro r h ⟨rfl,rfl⟩;cases h4:(zC7 (zEz n) n.hs !=0) with
 |true=>
  simp only[go_sem,Nat.reduceEqDiff,↓reduceIte,zS4,List.contains_nil,D.notTuple,D.cells,zx,Nat.reduceAdd,Nat.zero_add,zS,List.getElem?_cons_zero,List.getElem?_cons_succ,zP ha Tryz.underlying31,zP hb Tryz.underlying31,zP hc Tryz.underlying31,zP he Tryz.underlying31,l1,l2,l3,l4,wV,e1,h1,h2,h3,h4];rw[hck,if_neg (by simpa using h3),if_pos (by simpa using h4)]
 |false=>
 simp only[go_sem,Nat.reduceEqDiff,↓reduceIte,zS4,List.contains_nil,D.notTuple,D.cells,zx,Nat.reduceAdd,Nat.zero_add,zS,List.getElem?_cons_zero,List.getElem?_cons_succ,zP ha Tryz.underlying31,zP hb Tryz.underlying31,zP hc Tryz.underlying31,zP he Tryz.underlying31,l1,l2,l3,l4,wV,e1,h1,h2,h3,h4];refine(zCF he hs.cs.1 (e:=zDr n) (g:=61) (fst:=[]) (cap:=[.iptr [a,b,c,e] 0]) (fun i hi h=>zTM he hs hi h) h).mono ?_;rintro r h ⟨rfl,rfl⟩
 simp only[go_sem,Nat.reduceEqDiff,↓reduceIte,zS4,List.contains_nil,D.notTuple,D.cells,zx,Nat.reduceAdd,Nat.zero_add,zS,List.getElem?_cons_zero,List.getElem?_cons_succ,zP ha Tryz.underlying31,zP hb Tryz.underlying31,zP hc Tryz.underlying31,zP he Tryz.underlying31,l1,l2,l3,l4,wV,e1,h1,h2,h3,h4];rw[hck,if_neg (by simpa using h3),if_neg (by simpa using h4)]
theorem zXP {id sz len:Nat} {cs rest:List D} {xs:List (List D)} (hx:∀x∈xs,x.length=sz) (hl:xs.length=len) (hc:cs=xs.flatten++rest):frz id cs (.rs id sz 0 len)= .sl sz xs .no:=by
 subst hc hl;simp only[frz];have hf:=yw hx;rw[if_pos ⟨trivial,by rw[List.length_append,hf];omega⟩,List.drop_zero,List.take_append_of_le_length (by rw[hf];omega),List.take_of_length_le (by rw[hf];omega),wn hx]
theorem zTO {l:List (List UInt8)} {d:D} (hd:zV 1 (zy l) d) (h0:l≠[]) (hl:l.length≤1099511627776) (h:Heap):
  zA Tryz.prog 28 [d] h fun r h'=>r= .rs h.next 1 0 l.length∧h'=h.new h.next (.row (l.map sdd)):=by
 rcases hd with⟨rfl,hs⟩ | ⟨tk,rfl⟩
 ·exact absurd (List.map_eq_nil_iff.1 hs) h0
 refine zA.of_fn (g:=zSk) mix Tryz.func28 zf5 rfl rfl ?_;simp only[Tryz.f28,gJ];have hn:zDH Tryz.prog .eql 31 true (.sl 1 (zy l) tk) .nilsl=some (.bool false):=by rw[zBh (zV.mk tk) Tryz.underlying31];rfl
 simp only[go_sem,Nat.reduceEqDiff,↓reduceIte,hn,zhD,List.contains_cons,Nat.reduceBEq,zAB zi zGG qH rfl rfl (by omega:0<1)];have hpos:0<l.length:=List.length_pos_iff.2 h0
 have:ze Tryz.prog true h.next 31 (.sl 1 [] .full) (.sl 1 (zy l) tk) h=some (.rs h.next 1 0 l.length,h.new h.next (.row (l.map sdd))):=by
  rw[zDm zi zCp qH (by omega) zDq (by rw[wv,zH];unfold lim;omega) (by rw[zH];unfold lim;omega),zH,if_neg (by omega),zGU,zOS Tryz.underlying9]
 simp only[qd,this,go_sem]
def zYv (l:List (List UInt8)) (d:D):Prop:=(l= []∧d= .nilsl)∨(l≠[]∧d= .sl 1 (zy l) .no)
theorem zYv.isSl {l:List (List UInt8)} {d:D} (hf:zYv l d):zV 1 (zy l) d:=by
 rcases hf with⟨rfl,rfl⟩ | ⟨_,rfl⟩
 ·exact zV.nil
 ·exact zV.mk _
theorem zbT {l:List (List UInt8)} {id:Nat} {h:Heap} (h0:l≠[]) (hl:l.length≤1099511627776) (hrow:h.at' id=some (.row (l.map sdd))):
  zA Tryz.prog 84 [.rs id 1 0 l.length] h fun r h'=>r= .tuple []∧h'=h.set id (.row ((l.mergeSort fun x y=>decide (x≤y)).map sdd)):=by
 have:=zA.of_rowU (P:=Tryz.prog) (f:=84) (α:=List UInt8) (enc:=encStr) (dd:=sdd) (fun M ρ x v hr=>zVI hr) (fun _=>rfl) (xs:=l) (ys:=l.mergeSort fun x y=>decide (x≤y)) (rest:=[]) (id:=id) (pre:=[]) (post:=[]) (h:=h) (by kernel_rfl) (by simpa using hrow) (List.length_pos_iff.2 h0) (List.length_mergeSort _) (fun y hy=> .inl (List.mem_mergeSort.1 hy))
  (fun blk o cap w M ρ va hH hb h1 h2 hr=>by
   simp only[zl] at hr;subst hr;exact Tryz.slices_Sort_string blk o cap l w hH hb (by omega))
 simpa using this
theorem zL4 {l:List (List UInt8)} {x:List UInt8} (hx:x∈Lib.compact l):x∈l:=by
 unfold Lib.compact Lib.compactUpTo at hx;obtain⟨j,hj,rfl⟩:=List.mem_map.1 hx;have hj':j<l.length:=List.mem_range.1 (List.mem_filter.1 hj).1
 have:l.toArray[j]! =l[j]:=by simp[hj']
 rw[this];exact List.getElem_mem hj'
theorem zRL {l:List (List UInt8)} {id:Nat} {h:Heap} (h0:l≠[]) (hl:l.length≤1099511627776) (hrow:h.at' id=some (.row (l.map sdd))):
  zA Tryz.prog 85 [.rs id 1 0 l.length] h fun r h'=>r= .rs id 1 0 (Lib.compact l).length∧h'=h.set id (.row ((Lib.compact l++List.replicate (l.length- (Lib.compact l).length) []).map sdd)):=by
 have hle:=Lib.compact_length_le l;have:=zA.of_row (P:=Tryz.prog) (f:=85) (α:=List UInt8) (enc:=encStr) (dd:=sdd) (fun M ρ x v hr=>zVI hr) (fun _=>rfl) (xs:=l) (ys:=Lib.compact l++List.replicate (l.length- (Lib.compact l).length) []) (m:=(Lib.compact l).length) (rest:=[]) (id:=id) (pre:=[]) (post:=[]) (h:=h) (by kernel_rfl) (by simpa using hrow) (List.length_pos_iff.2 h0) (by simp;omega) hle
  (fun y hy=>by
   rcases List.mem_append.1 hy with hy|hy
   ·exact .inl (zL4 hy)
   ·refine .inr fun M ρ=> ?_;rw[List.eq_of_mem_replicate hy];simp only[sdd,rel];exact⟨⟨#[]⟩,rfl,rfl,by decide⟩)
  (fun blk o cap w M ρ va hH h1 h2 hr=>by
   simp only[zl] at hr;subst hr;exact Tryz.slices_Compact_string blk o cap l w hH (by omega) h1)
 simpa using this
def zYw (l:List (List UInt8)) (d:D):Prop:=(l= []∧d= .nilsl)∨(l≠[]∧∃tk,d= .sl 1 (zy l) tk)
theorem zGf {l:List (List UInt8)} {d:D} (hd:zYw l d) (hl:l.length≤1099511627776) (h:Heap):
  zA Tryz.prog 37 [d] h fun r h'=>h'=h∧zYv (yB l) r:=by
 rcases hd with⟨rfl,rfl⟩ | ⟨h0,tk,rfl⟩
 ·refine(zA.of_run (sett:=fun _=>true) (ext:=zCe) (fuel:=40) (k:=20) (d:= .nilsl) mix yj ym (by kernel_rfl) (by kernel_rfl) (by kernel_rfl) h).mono ?_;rintro r h' ⟨rfl,rfl⟩;exact⟨rfl, .inl ⟨List.eq_nil_of_length_eq_zero (Nat.le_zero.1 (zGb [])),rfl⟩⟩
 refine zA.pure (by kernel_rfl) fun hok=>zA.freezeD ?_;refine zA.of_fn (g:=zSy) mix Tryz.func37 zgT rfl rfl ?_;simp only[Tryz.f37,gJ];simp only[go_sem,Nat.reduceEqDiff,↓reduceIte,zhh];refine(zTO (zV.mk tk) h0 hl h).mono ?_;rintro r h2 ⟨rfl,rfl⟩;refine(zbT h0 hl (zM _ _ _)).mono ?_;rintro r h2 ⟨rfl,rfl⟩;have e1:(l.mergeSort fun x y=>decide (x≤y)).length=l.length:=List.length_mergeSort _;have hne:(l.mergeSort fun x y=>decide (x≤y))≠[]:=fun e=>h0 (List.length_eq_zero_iff.1 (by rw[←e1,e];rfl))
 have hc:=zRL (l:=l.mergeSort fun x y=>decide (x≤y)) (id:=h.next) (h:=(h.new h.next (.row (l.map sdd))).set h.next (.row ((l.mergeSort fun x y=>decide (x≤y)).map sdd))) hne (by omega) (zE _ _ _);rw[e1] at hc;refine hc.mono ?_;rintro r h2 ⟨rfl,rfl⟩;refine⟨h.next,_,zE _ _ _,((((Ext.refl h).new (Nat.le_refl _) _).set (Nat.le_refl _) _).set (Nat.le_refl _) _).del (Nat.le_refl _),?_⟩;have hs0:yB l≠[]:=fun e=>by
  obtain⟨x,hx⟩:=List.exists_mem_of_ne_nil l h0;have:=wI.2 hx;rw[e] at this;cases this
 have hdef:Lib.compact (l.mergeSort fun x y=>decide (x≤y))=yB l:=rfl;rw[hdef,zXP (xs:=zy (yB l)) (rest:=(List.replicate (l.length- (yB l).length) []).map sdd) zDq (zH _) (by rw[zGU,List.map_append])];exact⟨zo (Nat.zero_le _) _ (yV (sz:=1) yh .no).2, .inr ⟨hs0,rfl⟩⟩
end Go.V
