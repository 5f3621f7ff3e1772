/- Contracts of functions that the law reaches, part 1. No condition. -/
import Derived.Test.YtalepjdbhjinhaaGreatDoorW19
import Derived.Test.YtalepjdbhjinhaaGreatDoorW22
import Derived.KernelRfl
import Derived.Test.YtalepjdbhjinhaaGreatDoorW23
import Derived.Test.YtalepjdbhjinhaaGreatDoorW24
import Derived.Test.YtalepjdbhjinhaaGreatDoorW25
import Derived.Test.YtalepjdbhjinhaaGreatDoorW26
import Derived.Test.YtalepjdbhjinhaaGreatDoorW27
import Derived.Test.YtalepjdbhjinhaaGreatDoorW21
set_option linter.all false
namespace Go.Proofs
def Tryz.lays240_ren:Go.Shelf.Ren:=⟨fun|240=>102|276=>148|n=>n,fun|0=>0|4=>4|9=>9|20=>20|37=>113|70=>112|72=>115|164=>222|n=>n,fun n=>n⟩
theorem Tryz.lays240:Go.Proofs.Lays.n240 Tryz.prog Tryz.lays240_ren:= {
 mixed:=by kernel_rfl
 f240:=Tryz.func102.trans (congrArg some (by kernel_rfl))
 f276:=Tryz.func148.trans (congrArg some (by kernel_rfl))
 t0:=Tryz.underlying0
 a0:=Tryz.isAgg0
 z0:=Tryz.sizeOf0
 v0:=Tryz.zeroValue0
 t4:=Tryz.underlying4
 a4:=Tryz.isAgg4
 z4:=Tryz.sizeOf4
 v4:=Tryz.zeroValue4
 t9:=Tryz.underlying9
 a9:=Tryz.isAgg9
 z9:=Tryz.sizeOf9
 v9:=Tryz.zeroValue9
 t20:=Tryz.underlying20
 a20:=Tryz.isAgg20
 z20:=Tryz.sizeOf20
 v20:=Tryz.zeroValue20
 t70:=Tryz.underlying112
 a70:=Tryz.isAgg112
 z70:=Tryz.sizeOf112
 v70:=Tryz.zeroValue112
 t72:=Tryz.underlying115
 a72:=Tryz.isAgg115
 z72:=Tryz.sizeOf115
 v72:=Tryz.zeroValue115
 t164:=Tryz.underlying222
 a164:=Tryz.isAgg222
 z164:=Tryz.sizeOf222
 v164:=Tryz.zeroValue222 }
theorem Tryz.Builder_X72_240:Builder.X72 Tryz.prog Tryz.lays240_ren:= {
 sizeBuilder:=by kernel_rfl
 liesBuilder:=by kernel_rfl }
end Go.Proofs
namespace Go.V
open Go.Proofs
theorem yt:zTj Tryz.prog zCo:=fun g args h r he=>by
 unfold zCo at he;split at he
 ·rename_i hg;have e:g=24:=Nat.eq_of_beq_eq_true hg;subst e;exact zFv he fun d hd=>zGl (by kernel_rfl) (fun s c w=>Tryz.strings_Count_one s c w) hd h
 ·skip
  split at he
  ·rename_i hg;have e:g=54:=Nat.eq_of_beq_eq_true hg;subst e;exact zFv he fun d hd=>zDF (by kernel_rfl) (fun s c w=>Tryz.strings_Index_one s c w) hd h
  ·skip
   split at he
   ·rename_i hg;have e:g=104:=Nat.eq_of_beq_eq_true hg;subst e;exact zFv he fun d hd=>zDF (by kernel_rfl) (fun s c w=>Tryz.stringslite_Index_one s c w) hd h
   ·skip
    split at he
    ·rename_i hg;have e:g=105:=Nat.eq_of_beq_eq_true hg;subst e;exact zFv he fun d hd=>zIL (by kernel_rfl) (fun s c w h0 h1 h2 h3=>zNu Tryz.lays160 (by kernel_rfl) s c w h0 h1 h2 h3) hd h
    ·skip
     split at he
     ·rename_i hg;have e:g=102:=Nat.eq_of_beq_eq_true hg;subst e;exact zOx Tryz.lays240 Tryz.Builder_X72_240 (by kernel_rfl) he
     ·skip
      cases he
set_option maxRecDepth 100000
theorem k0:zh Tryz.prog m0:=trivial
theorem k1:zh Tryz.prog m1:=zh.add mix yq yt k0 rfl rfl r1
theorem k2:zh Tryz.prog m2:=zh.add mix yq yt k1 rfl rfl r2
theorem k3:zh Tryz.prog m3:=zh.add mix yq yt k2 rfl rfl r3
theorem k4:zh Tryz.prog m4:=zh.add mix yq yt k3 rfl rfl r4
theorem k5:zh Tryz.prog m5:=zh.add mix yq yt k4 rfl rfl r5
theorem k6:zh Tryz.prog m6:=zh.add mix yq yt k5 rfl rfl r6
theorem k7:zh Tryz.prog m7:=zh.add mix yq yt k6 rfl rfl r7
theorem k8:zh Tryz.prog m8:=zh.add mix yq yt k7 rfl rfl r8
theorem k9:zh Tryz.prog m9:=zh.add mix yq yt k8 rfl rfl r9
theorem k10:zh Tryz.prog m10:=zh.add mix yq yt k9 rfl rfl r10
theorem k11:zh Tryz.prog m11:=zh.add mix yq yt k10 rfl rfl r11
theorem k12:zh Tryz.prog m12:=zh.add mix yq yt k11 rfl rfl r12
theorem k13:zh Tryz.prog m13:=zh.add mix yq yt k12 rfl rfl r13
theorem k14:zh Tryz.prog m14:=zh.add mix yq yt k13 rfl rfl r14
theorem k15:zh Tryz.prog m15:=zh.add mix yq yt k14 rfl rfl r15
theorem k16:zh Tryz.prog m16:=zh.add mix yq yt k15 rfl rfl r16
theorem k17:zh Tryz.prog m17:=zh.add mix yq yt k16 rfl rfl r17
theorem k18:zh Tryz.prog m18:=zh.add mix yq yt k17 rfl rfl r18
theorem k19:zh Tryz.prog m19:=zh.add mix yq yt k18 rfl rfl r19
theorem k20:zh Tryz.prog m20:=zh.add mix yq yt k19 rfl rfl r20
theorem k21:zh Tryz.prog m21:=zh.add mix yq yt k20 rfl rfl r21
theorem k22:zh Tryz.prog m22:=zh.add mix yq yt k21 rfl rfl r22
theorem k23:zh Tryz.prog m23:=zh.add mix yq yt k22 rfl rfl r23
theorem k24:zh Tryz.prog m24:=zh.add mix yq yt k23 rfl rfl r24
theorem k25:zh Tryz.prog m25:=zh.add mix yq yt k24 rfl rfl r25
theorem k26:zh Tryz.prog m26:=zh.add mix yq yt k25 rfl rfl r26
theorem k27:zh Tryz.prog m27:=zh.add mix yq yt k26 rfl rfl r27
theorem k28:zh Tryz.prog m28:=zh.add mix yq yt k27 rfl rfl r28
theorem k29:zh Tryz.prog m29:=zh.add mix yq yt k28 rfl rfl r29
theorem zFc (h:Heap):zA Tryz.prog 6 [] h fun a b=>a= .bool true∧b=h:=k29.1 h
theorem zK5 {l:List UInt8} {d:D} (hd:zX 1 (zBX l) d) (hl:l.length≤1048576) {g:FuncId} {fst cap:List D} {p:UInt8→Bool} (hp:∀s∈l,∀h,zA Tryz.prog g (fst++ [.int .u8 (s.toNat:Int)]++cap) h fun r h'=>h'=h∧r= .bool (p s)) (h:Heap):
  zA Tryz.prog 209 [d, .fn (.func g) fst cap] h fun r h'=>h'=h∧r= .int .i64 (match l.findIdx? p with|some i=>(i:Int)|none=> -1):=by
 refine zA.of_fn (g:=zRJ) mix Tryz.func209 zbJ rfl rfl ?_;simp only[Tryz.f209,gJ];have hll:((zBX l).length:Int)=l.length:=by rw[zBr]
 simp only[go_sem,Nat.reduceEqDiff,↓reduceIte,zQ hd Tryz.underlying113,hll];refine yM (fun i fr h'=>fr 0=d∧fr 1= .fn (.func g) fst cap∧fr 7= .int .i64 l.length∧fr 8= .int .i64 (i:Int)∧h'=h∧∀j (hj:j<l.length),j<i→p l[j]=false) l.length (by simp[go_sem]) ?_;rintro i fr h' hi ⟨f0,f1,f7,f8,rfl,hj⟩;simp only[go_sem,Nat.reduceEqDiff,↓reduceIte,f0,f1,f7,f8];by_cases hlt:i<l.length
 ·rw[decide_eq_true (by exact_mod_cast hlt)];simp only[go_sem,Nat.reduceEqDiff,↓reduceIte,f0,f1,f7,f8,zG hd zBR zOp (zAc hlt),zU];refine(hp _ (List.getElem_mem hlt) _).mono ?_;rintro r h2 ⟨rfl,rfl⟩;cases he:p l[i] with
  |true=>
   simp only[go_sem,Nat.reduceEqDiff,↓reduceIte]
   have:l.findIdx? p=some i:=by
    rw[List.findIdx?_eq_some_iff_getElem];exact⟨hlt,he,fun j hji=>by rw[hj j (by omega) hji];exact Bool.false_ne_true⟩
   rw[this]
  |false=>
   simp only[go_sem,Nat.reduceEqDiff,↓reduceIte];refine⟨hlt,by rw[ze (by unfold lim;omega)],fun j hjl hji=> ?_⟩;rcases Nat.lt_succ_iff_lt_or_eq.1 hji with hji|rfl
   ·exact hj j hjl hji
   ·exact he
 ·have hie:i=l.length:=by omega
  subst hie;rw[decide_eq_false (by omega)];simp only[go_sem,Nat.reduceEqDiff,↓reduceIte]
  have:l.findIdx? p=none:=by
   rw[List.findIdx?_eq_none_iff];intro n hn;obtain⟨j,hjl,rfl⟩:=List.mem_iff_getElem.1 hn;exact hj j hjl hjl
  rw[this]
theorem zGz {l:List UInt8} {d:D} (hd:zX 1 (zBX l) d) (hl:l.length≤1048576) {g:FuncId} {fst cap:List D} {p:UInt8→Bool} (hp:∀s∈l,∀h,zA Tryz.prog g (fst++ [.int .u8 (s.toNat:Int)]++cap) h fun r h'=>h'=h∧r= .bool (p s)) (h:Heap):
  zA Tryz.prog 161 [d, .fn (.func g) fst cap] h fun r h'=>h'=h∧r= .bool (l.any p):=by
 refine zA.of_fn (g:=zQ7) mix Tryz.func161 za3 rfl rfl ?_;simp only[Tryz.f161,gJ];simp only[go_sem,Nat.reduceEqDiff,↓reduceIte];refine(zK5 hd hl hp _).mono ?_;rintro r h2 ⟨rfl,rfl⟩;simp only[go_sem,Nat.reduceEqDiff,↓reduceIte];exact congrArg D.bool (zCk (l:=l) (p:=p))
def zG0 (b:UInt8):Bool:=decide ((b.toNat:Int)<32)||decide ((b.toNat:Int)>126)
theorem zRm (b:UInt8) (h:Heap):zA Tryz.prog 162 [.int .u8 (b.toNat:Int)] h fun r h'=>h'=h∧r= .bool (zG0 b):=by
 refine zA.of_fn (g:=zRI) mix Tryz.func162 zbI rfl rfl ?_;simp only[Tryz.f162,gJ];cases h1:decide ((b.toNat:Int)<32) with
 |true=>
  simp only[go_sem,Nat.reduceEqDiff,↓reduceIte,h1];simp only[zG0,h1,Bool.true_or]
 |false=>
  simp only[go_sem,Nat.reduceEqDiff,↓reduceIte,h1];simp only[zG0,h1,Bool.false_or]
def zBs (s:List UInt8):Bool:= !(decide (s.length<1)||decide (s.length>200)|| !(Lib.trimS s [32,42,47]==s))&& !s.any zG0
theorem zTr {s:List UInt8} (hl:s.length≤1048576) (h:Heap):zA Tryz.prog 107 [.str s] h fun r h'=>h'=h∧r= .bool (zBs s):=by
 refine zA.of_fn (g:=zQ3) mix Tryz.func107 za0 rfl rfl ?_;simp only[Tryz.f107,gJ];have e1:decide ((s.length:Int)<1)=decide (s.length<1):=by
  by_cases e:s.length<1
  ·rw[decide_eq_true e,decide_eq_true (by omega)]
  ·rw[decide_eq_false e,decide_eq_false (by omega)]
 have e2:decide ((s.length:Int)>200)=decide (s.length>200):=by
  by_cases e:s.length>200
  ·rw[decide_eq_true e,decide_eq_true (by omega)]
  ·rw[decide_eq_false e,decide_eq_false (by omega)]
 cases h1:decide (s.length<1) with
 |true=>
  simp only[go_sem,Nat.reduceEqDiff,↓reduceIte,zy Tryz.underlying9,e1,h1];simp only[zBs,h1,Bool.true_or,Bool.not_true,Bool.false_and]
 |false=>
 cases h2:decide (s.length>200) with
 |true=>
  simp only[go_sem,Nat.reduceEqDiff,↓reduceIte,zy Tryz.underlying9,e1,h1,e2,h2];simp only[zBs,h1,h2,Bool.true_or,Bool.or_true,Bool.not_true,Bool.false_and]
 |false=>
 simp only[go_sem,Nat.reduceEqDiff,↓reduceIte,zy Tryz.underlying9,e1,h1,e2,h2];refine(zNx hl (c:=[32,42,47]) rfl (by simp) h).mono ?_;rintro r h' ⟨rfl,rfl⟩;cases h3:(Lib.trimS s [32,42,47]==s) with
 |false=>
  simp only[go_sem,Nat.reduceEqDiff,↓reduceIte,h3];simp only[zBs,h1,h2,h3,Bool.false_or,Bool.not_false,Bool.not_true,Bool.false_and]
 |true=>
  simp only[go_sem,Nat.reduceEqDiff,↓reduceIte,h3,zEr];refine(zGz (zX.mk .no) hl (p:=zG0) (fun b _ h=>zRm b h) h').mono ?_;rintro r h2' ⟨rfl,rfl⟩;simp only[vun,go_sem,Nat.reduceEqDiff,↓reduceIte];simp only[zBs,h1,h2,h3,Bool.false_or,Bool.not_false,Bool.not_true,Bool.true_and]
theorem zRn (h:Heap):zA Tryz.prog 106 [] h fun r h'=>h'=h∧r= .sl 1 [[.str [76,105,99,101,110,115,101,58]],[.str [67,111,112,121,114,105,103,104,116,58]]] .no:=
 zA.of_run (sett:=fun _=>true) (ext:=zCo) (fuel:=20) (k:=10) mix yq yt (by kernel_rfl) (by kernel_rfl) (by kernel_rfl) h
theorem zXl {s:List UInt8} (hl:s.length≤1048576) (h:Heap):zA Tryz.prog 60 [.int .i64 1, .str s] h fun r h'=>h'=h∧∃x,r= .tuple [.str x, .int .i64 (if zBs s then 0 else 4)]:=by
 refine zA.of_fn (g:=zXC) mix Tryz.func60 zgO rfl rfl ?_;simp only[Tryz.f60,gJ];have g1:decide ((1:Int)<0)=false:=rfl;have g2:∀ (xs:List (List D)),xs.length=2→decide ((1:Int)≥(xs.length:Int))=false:=fun xs hx=>by rw[hx];rfl
 have gl:(([[.str [76,105,99,101,110,115,101,58]],[.str [67,111,112,121,114,105,103,104,116,58]]]:List (List D)).length:Int)=2:=rfl;have g3:decide ((1:Int)≥2)=false:=rfl;simp only[go_sem,Nat.reduceEqDiff,↓reduceIte,g1];refine(zRn h).mono ?_;rintro r h ⟨rfl,rfl⟩;simp only[go_sem,Nat.reduceEqDiff,↓reduceIte,zQ (zX.mk .no) Tryz.underlying31,gl,g3];refine(zTr hl h).mono ?_;rintro r h ⟨rfl,rfl⟩;cases ht:zBs s with
 |false=>
  simp only[vun,go_sem,Nat.reduceEqDiff,↓reduceIte];exact⟨_,rfl⟩
 |true=>
  simp only[vun,go_sem,Nat.reduceEqDiff,↓reduceIte];refine(zRn h).mono ?_;rintro r h ⟨rfl,rfl⟩;have hix:zN Tryz.prog 31 (.sl 1 [[.str [76,105,99,101,110,115,101,58]],[.str [67,111,112,121,114,105,103,104,116,58]]] .no) (.int .i64 1)=some (.iptr [.str [67,111,112,121,114,105,103,104,116,58]] 0):=zG (i:=1) (zX.mk .no) zm qF rfl;have ha:∀a b:List UInt8,a.length≤2000000→b.length≤2000000→zKD .add a b=some (.str (a++b)):=fun a b h1 h2=>by
   simp only[zKD];rw[if_pos (by unfold lim;omega)]
  have hsl:s.length≤200:=by
   unfold zBs at ht;simp only[Bool.and_eq_true,Bool.not_eq_true',Bool.or_eq_false_iff,decide_eq_false_iff_not] at ht;omega
  simp only[go_sem,Nat.reduceEqDiff,↓reduceIte,hix,zU,List.getElem?_cons_zero];rw[ha _ _ (by simp) (by simp)];simp only[go_sem];rw[ha _ _ (by simp) (by simp)];simp only[go_sem];rw[ha _ _ (by simp) (by omega)];simp only[go_sem,Nat.reduceEqDiff,↓reduceIte];exact⟨_,rfl⟩
theorem zTs {s:List UInt8} (hl:s.length≤1048576) (h:Heap):zA Tryz.prog 57 [.str s] h fun r h'=>h'=h∧r= .bool (yr s):=by
 refine zA.of_fn (g:=zXP) mix Tryz.func57 zgj rfl rfl ?_;simp only[Tryz.f57,gJ];cases s with
 |nil=>
  have e1:decide ((([]:List UInt8).length:Int)<1)=true:=rfl;simp only[go_sem,Nat.reduceEqDiff,↓reduceIte,zy Tryz.underlying9,e1,yr]
 |cons b r=>
  have e1:decide (((b::r).length:Int)<1)=false:=decide_eq_false (by simp only[List.length_cons];omega);have e2:decide (((b::r).length:Int)>32)=decide ((b::r).length>32):=by
   by_cases e:(b::r).length>32
   ·rw[decide_eq_true e,decide_eq_true (by omega)]
   ·rw[decide_eq_false e,decide_eq_false (by omega)]
  have hi:zAf Tryz.prog 9 (.str (b::r)) (.int .i64 0)=some (.int .u8 b.toNat):=wS (n:=0) Tryz.underlying9 rfl;cases h2:decide ((b::r).length>32) with
  |true=>
   simp only[go_sem,Nat.reduceEqDiff,↓reduceIte,zy Tryz.underlying9,e1,e2,h2];simp only[yr,h2,Bool.true_or,Bool.not_true,Bool.false_and]
  |false=>
  cases h3:decide ((b.toNat:Int)<97) with
  |true=>
   simp only[go_sem,Nat.reduceEqDiff,↓reduceIte,zy Tryz.underlying9,e1,e2,h2,hi,h3];simp only[yr,h2,h3,Bool.true_or,Bool.or_true,Bool.not_true,Bool.false_and]
  |false=>
  cases h4:decide ((b.toNat:Int)>122) with
  |true=>
   simp only[go_sem,Nat.reduceEqDiff,↓reduceIte,zy Tryz.underlying9,e1,e2,h2,hi,h3,h4];simp only[yr,h2,h3,h4,Bool.true_or,Bool.or_true,Bool.not_true,Bool.false_and]
  |false=>
  cases h5:((b::r:List UInt8)== [97,110,100]) with
  |true=>
   simp only[go_sem,Nat.reduceEqDiff,↓reduceIte,zy Tryz.underlying9,e1,e2,h2,hi,h3,h4,h5];simp only[yr,h2,h3,h4,h5,Bool.true_or,Bool.or_true,Bool.not_true,Bool.false_and]
  |false=>
  cases h6:((b::r:List UInt8)== [111,114]) with
  |true=>
   simp only[go_sem,Nat.reduceEqDiff,↓reduceIte,zy Tryz.underlying9,e1,e2,h2,hi,h3,h4,h5,h6];simp only[yr,h2,h3,h4,h5,h6,Bool.true_or,Bool.or_true,Bool.not_true,Bool.false_and]
  |false=>
  cases h7:((b::r:List UInt8)== [119,105,116,104]) with
  |true=>
   simp only[go_sem,Nat.reduceEqDiff,↓reduceIte,zy Tryz.underlying9,e1,e2,h2,hi,h3,h4,h5,h6,h7];simp only[yr,h2,h3,h4,h5,h6,h7,Bool.true_or,Bool.or_true,Bool.not_true,Bool.false_and]
  |false=>
   simp only[go_sem,Nat.reduceEqDiff,↓reduceIte,zy Tryz.underlying9,e1,e2,h2,hi,h3,h4,h5,h6,h7];refine(zNx hl (c:=zDI) (by decide) (by decide) h).mono ?_;rintro r2 h' ⟨rfl,rfl⟩;simp only[go_sem,Nat.reduceEqDiff,↓reduceIte];simp only[yr,h2,h3,h4,h5,h6,h7,Bool.false_or,Bool.not_false,Bool.true_and]
theorem zXm {s:List UInt8} (hl:s.length≤1048576) (h:Heap):zA Tryz.prog 48 [.str s] h fun r h'=>h'=h∧Fin 1 (zx (zBW s)) r:=by
 refine zA.of_fn (g:=zXO) mix Tryz.func48 zgi rfl rfl ?_;simp only[Tryz.f48,gJ];cases h1:(s== []) with
 |true=>
  simp only[go_sem,Nat.reduceEqDiff,↓reduceIte,h1]
  have:s= []:=by simpa using h1
  subst this;exact .inl ⟨rfl,rfl⟩
 |false=>
  simp only[go_sem,Nat.reduceEqDiff,↓reduceIte,h1];refine(zMR hl 10 h).mono ?_;rintro r h' ⟨rfl,rfl⟩;simp only[go_sem,Nat.reduceEqDiff,↓reduceIte]
  have:s≠[]:=by simpa using h1
  rw[zBW,if_neg this];exact .inr rfl
theorem zMV {s:List UInt8} (hl:s.length≤1048576) (h:Heap):zA Tryz.prog 58 [.str s] h fun r h'=>h'=h∧r= .int .i64 (wv s):=by
 refine zA.of_fn (g:=zXU) mix Tryz.func58 zgr rfl rfl ?_;simp only[Tryz.f58,gJ];have e1:decide ((s.length:Int)>4096)=decide (s.length>4096):=by
  by_cases e:s.length>4096
  ·rw[decide_eq_true e,decide_eq_true (by omega)]
  ·rw[decide_eq_false e,decide_eq_false (by omega)]
 have e2:decide (((zx (zBW s)).length:Int)>999)=decide ((zBW s).length>999):=by
  rw[zH];by_cases e:(zBW s).length>999
  ·rw[decide_eq_true e,decide_eq_true (by omega)]
  ·rw[decide_eq_false e,decide_eq_false (by omega)]
 cases h1:decide (s.length>4096) with
 |true=>
  simp only[go_sem,Nat.reduceEqDiff,↓reduceIte,zy Tryz.underlying9,e1,h1];rw[wv,if_pos (.inl (of_decide_eq_true h1))]
 |false=>
 have g1:=of_decide_eq_false h1;simp only[go_sem,Nat.reduceEqDiff,↓reduceIte,zy Tryz.underlying9,e1,h1];refine(zXm hl h).mono ?_;rintro r h ⟨rfl,hr⟩;cases h2:decide ((zBW s).length>999) with
 |true=>
  simp only[go_sem,Nat.reduceEqDiff,↓reduceIte,zQ hr.isSl Tryz.underlying31,e2,h2];rw[wv,if_pos (.inr (of_decide_eq_true h2))]
 |false=>
 have g2:=of_decide_eq_false h2;have hll:((zBX s).length:Int)=s.length:=by rw[zBr]
 simp only[go_sem,Nat.reduceEqDiff,↓reduceIte,zQ hr.isSl Tryz.underlying31,e2,h2,zEr,zQ (zX.mk .no) Tryz.underlying113,hll];refine yM (fun i fr h'=>fr 15= .sl 1 (zBX s) .no∧fr 16= .int .i64 s.length∧fr 17= .int .i64 (i:Int)∧h'=h∧∀j (hj:j<s.length),j<i→qA s[j]=false) s.length (by simp[go_sem]) ?_;rintro i fr h' hi ⟨f15,f16,f17,rfl,hj⟩;simp only[go_sem,Nat.reduceEqDiff,↓reduceIte,f15,f16,f17];by_cases hlt:i<s.length
 ·rw[decide_eq_true (by exact_mod_cast hlt)];have bad:qA s[i]=true→wv s=4:=fun hb=>by
   rw[wv,if_neg (fun e=>e.elim g1 g2),if_pos (List.any_eq_true.2 ⟨_,List.getElem_mem hlt,hb⟩)]
  have good:qA s[i]=false→∀j (hj:j<s.length),j<i+1→qA s[j]=false:=fun hb j hjl hji=>by
   rcases Nat.lt_succ_iff_lt_or_eq.1 hji with hji|rfl
   ·exact hj j hjl hji
   ·exact hb
  cases h3:((s[i].toNat:Int) !=10) with
  |false=>
   simp only[go_sem,Nat.reduceEqDiff,↓reduceIte,f15,f16,f17,zG (zX.mk .no) zBR zOp (zAc hlt),zU,List.getElem?_cons_zero,h3];exact⟨hlt,by rw[ze (by unfold lim;omega)],good (by simp only[qA,h3,Bool.false_and])⟩
  |true=>
  cases h4:decide ((s[i].toNat:Int)<32) with
  |true=>
   simp only[go_sem,Nat.reduceEqDiff,↓reduceIte,f15,f16,f17,zG (zX.mk .no) zBR zOp (zAc hlt),zU,List.getElem?_cons_zero,h3,h4];rw[bad (by simp only[qA,h3,h4,Bool.true_or,Bool.and_self])]
  |false=>
  cases h5:decide ((s[i].toNat:Int)>126) with
  |true=>
   simp only[go_sem,Nat.reduceEqDiff,↓reduceIte,f15,f16,f17,zG (zX.mk .no) zBR zOp (zAc hlt),zU,List.getElem?_cons_zero,h3,h4,h5];rw[bad (by simp only[qA,h3,h4,h5,Bool.or_true,Bool.and_self])]
  |false=>
   simp only[go_sem,Nat.reduceEqDiff,↓reduceIte,f15,f16,f17,zG (zX.mk .no) zBR zOp (zAc hlt),zU,List.getElem?_cons_zero,h3,h4,h5];exact⟨hlt,by rw[ze (by unfold lim;omega)],good (by simp only[qA,h3,h4,h5,Bool.or_self,Bool.and_false])⟩
 ·have hie:i=s.length:=by omega
  subst hie;rw[decide_eq_false (by omega)];simp only[go_sem,Nat.reduceEqDiff,↓reduceIte]
  have:s.any qA=false:=by
   rw[List.any_eq_false];intro x hx;obtain⟨j,hjl,rfl⟩:=List.mem_iff_getElem.1 hx;rw[hj j hjl hjl];exact Bool.false_ne_true
  rw[wv,if_neg (fun e=>e.elim g1 g2),if_neg (by rw[this];exact Bool.false_ne_true)]
def leS (a b:List UInt8):Bool:=zHW a b||a==b
def zB1 (e:Nat→Int) (l:List (List UInt8)) (i:Nat):Int:=if e i≠0 then e i else if 0<i∧leS (l.getD i []) (l.getD (i-1) [])=true then 5 else 0
def zC3 (e:Nat→Int):Nat→Int
 |0=>0
 |n+1=>if zC3 e n≠0 then zC3 e n else e n
def zDK (e:Nat→Int) (l:List (List UInt8)):Int:=zC3 (zB1 e l) l.length
theorem zDL {e:Nat→Int} :∀ {n:Nat},zC3 e n=0↔∀i,i<n→e i=0
 |0=>by simp[zC3]
 |n+1=>by
  have ih:=zDL (e:=e) (n:=n);simp only[zC3];constructor
  ·intro h;have h0:zC3 e n=0:=by
    by_cases q:zC3 e n=0
    ·exact q
    ·rw[if_pos q] at h;exact h
   rw[if_neg (by simp[h0])] at h;intro i hi;rcases Nat.lt_succ_iff_lt_or_eq.1 hi with hi|rfl
   ·exact ih.1 h0 i hi
   ·exact h
  ·intro h;have h0:=ih.2 fun i hi=>h i (by omega);rw[if_neg (by simp[h0])];exact h n (by omega)
theorem zK6 {e:Nat→Int} :∀ {n i:Nat},i<n→(∀j,j<i→e j=0)→e i≠0→zC3 e n=e i
 |0,i,h,_,_=>by omega
 |n+1,i,h,hj,hi=>by
  simp only[zC3];by_cases q:i<n
  ·rw[zK6 q hj hi,if_pos hi]
  ·have:i=n:=by omega
   subst this;rw[if_neg (by rw[zDL.2 hj];simp)]
theorem zNz (a b:List UInt8):zKD .leq a b=some (.bool (leS a b)):=rfl
theorem zCM {l:List (List UInt8)} {d:D} (hd:zX 1 (zx l) d) (hl:l.length≤1048576) {g:FuncId} {fst cap:List D} {e:Nat→Int} (he:∀i,i<l.length→∀h,zA Tryz.prog g (fst++ [.int .i64 (i:Int)]++cap) h fun r h'=>h'=h∧r= .int .i64 (e i)) (h:Heap):
  zA Tryz.prog 55 [d, .fn (.func g) fst cap] h fun r h'=>h'=h∧r= .int .i64 (zDK e l):=by
 refine zA.of_fn (g:=zXG) mix Tryz.func55 zgU rfl rfl ?_;simp only[Tryz.f55,gJ];have hll:((zx l).length:Int)=l.length:=by rw[zH]
 simp only[go_sem,Nat.reduceEqDiff,↓reduceIte,zQ hd Tryz.underlying31,hll];refine yM (fun i fr h'=>fr 0=d∧fr 1= .fn (.func g) fst cap∧fr 8= .int .i64 l.length∧fr 9= .int .i64 (i:Int)∧h'=h∧∀j,j<i→zB1 e l j=0) l.length (by simp[go_sem]) ?_;rintro i fr h' hi ⟨f0,f1,f8,f9,rfl,hj⟩;simp only[go_sem,Nat.reduceEqDiff,↓reduceIte,f0,f1,f8,f9];by_cases hlt:i<l.length
 ·rw[decide_eq_true (by exact_mod_cast hlt)];simp only[go_sem,Nat.reduceEqDiff,↓reduceIte,f0,f1,f8,f9];refine(he i hlt h').mono ?_;rintro r h2 ⟨rfl,rfl⟩;have bad:zB1 e l i≠0→zDK e l=zB1 e l i:=fun hb=>zK6 hlt hj hb;cases h1:(e i !=0) with
  |true=>
   have hne:e i≠0:=by simpa using h1
   have hat:zB1 e l i=e i:=by rw[zB1,if_pos hne]
   simp only[go_sem,Nat.reduceEqDiff,↓reduceIte,h1];rw[bad (by rw[hat];exact hne),hat]
  |false=>
   have heq:e i=0:=by simpa using h1
   simp only[go_sem,Nat.reduceEqDiff,↓reduceIte,h1,f0,f1,f8,f9];by_cases h0:0<i
   ·have hd0:decide ((i:Int)>0)=true:=decide_eq_true (by omega);have hw:IntKind.i64.wrap ((i:Int)-1)=((i-1:Nat):Int):=by rw[zw (by omega) (by omega)];omega
    have hlt':i-1<l.length:=by omega
    have g1:l.getD i []=l[i]:=by simp[hlt]
    have g2:l.getD (i-1) []=l[i-1]:=by simp[hlt']
    cases hle:leS l[i] l[i-1] with
    |true=>
     refine zf (by kernel_rfl) ?_;simp only[go_sem,Nat.reduceEqDiff,↓reduceIte,f0,f1,f8,f9,hd0,hw,zG hd zm qF (qe hlt),zG hd zm qF (qe hlt'),zU,List.getElem?_cons_zero,zNz,hle];have hat:zB1 e l i=5:=by rw[zB1,if_neg (by simp[heq]),if_pos ⟨h0,by rw[g1,g2];exact hle⟩]
     rw[bad (by rw[hat];simp),hat]
    |false=>
     refine zf (by kernel_rfl) ?_;simp only[go_sem,Nat.reduceEqDiff,↓reduceIte,f0,f1,f8,f9,hd0,hw,zG hd zm qF (qe hlt),zG hd zm qF (qe hlt'),zU,List.getElem?_cons_zero,zNz,hle];have hat:zB1 e l i=0:=by rw[zB1,if_neg (by simp[heq]),if_neg (fun q=>by rw[g1,g2,hle] at q;exact Bool.false_ne_true q.2)]
     refine⟨hlt,by rw[ze (by unfold lim;omega)],fun j hji=> ?_⟩;rcases Nat.lt_succ_iff_lt_or_eq.1 hji with hji|rfl
     ·exact hj j hji
     ·exact hat
   ·have hd0:decide ((i:Int)>0)=false:=decide_eq_false (by omega);refine zf (by kernel_rfl) ?_;simp only[go_sem,Nat.reduceEqDiff,↓reduceIte,f0,f1,f8,f9,hd0];have hat:zB1 e l i=0:=by rw[zB1,if_neg (by simp[heq]),if_neg (fun q=>h0 q.1)]
    refine⟨hlt,by rw[ze (by unfold lim;omega)],fun j hji=> ?_⟩;rcases Nat.lt_succ_iff_lt_or_eq.1 hji with hji|rfl
    ·exact hj j hji
    ·exact hat
 ·have hie:i=l.length:=by omega
  subst hie;rw[decide_eq_false (by omega)];simp only[go_sem,Nat.reduceEqDiff,↓reduceIte];rw[zDK,zDL.2 hj]
structure Note where
 ls:List (List UInt8)
 ts:List (List UInt8)
 hs:List (List UInt8)
 cs:List (List UInt8)
def SmL (l:List (List UInt8)):Prop:=l.length≤1048576∧∀s∈l,s.length≤1048576
structure Note.Sm (n:Note):Prop where
 ls:SmL n.ls
 ts:SmL n.ts
 hs:SmL n.hs
 cs:SmL n.cs
def zC4 (n:Note) (d:D):Prop:=∃a b c e,d= .agg [a,b,c,e]∧zX 1 (zx n.ls) a∧zX 1 (zx n.ts) b∧zX 1 (zx n.hs) c∧zX 1 (zx n.cs) e
def zJc (n:Note) (i:Nat):Int:=if yr (n.ls.getD i []) then wv (n.ts.getD i []) else 2
def zFN (n:Note) (i:Nat):Int:=if zBs (n.hs.getD i []) then 0 else 4
def zD8 (n:Note) (i:Nat):Int:=zK4 (n.cs.getD i [])
def zAP (n:Note):Int:=
 if max (max (max n.ls.length n.ts.length) n.hs.length) n.cs.length>1024 then 10
 else if n.ts.length≠n.ls.length then 9
 else if zDK (zJc n) n.ls≠0 then zDK (zJc n) n.ls
 else if zDK (zFN n) n.hs≠0 then zDK (zFN n) n.hs
 else zDK (zD8 n) n.cs
theorem zG1 {l:List (List UInt8)} {i:Nat} (h:i<l.length):l.getD i []=l[i]:=by simp[h]
theorem zTt {n:Note} {a b c e:D} (ha:zX 1 (zx n.ls) a) (hb:zX 1 (zx n.ts) b) (hs:n.Sm) (hl:n.ts.length=n.ls.length) {i:Nat} (hi:i<n.ls.length) (h:Heap):
  zA Tryz.prog 56 [.int .i64 (i:Int), .iptr [a,b,c,e] 0] h fun r h'=>h'=h∧r= .int .i64 (zJc n i):=by
 refine zA.of_fn (g:=zXK) mix Tryz.func56 zgb rfl rfl ?_;simp only[Tryz.f56,gJ];have hi':i<n.ts.length:=by omega
 simp only[go_sem,Nat.reduceEqDiff,↓reduceIte,z6,Nat.reduceAdd,Nat.zero_add,zU,List.getElem?_cons_zero,List.getElem?_cons_succ,zG ha zm qF (qe hi)];refine(zTs (hs.ls.2 _ (List.getElem_mem hi)) h).mono ?_;rintro r h ⟨rfl,rfl⟩;cases h1:yr n.ls[i] with
 |false=>
  simp only[vun,go_sem,Nat.reduceEqDiff,↓reduceIte,Bool.not_false,Bool.not_true];rw[zJc,zG1 hi,h1];rfl
 |true=>
  simp only[vun,go_sem,Nat.reduceEqDiff,↓reduceIte,Bool.not_false,Bool.not_true,z6,Nat.reduceAdd,Nat.zero_add,zU,List.getElem?_cons_zero,List.getElem?_cons_succ,zG hb zm qF (qe hi')];refine(zMV (hs.ts.2 _ (List.getElem_mem hi')) h).mono ?_;rintro r h ⟨rfl,rfl⟩;simp only[go_sem,Nat.reduceEqDiff,↓reduceIte];rw[zJc,zG1 hi,zG1 hi',h1];rfl
theorem zTu {n:Note} {a b c e:D} (hc:zX 1 (zx n.hs) c) (hs:n.Sm) {i:Nat} (hi:i<n.hs.length) (h:Heap):
  zA Tryz.prog 59 [.int .i64 (i:Int), .iptr [a,b,c,e] 0] h fun r h'=>h'=h∧r= .int .i64 (zFN n i):=by
 refine zA.of_fn (g:=zXY) mix Tryz.func59 zgx rfl rfl ?_;simp only[Tryz.f59,gJ];simp only[go_sem,Nat.reduceEqDiff,↓reduceIte,z6,Nat.reduceAdd,Nat.zero_add,zU,List.getElem?_cons_zero,List.getElem?_cons_succ,zG hc zm qF (qe hi)];refine(zXl (hs.hs.2 _ (List.getElem_mem hi)) h).mono ?_;rintro r h ⟨rfl,x,rfl⟩;simp only[go_sem,Nat.reduceEqDiff,↓reduceIte,zAT,List.getElem?_cons_zero,List.getElem?_cons_succ];rw[zFN,zG1 hi]
theorem zTv {n:Note} {a b c e:D} (he:zX 1 (zx n.cs) e) (hs:n.Sm) {i:Nat} (hi:i<n.cs.length) (h:Heap):
  zA Tryz.prog 61 [.int .i64 (i:Int), .iptr [a,b,c,e] 0] h fun r h'=>h'=h∧r= .int .i64 (zD8 n i):=by
 refine zA.of_fn (g:=zab) mix Tryz.func61 zhW rfl rfl ?_;simp only[Tryz.f61,gJ];simp only[go_sem,Nat.reduceEqDiff,↓reduceIte,z6,Nat.reduceAdd,Nat.zero_add,zU,List.getElem?_cons_zero,List.getElem?_cons_succ,zG he zm qF (qe hi)];refine(zEt (hs.cs.2 _ (List.getElem_mem hi)) h).mono ?_;rintro r h ⟨rfl,rfl⟩;simp only[go_sem,Nat.reduceEqDiff,↓reduceIte];rw[zD8,zG1 hi]
theorem zTw (a b:Nat):zPd (.int .i64 (a:Int)) (.int .i64 (b:Int))=some (.int .i64 ((max a b:Nat):Int)):=by
 simp only[zPd,if_true];by_cases q:(b:Int)>a
 ·rw[if_pos q,Nat.max_eq_right (by omega)]
 ·rw[if_neg q,Nat.max_eq_left (by omega)]
theorem wa (a b c e:Nat):zHX (.int .i64 (a:Int)) [.int .i64 (b:Int), .int .i64 (c:Int), .int .i64 (e:Int)]=some (.int .i64 ((max (max (max a b) c) e:Nat):Int)):=by
 simp only[zHX,zTw]
theorem zXn {n:Note} {d:D} (hd:zC4 n d) (hs:n.Sm) (h:Heap):
  zA Tryz.prog 26 [d] h fun r h'=>h'=h∧r= .int .i64 (zAP n):=by
 obtain⟨a,b,c,e,rfl,ha,hb,hc,he⟩:=hd;refine zA.of_fn (g:=zRP) mix Tryz.func26 ze5 rfl rfl ?_;simp only[Tryz.f26,gJ];have l1:((zx n.ls).length:Int)=n.ls.length:=by rw[zH]
 have l2:((zx n.ts).length:Int)=n.ts.length:=by rw[zH]
 have l3:((zx n.hs).length:Int)=n.hs.length:=by rw[zH]
 have l4:((zx n.cs).length:Int)=n.cs.length:=by rw[zH]
 have e1:decide (((max (max (max n.ls.length n.ts.length) n.hs.length) n.cs.length:Nat):Int)>1024)=decide (max (max (max n.ls.length n.ts.length) n.hs.length) n.cs.length>1024):=by
  by_cases q:max (max (max n.ls.length n.ts.length) n.hs.length) n.cs.length>1024
  ·rw[decide_eq_true q,decide_eq_true (by omega)]
  ·rw[decide_eq_false q,decide_eq_false (by omega)]
 cases h1:decide (max (max (max n.ls.length n.ts.length) n.hs.length) n.cs.length>1024) with
 |true=>
  simp only[go_sem,Nat.reduceEqDiff,↓reduceIte,zTd,List.contains_nil,D.notTuple,D.cells,z6,Nat.reduceAdd,Nat.zero_add,zU,List.getElem?_cons_zero,List.getElem?_cons_succ,zQ ha Tryz.underlying31,zQ hb Tryz.underlying31,zQ hc Tryz.underlying31,zQ he Tryz.underlying31,l1,l2,l3,l4,wa,e1,h1];rw[zAP,if_pos (of_decide_eq_true h1)]
 |false=>
 have g1:=of_decide_eq_false h1;cases h2:((n.ts.length:Int) !=n.ls.length) with
 |true=>
  simp only[go_sem,Nat.reduceEqDiff,↓reduceIte,zTd,List.contains_nil,D.notTuple,D.cells,z6,Nat.reduceAdd,Nat.zero_add,zU,List.getElem?_cons_zero,List.getElem?_cons_succ,zQ ha Tryz.underlying31,zQ hb Tryz.underlying31,zQ hc Tryz.underlying31,zQ he Tryz.underlying31,l1,l2,l3,l4,wa,e1,h1,h2];rw[zAP,if_neg g1,if_pos (by simp at h2;omega)]
 |false=>
 have g2:n.ts.length=n.ls.length:=by simp at h2;omega
 have hck:zAP n=if zDK (zJc n) n.ls≠0 then zDK (zJc n) n.ls else if zDK (zFN n) n.hs≠0 then zDK (zFN n) n.hs else zDK (zD8 n) n.cs:=by
  rw[zAP,if_neg g1,if_neg (by simp[g2])]
 simp only[go_sem,Nat.reduceEqDiff,↓reduceIte,zTd,List.contains_nil,D.notTuple,D.cells,z6,Nat.reduceAdd,Nat.zero_add,zU,List.getElem?_cons_zero,List.getElem?_cons_succ,zQ ha Tryz.underlying31,zQ hb Tryz.underlying31,zQ hc Tryz.underlying31,zQ he Tryz.underlying31,l1,l2,l3,l4,wa,e1,h1,h2];refine(zCM ha hs.ls.1 (e:=zJc n) (g:=56) (fst:=[]) (cap:=[.iptr [a,b,c,e] 0]) (fun i hi h=>zTt ha hb hs g2 hi h) h).mono ?_;rintro r h ⟨rfl,rfl⟩;cases h3:(zDK (zJc n) n.ls !=0) with
 |true=>
  simp only[go_sem,Nat.reduceEqDiff,↓reduceIte,zTd,List.contains_nil,D.notTuple,D.cells,z6,Nat.reduceAdd,Nat.zero_add,zU,List.getElem?_cons_zero,List.getElem?_cons_succ,zQ ha Tryz.underlying31,zQ hb Tryz.underlying31,zQ hc Tryz.underlying31,zQ he Tryz.underlying31,l1,l2,l3,l4,wa,e1,h1,h2,h3];rw[hck,if_pos (by simpa using h3)]
 |false=>
 simp only[go_sem,Nat.reduceEqDiff,↓reduceIte,zTd,List.contains_nil,D.notTuple,D.cells,z6,Nat.reduceAdd,Nat.zero_add,zU,List.getElem?_cons_zero,List.getElem?_cons_succ,zQ ha Tryz.underlying31,zQ hb Tryz.underlying31,zQ hc Tryz.underlying31,zQ he Tryz.underlying31,l1,l2,l3,l4,wa,e1,h1,h2,h3];refine(zCM hc hs.hs.1 (e:=zFN n) (g:=59) (fst:=[]) (cap:=[.iptr [a,b,c,e] 0]) (fun i hi h=>zTu hc hs hi h) h).mono ?_;rintro r h ⟨rfl,rfl⟩;cases h4:(zDK (zFN n) n.hs !=0) with
 |true=>
  simp only[go_sem,Nat.reduceEqDiff,↓reduceIte,zTd,List.contains_nil,D.notTuple,D.cells,z6,Nat.reduceAdd,Nat.zero_add,zU,List.getElem?_cons_zero,List.getElem?_cons_succ,zQ ha Tryz.underlying31,zQ hb Tryz.underlying31,zQ hc Tryz.underlying31,zQ he Tryz.underlying31,l1,l2,l3,l4,wa,e1,h1,h2,h3,h4];rw[hck,if_neg (by simpa using h3),if_pos (by simpa using h4)]
 |false=>
 simp only[go_sem,Nat.reduceEqDiff,↓reduceIte,zTd,List.contains_nil,D.notTuple,D.cells,z6,Nat.reduceAdd,Nat.zero_add,zU,List.getElem?_cons_zero,List.getElem?_cons_succ,zQ ha Tryz.underlying31,zQ hb Tryz.underlying31,zQ hc Tryz.underlying31,zQ he Tryz.underlying31,l1,l2,l3,l4,wa,e1,h1,h2,h3,h4];refine(zCM he hs.cs.1 (e:=zD8 n) (g:=61) (fst:=[]) (cap:=[.iptr [a,b,c,e] 0]) (fun i hi h=>zTv he hs hi h) h).mono ?_;rintro r h ⟨rfl,rfl⟩
 simp only[go_sem,Nat.reduceEqDiff,↓reduceIte,zTd,List.contains_nil,D.notTuple,D.cells,z6,Nat.reduceAdd,Nat.zero_add,zU,List.getElem?_cons_zero,List.getElem?_cons_succ,zQ ha Tryz.underlying31,zQ hb Tryz.underlying31,zQ hc Tryz.underlying31,zQ he Tryz.underlying31,l1,l2,l3,l4,wa,e1,h1,h2,h3,h4];rw[hck,if_neg (by simpa using h3),if_neg (by simpa using h4)]
theorem zRo {id sz len:Nat} {cs rest:List D} {xs:List (List D)} (hx:∀x∈xs,x.length=sz) (hl:xs.length=len) (hc:cs=xs.flatten++rest):frz id cs (.rs id sz 0 len)= .sl sz xs .no:=by
 subst hc hl;simp only[frz];have hf:=y9 hx;rw[if_pos ⟨trivial,by rw[List.length_append,hf];omega⟩,List.drop_zero,List.take_append_of_le_length (by rw[hf];omega),List.take_of_length_le (by rw[hf];omega),wu hx]
theorem zA8 {l:List (List UInt8)} {d:D} (hd:zX 1 (zx l) d) (h0:l≠[]) (hl:l.length≤1099511627776) (h:Heap):
  zA Tryz.prog 28 [d] h fun r h'=>r= .rs h.next 1 0 l.length∧h'=h.new h.next (.row (l.map sdd)):=by
 rcases hd with⟨rfl,hs⟩ | ⟨tk,rfl⟩
 ·exact absurd (List.map_eq_nil_iff.1 hs) h0
 refine zA.of_fn (g:=zTK) mix Tryz.func28 zgS rfl rfl ?_;simp only[Tryz.f28,gJ];have hn:zDW Tryz.prog .eql 31 true (.sl 1 (zx l) tk) .nilsl=some (.bool false):=by rw[zBp (zX.mk tk) Tryz.underlying31];rfl
 simp only[go_sem,Nat.reduceEqDiff,↓reduceIte,hn,zhT,List.contains_cons,Nat.reduceBEq,zAI zm zGc qF rfl rfl (by omega:0<1)];have hpos:0<l.length:=List.length_pos_iff.2 h0
 have:zj Tryz.prog true h.next 31 (.sl 1 [] .full) (.sl 1 (zx l) tk) h=some (.rs h.next 1 0 l.length,h.new h.next (.row (l.map sdd))):=by
  rw[zD2 zm zCz qF (by omega) zCj (by rw[w9,zH];unfold lim;omega) (by rw[zH];unfold lim;omega),zH,if_neg (by omega),zD6,zOv Tryz.underlying9]
 simp only[qh,this,go_sem]
def zZJ (l:List (List UInt8)) (d:D):Prop:=(l= []∧d= .nilsl)∨(l≠[]∧d= .sl 1 (zx l) .no)
theorem zZJ.isSl {l:List (List UInt8)} {d:D} (hf:zZJ l d):zX 1 (zx l) d:=by
 rcases hf with⟨rfl,rfl⟩ | ⟨_,rfl⟩
 ·exact zX.nil
 ·exact zX.mk _
theorem zbr {l:List (List UInt8)} {id:Nat} {h:Heap} (h0:l≠[]) (hl:l.length≤1099511627776) (hrow:h.at' id=some (.row (l.map sdd))):
  zA Tryz.prog 84 [.rs id 1 0 l.length] h fun r h'=>r= .tuple []∧h'=h.set id (.row ((l.mergeSort fun x y=>decide (x≤y)).map sdd)):=by
 have:=zA.of_rowU (P:=Tryz.prog) (f:=84) (α:=List UInt8) (enc:=encStr) (dd:=sdd) (fun M ρ x v hr=>zRf hr) (fun _=>rfl) (xs:=l) (ys:=l.mergeSort fun x y=>decide (x≤y)) (rest:=[]) (id:=id) (pre:=[]) (post:=[]) (h:=h) (by kernel_rfl) (by simpa using hrow) (List.length_pos_iff.2 h0) (List.length_mergeSort _) (fun y hy=> .inl (List.mem_mergeSort.1 hy))
  (fun blk o cap w M ρ va hH hb h1 h2 hr=>by
   simp only[zq] at hr;subst hr;exact Tryz.slices_Sort_string blk o cap l w hH hb (by omega))
 simpa using this
theorem zMW {l:List (List UInt8)} {x:List UInt8} (hx:x∈Lib.compact l):x∈l:=by
 unfold Lib.compact Lib.compactUpTo at hx;obtain⟨j,hj,rfl⟩:=List.mem_map.1 hx;have hj':j<l.length:=List.mem_range.1 (List.mem_filter.1 hj).1
 have:l.toArray[j]! =l[j]:=by simp[hj']
 rw[this];exact List.getElem_mem hj'
theorem zRp {l:List (List UInt8)} {id:Nat} {h:Heap} (h0:l≠[]) (hl:l.length≤1099511627776) (hrow:h.at' id=some (.row (l.map sdd))):
  zA Tryz.prog 85 [.rs id 1 0 l.length] h fun r h'=>r= .rs id 1 0 (Lib.compact l).length∧h'=h.set id (.row ((Lib.compact l++List.replicate (l.length- (Lib.compact l).length) []).map sdd)):=by
 have hle:=Lib.compact_length_le l;have:=zA.of_row (P:=Tryz.prog) (f:=85) (α:=List UInt8) (enc:=encStr) (dd:=sdd) (fun M ρ x v hr=>zRf hr) (fun _=>rfl) (xs:=l) (ys:=Lib.compact l++List.replicate (l.length- (Lib.compact l).length) []) (m:=(Lib.compact l).length) (rest:=[]) (id:=id) (pre:=[]) (post:=[]) (h:=h) (by kernel_rfl) (by simpa using hrow) (List.length_pos_iff.2 h0) (by simp;omega) hle
  (fun y hy=>by
   rcases List.mem_append.1 hy with hy|hy
   ·exact .inl (zMW hy)
   ·refine .inr fun M ρ=> ?_;rw[List.eq_of_mem_replicate hy];simp only[sdd,rel];exact⟨⟨#[]⟩,rfl,rfl,by decide⟩)
  (fun blk o cap w M ρ va hH h1 h2 hr=>by
   simp only[zq] at hr;subst hr;exact Tryz.slices_Compact_string blk o cap l w hH (by omega) h1)
 simpa using this
def zZK (l:List (List UInt8)) (d:D):Prop:=(l= []∧d= .nilsl)∨(l≠[]∧∃tk,d= .sl 1 (zx l) tk)
theorem zG2 {l:List (List UInt8)} {d:D} (hd:zZK l d) (hl:l.length≤1099511627776) (h:Heap):
  zA Tryz.prog 37 [d] h fun r h'=>h'=h∧zZJ (zp l) r:=by
 rcases hd with⟨rfl,rfl⟩ | ⟨h0,tk,rfl⟩
 ·refine(zA.of_run (sett:=fun _=>true) (ext:=zCo) (fuel:=40) (k:=20) (d:= .nilsl) mix yq yt (by kernel_rfl) (by kernel_rfl) (by kernel_rfl) h).mono ?_;rintro r h' ⟨rfl,rfl⟩;exact⟨rfl, .inl ⟨List.eq_nil_of_length_eq_zero (Nat.le_zero.1 (zGy [])),rfl⟩⟩
 refine zA.pure (by kernel_rfl) fun hok=>zA.freezeD ?_;refine zA.of_fn (g:=zTX) mix Tryz.func37 zgp rfl rfl ?_;simp only[Tryz.f37,gJ];simp only[go_sem,Nat.reduceEqDiff,↓reduceIte,zhq];refine(zA8 (zX.mk tk) h0 hl h).mono ?_;rintro r h2 ⟨rfl,rfl⟩;refine(zbr h0 hl (zR _ _ _)).mono ?_;rintro r h2 ⟨rfl,rfl⟩;have e1:(l.mergeSort fun x y=>decide (x≤y)).length=l.length:=List.length_mergeSort _;have hne:(l.mergeSort fun x y=>decide (x≤y))≠[]:=fun e=>h0 (List.length_eq_zero_iff.1 (by rw[←e1,e];rfl))
 have hc:=zRp (l:=l.mergeSort fun x y=>decide (x≤y)) (id:=h.next) (h:=(h.new h.next (.row (l.map sdd))).set h.next (.row ((l.mergeSort fun x y=>decide (x≤y)).map sdd))) hne (by omega) (zD _ _ _);rw[e1] at hc;refine hc.mono ?_;rintro r h2 ⟨rfl,rfl⟩;refine⟨h.next,_,zD _ _ _,((((Ext.refl h).new (Nat.le_refl _) _).set (Nat.le_refl _) _).set (Nat.le_refl _) _).del (Nat.le_refl _),?_⟩;have hs0:zp l≠[]:=fun e=>by
  obtain⟨x,hx⟩:=List.exists_mem_of_ne_nil l h0;have:=yU.2 hx;rw[e] at this;cases this
 have hdef:Lib.compact (l.mergeSort fun x y=>decide (x≤y))=zp l:=rfl;rw[hdef,zRo (xs:=zx (zp l)) (rest:=(List.replicate (l.length- (zp l).length) []).map sdd) zCj (zH _) (by rw[zD6,List.map_append])];exact⟨zt (Nat.zero_le _) _ (yS (sz:=1) yf .no).2, .inr ⟨hs0,rfl⟩⟩
end Go.V
