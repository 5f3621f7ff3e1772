/- Rules of the machine of abstract values, part 2. No condition. -/
import Derived.Test.YtalepjdbhjinhaaGreatDoorW20
import Derived.Sort.Grow
import Derived.Lib.TrimU
import Derived.Test.YtalepjdbhjinhaaGreatDoorW19
import Derived.Lib.IndexLaws
import Derived.Test.YtalepjdbhjinhaaGreatDoorW17
import Derived.Test.YtalepjdbhjinhaaGreatDoorW18
set_option linter.all false
namespace Go.V
open Go.RowKit (Below)
attribute [go_sem] Option.map_none Option.map_some
section
variable {P:Program} {t e:TypeId} {s:List UInt8} {h:Heap}
theorem zJX (ha:zJ5 P t=none) (hu:P.underlying t=some .string) {k:IntKind} {n:Nat} (hn:n≤s.length):yX P t (.str s) none (some (.int k (n:Int))) none h=some (.str (s.take n)):=by
 simp[yX,ha,zB8,hu,qW,zHr,zJ6,hn]
theorem zD4 (ha:zJ5 P t=none) (hu:P.underlying t=some .string) {k:IntKind} {n:Nat} (hn:n≤s.length):yX P t (.str s) (some (.int k (n:Int))) none none h=some (.str (s.drop n)):=by
 simp[yX,ha,zB8,hu,qW,zHr,zJ6,hn]
theorem zCK (ha:zJ5 P t=none) (he:yj P t=some e) {id sz len n:Nat} (hz:szT P e=sz) {k:IntKind} (hn:n≤len):yX P t (.rs id sz 0 len) none (some (.int k (n:Int))) none h=some (.rs id sz 0 n):=by
 simp[yX,ha,zB8,he,hz,qW,zHr,zJ6,hn]
theorem zy (hu:P.underlying t=some .string):zBe P t (.str s) h=some (.int .i64 s.length):=by simp[zBe,hu]
theorem wS (hu:P.underlying t=some .string) {k:IntKind} {n:Nat} {b:UInt8} (hn:s[n]? =some b):zAf P t (.str s) (.int k (n:Int))=some (.int .u8 b.toNat):=by
 simp[zAf,hu,hn]
end
theorem Sim.grow {w0:Base} {G:List Nat} {M:Imm} {ρ:Ren} {h:Heap} {w:World} (hs:Sim w0 G M ρ h w) (os:Array Go.Obj):Sim w0 G M ρ h (Go.Sort.grow w os):=
 hs.world ⟨⟨rfl,rfl,rfl,by simp[Go.Sort.grow],fun k hk=>by simp[Go.Sort.grow,Array.getElem?_append_left hk]⟩,Nat.le_refl _⟩
theorem zA.of_rowU {P:Program} {f:FuncId} {α:Type} [Inhabited α] {enc:α→Value} {dd:α→D} (hinv:∀M ρ x v,rel M ρ (dd x) v→v=enc x) (hfl:∀x,(dd x).flat=true) {xs ys:List α} {rest:List D} {id:Nat} {pre post:List D} {h:Heap}
  (he:qX P f=true) (hrow:h.at' id=some (.row (pre++xs.map dd++post))) (h0:0<xs.length) (hlen:ys.length=xs.length) (hy:∀y∈ys,y∈xs∨∀M ρ,rel M ρ (dd y) (enc y))
  (hc:∀ (blk o cap:Nat) (w:World) (M:Imm) (ρ:Ren) (va:List Value),Go.Sort.Holds enc w blk o xs.toArray→blk<w.heap.size→xs.length≤cap→cap≤9223372036854775807→zq M ρ rest va→
   Calls P f (.slice (some ⟨blk,o,none⟩) xs.length cap::va).toArray w fun e w'=>e= .returned (.tuple #[])∧∃q os,w'=Go.Sort.grow (Go.Sort.putRow enc (Go.Sort.ahead w q) blk o ys.toArray) os):
  zA P f (.rs id 1 pre.length xs.length::rest) h fun d h'=>d= .tuple []∧h'=h.set id (.row (pre++ys.map dd++post)):=by
 refine⟨he,fun w0 G M ρ w va hg0 hs hfr hr=> ?_⟩;simp only[zq] at hr;obtain⟨v,vs',hva,hv,hrest⟩:=hr;simp only[rel] at hv;obtain⟨_,hlim,l,cap,o,hl,rfl,⟨hc1,hc2⟩,hsz,ho⟩:=hv;have ho:o=pre.length:=by
  rcases ho with hz|ho
  ·omega
  ·exact ho
 subst ho;obtain⟨l',h1,hkeep,hM,c,e,hw,hls,hcl,hcells⟩:=hs.live id _ hrow;rw[hl] at h1;cases h1;have hcell:∀ (j:Nat) (hj:j<xs.length),∃v,c[pre.length+j]? =some v∧rel M ρ (dd xs[j]) v:=fun j hj=>by
  obtain⟨_,v,e1,e2⟩:=hcells (pre.length+j) (dd xs[j]) (by
   rw[List.append_assoc,List.getElem?_append_right (by omega),Nat.add_sub_cancel_left,List.getElem?_append_left (by simpa using hj),List.getElem?_map,List.getElem?_eq_getElem hj];rfl)
  exact⟨v,e1,e2⟩
 have hholds:Go.Sort.Holds enc w l.blk pre.length xs.toArray:=fun j hj=>by
  have hj':j<xs.length:=by simpa using hj
  obtain⟨v,e1,e2⟩:=hcell j hj';refine⟨?_,by simp[World.frozen?,hw]⟩;rw[getElem!_pos xs.toArray j hj];simp only[World.cell?,hw,Option.isSome_none,Bool.false_eq_true,if_false,e1,hinv _ _ _ _ e2,List.getElem_toArray]
 have hva':va=(.slice (some ⟨l.blk,pre.length,none⟩) xs.length cap::vs').toArray:=Array.ext' (by simpa using hva);rw[hva'];have hblk:l.blk<w.heap.size:=(Array.getElem?_eq_some_iff.1 hw).1;refine(hc l.blk pre.length cap w M ρ vs' hholds hblk hc1 (by simpa [maxLen] using hc2) hrest).mono fun e w' hq=> ?_;obtain⟨rfl,q,os,rfl⟩:=hq;have hrel:∀y∈ys,rel M ρ (dd y) (enc y):=fun y hyy=>by
  rcases hy y hyy with hx|hx
  ·obtain⟨j,hj,rfl⟩:=List.mem_iff_getElem.1 hx;obtain⟨v,_,e2⟩:=hcell j hj;have:=hinv _ _ _ _ e2;rw[←this];exact e2
  ·exact hx M ρ
 have hS:=(((hs.ahead q).putRow hfl (enc:=enc) hrow hl hlen hrel)).grow os;refine⟨_,M,ρ, .tuple [],_,rfl,MLe.refl _,RLe.refl _,hS,hfr,?_,rfl,rfl⟩;simp only[rel,zq];exact⟨#[],rfl,rfl⟩
def wY (p:Nat→Bool) (s:List UInt8):Nat→Nat→Bool
 |0,_=>false
 |k+1,pos=>if pos<s.length then p (qi s pos).1||wY p s k (pos+(qi s pos).2) else false
theorem zAx {p:Nat→Bool} {s:List UInt8} {pos:Nat} (h:s.length≤pos):∀k,wY p s k pos=false
 |0=>rfl
 |k+1=>by simp[wY];omega
theorem zFK {p:Nat→Bool} {s:List UInt8} :∀ {j k pos:Nat},s.length+1≤pos+j→s.length+1≤pos+k→wY p s j pos=wY p s k pos
 |0,k,pos,hj,_=>by rw[zAx (by omega),zAx (by omega)]
 |j+1,0,pos,_,hk=>by rw[zAx (by omega),zAx (by omega)]
 |j+1,k+1,pos,hj,hk=>by
  simp only[wY];by_cases h:pos<s.length
  ·have:=Go.Lib.width_pos ⟨s.toArray⟩ pos;rw[if_pos h,if_pos h,zFK (j:=j) (k:=k) (by unfold qi;omega) (by unfold qi;omega)]
  ·rw[if_neg h,if_neg h]
theorem zMO (s:List UInt8) (pos:Nat):IntKind.i32.wrap ((qi s pos).1:Int)=((qi s pos).1:Int):=by
 have:=Go.Lib.rune_le ⟨s.toArray⟩ pos;unfold qi IntKind.wrap;simp[IntKind.signed,IntKind.bits];split<;>omega
theorem zMP (s:List UInt8) (pos:Nat):1≤(qi s pos).2:=Go.Lib.width_pos _ _
theorem zOw {s:List UInt8} {pos id:Nat} {h:Heap} (hi:h.at' id=some (.siter s pos)) (hl:s.length≤lim) (hp:pos<s.length):zHY (.ptr id 0) true h=some (.tuple [.bool true, .int .i64 (pos:Int), .int .i32 ((qi s pos).1:Int)],h.set id (.siter s (pos+(qi s pos).2))):=by
 simp[zHY,hi,hp,hl,zMO]
theorem zRh {s:List UInt8} {pos id:Nat} {h:Heap} (hi:h.at' id=some (.siter s pos)) (hp:¬pos<s.length):zHY (.ptr id 0) true h=some (.tuple [.bool false],h):=by
 simp[zHY,hi,hp]
theorem zTo (n:Nat) (d:D):zBd n [d]=List.replicate n d:=by
 induction n with
 |zero=>rfl
 |succ n ih=>simp only[zBd,List.replicate_succ,List.flatten_cons] at ih⊢;rw[ih];rfl
open Go.Proofs
theorem zXi {s:List UInt8} (hl:s.length≤1048576) (c:UInt8) (h:Heap):zA Tryz.prog 24 [.str s, .str [c]] h fun r h'=>h'=h∧r= .int .i64 (Lib.countByte s c:Nat):=by
 have hc:Lib.countByte s c≤s.length:=List.count_le_length;refine(zGl (by kernel_rfl) (fun s c w=>Tryz.strings_Count_one s c w) (args:=[.str s, .str [c]]) (d:= .int .i64 (Lib.countByte s c:Nat)) ?_ h).mono fun a b hab=>⟨hab.2,hab.1⟩;simp only[zFw,zY9];rw[zw (by omega) (by omega)];simp
theorem zXj {s:List UInt8} (hl:s.length≤1048576) (c:UInt8) (h:Heap):zA Tryz.prog 54 [.str s, .str [c]] h fun r h'=>h'=h∧r= .int .i64 (Lib.indexByte s c):=by
 have h1:=Lib.indexByte_ge s c;have h2:Lib.indexByte s c≤s.length:=by
  by_cases h0:Lib.indexByte s c= -1
  ·omega
  ·obtain⟨m,hm⟩:=Int.eq_ofNat_of_zero_le (show 0≤Lib.indexByte s c by omega);have:=(List.getElem?_eq_some_iff.1 (Lib.indexByte_some hm).1).1;omega
 refine(zDF (by kernel_rfl) (fun s c w=>Tryz.strings_Index_one s c w) (args:=[.str s, .str [c]]) (d:= .int .i64 (Lib.indexByte s c)) ?_ h).mono fun a b hab=>⟨hab.2,hab.1⟩;simp only[zDy,zY9];rw[zw (by omega) (by omega)];simp
theorem zBq {α:Type} (p:α→Bool):∀l:List α,(l.dropWhile p).length≤l.length
 | []=>Nat.le_refl _
 |a::l=>by
  simp only[List.dropWhile];split
  ·have:=zBq p l;simp;omega
  ·exact Nat.le_refl _
theorem zRi (s c:List UInt8):(Lib.trimS s c).length≤s.length:=by
 unfold Lib.trimS Lib.trimLeftS Lib.trimRightS;refine Nat.le_trans (zBq _ _) ?_;rw[List.length_reverse];refine Nat.le_trans (zBq _ _) ?_;rw[List.length_reverse];exact Nat.le_refl _
theorem zNx {s:List UInt8} (hl:s.length≤1048576) {c:List UInt8} (hc:c.all (fun b=>decide (b.toNat<128))=true) (hn:c.length<4294967281) (h:Heap) (h0:Nat.ble 2 c.length=true:=by decide):zA Tryz.prog 105 [.str s, .str c] h fun r h'=>h'=h∧r= .str (Lib.trimS s c):=by
 refine(zIL (by kernel_rfl) (fun s c w h0 h1 h2 h3=>zNu Tryz.lays160 (by kernel_rfl) s c w h0 h1 h2 h3) (args:=[.str s, .str c]) (d:= .str (Lib.trimS s c)) ?_ h).mono fun a b hab=>⟨hab.2,hab.1⟩;have h1:=zRi s c;have h2:Nat.blt c.length 4294967281=true:=by rw[Nat.blt_eq];exact hn
 simp only[zJW,h0,hc,h2,Bool.and_self,if_true,zcy];rw[if_pos (decide_eq_true (by unfold lim;omega))]
def zi (c:UInt8):List UInt8→List (List UInt8)
 | []=>[[]]
 |b::s=>if b=c then []::zi c s else match zi c s with
  | []=>[[b]]
  |p::ps=>(b::p)::ps
theorem zGt (c:UInt8):∀s,zi c s≠[]
 | []=>by simp[zi]
 |b::s=>by
  simp only[zi];split
  ·simp
  ·split<;>simp
theorem zAY (c:UInt8):∀s:List UInt8,(zi c s).length=s.count c+1
 | []=>rfl
 |b::s=>by
  have ih:=zAY c s;simp only[zi];by_cases h:b=c
  ·subst h;simp[ih]
  ·rw[if_neg h,List.count_cons_of_ne h];split
   ·rename_i h0;rw[h0] at ih;simp at ih
   ·rename_i p ps h0;rw[h0] at ih;simpa using ih
theorem zDG {c:UInt8} :∀ {s:List UInt8},c∉s→zi c s= [s]
 | [],_=>rfl
 |b::s,h=>by
  simp only[List.mem_cons,not_or] at h;rw[zi,if_neg (fun e=>h.1 e.symm),zDG h.2]
theorem zKx {c:UInt8} :∀ {m:Nat} {s:List UInt8},s[m]? =some c→(∀k,k<m→s[k]? ≠some c)→zi c s=s.take m::zi c (s.drop (m+1))
 |m,[],h,_=>by simp at h
 |0,b::s,h,_=>by
  simp only[List.getElem?_cons_zero,Option.some.injEq] at h;rw[zi,if_pos h];simp
 |m+1,b::s,h,hk=>by
  simp only[List.getElem?_cons_succ] at h;have hb:b≠c:=fun e=>hk 0 (by omega) (by simp[e]);rw[zi,if_neg hb,zKx h fun k hkm=>by simpa using hk (k+1) (by omega)];simp
theorem zMQ (s:List UInt8) (c:UInt8):(Lib.indexByte s c= -1∧zi c s= [s])∨∃m:Nat,Lib.indexByte s c=(m:Int)∧m<s.length∧zi c s=s.take m::zi c (s.drop (m+1)):=by
 have h1:=Lib.indexByte_ge s c;by_cases h:Lib.indexByte s c= -1
 ·refine .inl ⟨h,zDG fun hc=> ?_⟩;obtain⟨k,hk⟩:=List.mem_iff_getElem?.1 hc;exact Lib.indexByte_none h k hk
 ·obtain⟨m,hm⟩:=Int.eq_ofNat_of_zero_le (show 0≤Lib.indexByte s c by omega);obtain⟨g1,g2⟩:=Lib.indexByte_some hm;exact .inr ⟨m,hm,(List.getElem?_eq_some_iff.1 g1).1,zKx g1 g2⟩
theorem zD5 (c:UInt8) (s:List UInt8):(zi c s).length≤s.length+1:=by
 rw[zAY];have:=List.count_le_length (a:=c) (l:=s);omega
theorem zC2 (c:UInt8):∀ (s:List UInt8),∀p∈zi c s,p.length≤s.length
 | [],p,h=>by simp[zi] at h;subst h;simp
 |b::s,p,h=>by
  have ih:=zC2 c s;simp only[zi] at h;split at h
  ·rcases List.mem_cons.1 h with rfl|h
   ·simp
   ·have:=ih p h;simp;omega
  ·split at h
   ·rename_i h0;exact absurd h0 (zGt c s)
   ·rename_i q qs h0;rcases List.mem_cons.1 h with rfl|h
    ·have:=ih q (by rw[h0];simp);simp;omega
    ·have:=ih p (by rw[h0];simp[h]);simp;omega
def zx (l:List (List UInt8)):List (List D):=l.map fun s=>[.str s]
theorem zH (l:List (List UInt8)):(zx l).length=l.length:=List.length_map ..
theorem qe {l:List (List UInt8)} {i:Nat} (h:i<l.length):(zx l)[i]? =some [.str l[i]]:=by simp[zx,h]
theorem yf {l:List (List UInt8)} :∀x∈zx l,qy x:=fun x hx=>by
 obtain⟨s,_,rfl⟩:=List.mem_map.1 hx;exact⟨rfl,⟨trivial,trivial⟩,rfl⟩
theorem zCj {l:List (List UInt8)} :∀x∈zx l,x.length=1:=fun x hx=>by
 obtain⟨s,_,rfl⟩:=List.mem_map.1 hx;rfl
def sdd (s:List UInt8):D:= .str s
theorem zD6 (l:List (List UInt8)):(zx l).flatten=l.map sdd:=by
 induction l with
 |nil=>rfl
 |cons x l ih=>simp[zx,sdd] at ih⊢;exact ih
set_option maxRecDepth 100000
theorem zTp {l:List (List UInt8)} {d:D} (hd:zX 1 (zx l) d) (hl:l.length≤1048576) (s:List UInt8) (h:Heap):
  zA Tryz.prog 45 [d, .str s] h fun r h'=>h'=h∧r= .int .i64 (match l.findIdx? (· ==s) with|some i=>(i:Int)|none=> -1):=by
 refine zA.of_fn (g:=zXB) mix Tryz.func45 zgN rfl rfl ?_;simp only[Tryz.f45,gJ];have hll:((zx l).length:Int)=l.length:=by rw[zH]
 simp only[go_sem,Nat.reduceEqDiff,↓reduceIte,zQ hd Tryz.underlying31,hll];refine yM (fun i fr h'=>fr 0=d∧fr 1= .str s∧fr 7= .int .i64 l.length∧fr 8= .int .i64 (i:Int)∧h'=h∧∀j (hj:j<l.length),j<i→(l[j]==s)=false) l.length (by simp[go_sem]) ?_;rintro i fr h' hi ⟨f0,f1,f7,f8,rfl,hj⟩;simp only[go_sem,Nat.reduceEqDiff,↓reduceIte,f0,f1,f7,f8];by_cases hlt:i<l.length
 ·rw[decide_eq_true (by exact_mod_cast hlt)];have hsym:(s==l[i])=(l[i]==s):=by
   by_cases e:s=l[i]
   ·rw[e]
   ·rw[beq_eq_false_iff_ne.2 e,beq_eq_false_iff_ne.2 (Ne.symm e)]
  cases he:(l[i]==s) with
  |true=>
   simp only[go_sem,Nat.reduceEqDiff,↓reduceIte,f0,f1,f7,f8,zG hd zm qF (qe hlt),zU,hsym,he]
   have:l.findIdx? (· ==s)=some i:=by
    rw[List.findIdx?_eq_some_iff_getElem];exact⟨hlt,he,fun j hji=>by rw[hj j (by omega) hji];exact Bool.false_ne_true⟩
   rw[this]
  |false=>
   simp only[go_sem,Nat.reduceEqDiff,↓reduceIte,f0,f1,f7,f8,zG hd zm qF (qe hlt),zU,hsym,he];refine⟨hlt,by rw[ze (by unfold lim;omega)],fun j hjl hji=> ?_⟩;rcases Nat.lt_succ_iff_lt_or_eq.1 hji with hji|rfl
   ·exact hj j hjl hji
   ·exact he
 ·have hie:i=l.length:=by omega
  subst hie;rw[decide_eq_false (by omega)];simp only[go_sem,Nat.reduceEqDiff,↓reduceIte]
  have:l.findIdx? (· ==s)=none:=by
   rw[List.findIdx?_eq_none_iff];intro n hn;obtain⟨j,hjl,rfl⟩:=List.mem_iff_getElem.1 hn;exact hj j hjl hjl
  rw[this]
theorem zCk {α:Type} {l:List α} {p:α→Bool} :decide ((match l.findIdx? p with|some i=>(i:Int)|none=> -1)≥0)=l.any p:=by
 cases hq:l.findIdx? p with
 |none=>
  have:l.any p=false:=by
   rw[List.findIdx?_eq_none_iff] at hq;rw[List.any_eq_false];intro n hn;rw[hq n hn];exact Bool.false_ne_true
  rw[this];rfl
 |some i=>
  have:l.any p=true:=by
   rw[List.findIdx?_eq_some_iff_getElem] at hq;obtain⟨hi,hp,_⟩:=hq;exact List.any_eq_true.2 ⟨_,List.getElem_mem hi,hp⟩
  rw[this];simp
theorem zDH {l:List (List UInt8)} {d:D} (hd:zX 1 (zx l) d) (hl:l.length≤1048576) (s:List UInt8) (h:Heap):
  zA Tryz.prog 19 [d, .str s] h fun r h'=>h'=h∧r= .bool (l.any (· ==s)):=by
 refine zA.of_fn (g:=zXS) mix Tryz.func19 zgn rfl rfl ?_;simp only[Tryz.f19,gJ];simp only[go_sem,Nat.reduceEqDiff,↓reduceIte];refine(zTp hd hl s _).mono ?_;rintro r h2 ⟨rfl,rfl⟩;simp only[go_sem,Nat.reduceEqDiff,↓reduceIte,zCk]
theorem zKy {l:List (List UInt8)} {d:D} (hd:zX 1 (zx l) d) (hl:l.length≤1048576) {g:FuncId} {fst cap:List D} {p:List UInt8→Bool} (hp:∀s∈l,∀h,zA Tryz.prog g (fst++ [.str s]++cap) h fun r h'=>h'=h∧r= .bool (p s)) (h:Heap):
  zA Tryz.prog 147 [d, .fn (.func g) fst cap] h fun r h'=>h'=h∧r= .int .i64 (match l.findIdx? p with|some i=>(i:Int)|none=> -1):=by
 refine zA.of_fn (g:=zQg) mix Tryz.func147 zag rfl rfl ?_;simp only[Tryz.f147,gJ];have hll:((zx l).length:Int)=l.length:=by rw[zH]
 simp only[go_sem,Nat.reduceEqDiff,↓reduceIte,zQ hd Tryz.underlying31,hll];refine yM (fun i fr h'=>fr 0=d∧fr 1= .fn (.func g) fst cap∧fr 7= .int .i64 l.length∧fr 8= .int .i64 (i:Int)∧h'=h∧∀j (hj:j<l.length),j<i→p l[j]=false) l.length (by simp[go_sem]) ?_;rintro i fr h' hi ⟨f0,f1,f7,f8,rfl,hj⟩;simp only[go_sem,Nat.reduceEqDiff,↓reduceIte,f0,f1,f7,f8];by_cases hlt:i<l.length
 ·rw[decide_eq_true (by exact_mod_cast hlt)];simp only[go_sem,Nat.reduceEqDiff,↓reduceIte,f0,f1,f7,f8,zG hd zm qF (qe hlt),zU];refine(hp _ (List.getElem_mem hlt) _).mono ?_;rintro r h2 ⟨rfl,rfl⟩;cases he:p l[i] with
  |true=>
   simp only[go_sem,Nat.reduceEqDiff,↓reduceIte]
   have:l.findIdx? p=some i:=by
    rw[List.findIdx?_eq_some_iff_getElem];exact⟨hlt,he,fun j hji=>by rw[hj j (by omega) hji];exact Bool.false_ne_true⟩
   rw[this]
  |false=>
   simp only[go_sem,Nat.reduceEqDiff,↓reduceIte];refine⟨hlt,by rw[ze (by unfold lim;omega)],fun j hjl hji=> ?_⟩;rcases Nat.lt_succ_iff_lt_or_eq.1 hji with hji|rfl
   ·exact hj j hjl hji
   ·exact he
 ·have hie:i=l.length:=by omega
  subst hie;rw[decide_eq_false (by omega)];simp only[go_sem,Nat.reduceEqDiff,↓reduceIte]
  have:l.findIdx? p=none:=by
   rw[List.findIdx?_eq_none_iff];intro n hn;obtain⟨j,hjl,rfl⟩:=List.mem_iff_getElem.1 hn;exact hj j hjl hjl
  rw[this]
theorem zCL {l:List (List UInt8)} {d:D} (hd:zX 1 (zx l) d) (hl:l.length≤1048576) {g:FuncId} {fst cap:List D} {p:List UInt8→Bool} (hp:∀s∈l,∀h,zA Tryz.prog g (fst++ [.str s]++cap) h fun r h'=>h'=h∧r= .bool (p s)) (h:Heap):
  zA Tryz.prog 100 [d, .fn (.func g) fst cap] h fun r h'=>h'=h∧r= .bool (l.any p):=by
 refine zA.of_fn (g:=zRG) mix Tryz.func100 zbD rfl rfl ?_;simp only[Tryz.f100,gJ];simp only[go_sem,Nat.reduceEqDiff,↓reduceIte];refine(zKy hd hl hp _).mono ?_;rintro r h2 ⟨rfl,rfl⟩;simp only[go_sem,Nat.reduceEqDiff,↓reduceIte,zCk]
theorem zKz {s:List UInt8} (hl:s.length≤1048576) {g:FuncId} {p:Nat→Bool} (hp:∀n:Nat,n≤1114111→∀h,zA Tryz.prog g [.int .i32 n] h fun r h'=>h'=h∧r= .bool (p n)) (h:Heap):
  zA Tryz.prog 240 [.str s, .fn (.func g) [] [], .bool true] h fun r h'=>h'=h∧∃n:Int,r= .int .i64 n∧decide (n≥0)=wY p s (s.length+1) 0:=by
 refine zA.pure (by kernel_rfl) fun hok=> ?_;refine zA.of_fn (g:=zQt) mix Tryz.func240 zat rfl rfl ?_;simp only[Tryz.f240,gJ];have hr:∀h:Heap,zE3 Tryz.prog h.next 9 (.str s) h=some (.ptr h.next 0,h.new h.next (.siter s 0)):=fun h=>by simp[zE3,Tryz.underlying9]
 simp only[go_sem,Nat.reduceEqDiff,↓reduceIte,hr];refine zNM (fun k fr h'=>∃pos:Nat,k=s.length-pos∧fr 1= .fn (.func g) [] []∧fr 2= .bool true∧fr 10= .ptr h.next 0∧h'.at' h.next=some (.siter s pos)∧Ext h h'∧wY p s (s.length+1) 0=wY p s (s.length+1-pos) pos) s.length ?_ ?_
 ·refine⟨0,rfl,?_⟩;simp only[go_sem,Nat.reduceEqDiff,↓reduceIte,Nat.sub_zero,true_and];exact(Ext.refl h).new (Nat.le_refl _) _
 rintro k fr h' ⟨pos,rfl,f1,f2,f10,hit,hext,hany⟩;by_cases hlt:pos<s.length
 ·have hn:=zOw hit (by unfold lim;omega) hlt;have hle:(qi s pos).1≤1114111:=Go.Lib.rune_le _ _;have hsz:=zMP s pos;simp only[go_sem,Nat.reduceEqDiff,↓reduceIte,f1,f2,f10,hn,zAT];refine(hp _ hle _).mono ?_;rintro r h2 ⟨rfl,rfl⟩;have hbb:∀b c,zDW Tryz.prog .eql 4 c (.bool b) (.bool true)=some (.bool b):=fun b c=>by cases b<;>simp[zDW,zUa,zAL,veq,Tryz.underlying4]
  have hst:s.length+1-pos=(s.length-pos)+1:=by omega
  cases he:p (qi s pos).1 with
  |true=>
   simp only[go_sem,Nat.reduceEqDiff,↓reduceIte,hbb,f1,f2,f10];refine⟨hext.set (Nat.le_refl _) _,trivial,(pos:Int),rfl,?_⟩;rw[hany,hst,wY,if_pos hlt,he,decide_eq_true (by omega)];rfl
  |false=>
   simp only[go_sem,Nat.reduceEqDiff,↓reduceIte,hbb,f1,f2,f10];refine⟨s.length- (pos+(qi s pos).2),by omega,pos+(qi s pos).2,rfl,rfl,hext.set (Nat.le_refl _) _,?_⟩;rw[hany,hst,wY,if_pos hlt,he,Bool.false_or];exact zFK (by omega) (by omega)
 ·have hn:=zRh hit hlt;simp only[go_sem,Nat.reduceEqDiff,↓reduceIte,f1,f2,f10,hn,zAT];refine⟨hext,trivial,-1,rfl,?_⟩;rw[hany,zAx (by omega)];rfl
theorem zGu {s:List UInt8} (hl:s.length≤1048576) {g:FuncId} {p:Nat→Bool} (hp:∀n:Nat,n≤1114111→∀h,zA Tryz.prog g [.int .i32 n] h fun r h'=>h'=h∧r= .bool (p n)) (h:Heap):
  zA Tryz.prog 163 [.str s, .fn (.func g) [] []] h fun r h'=>h'=h∧r= .bool (wY p s (s.length+1) 0):=by
 refine zA.of_fn (g:=zRT) mix Tryz.func163 zbW rfl rfl ?_;simp only[Tryz.f163,gJ];simp only[go_sem,Nat.reduceEqDiff,↓reduceIte];refine zA.mono (Q:=fun r h'=>h'=h∧∃n:Int,r= .int .i64 n∧decide (n≥0)=wY p s (s.length+1) 0) ?_ ?_
 ·refine zA.of_fn (g:=zRU) mix Tryz.func210 zbY rfl rfl ?_;simp only[Tryz.f210,gJ];simp only[go_sem,Nat.reduceEqDiff,↓reduceIte];refine(zKz hl hp _).mono ?_;rintro r h2 ⟨rfl,n,rfl,hn⟩;simp only[go_sem,Nat.reduceEqDiff,↓reduceIte];exact⟨n,rfl,hn⟩
 ·rintro r h2 ⟨rfl,n,rfl,hn⟩;simp only[go_sem,Nat.reduceEqDiff,↓reduceIte,hn]
theorem zMR {s:List UInt8} (hl:s.length≤1048576) (c:UInt8) (h:Heap):
  zA Tryz.prog 63 [.str s, .str [c]] h fun r h'=>h'=h∧r= .sl 1 (zx (zi c s)) .no:=by
 refine zA.of_fn (g:=zXQ) mix Tryz.func63 zgk rfl rfl ?_;simp only[Tryz.f63,gJ];simp only[go_sem,Nat.reduceEqDiff,↓reduceIte];refine zA.mono (Q:=fun r h'=>h'=h∧r= .sl 1 (zx (zi c s)) .no) ?_ ?_
 rotate_left
 ·rintro r h2 ⟨rfl,rfl⟩;simp only[go_sem,Nat.reduceEqDiff,↓reduceIte]
 have hlen:=zD5 c s;have hlc:=zAY c s;refine zA.pure (by kernel_rfl) fun hok=>zA.freezeD ?_;refine zA.of_fn (g:=zNQ) mix Tryz.func110 zaO rfl rfl ?_;simp only[Tryz.f110,gJ];have hne:([c]==([]:List UInt8))=false:=rfl;simp only[go_sem,Nat.reduceEqDiff,↓reduceIte,hne,show((-1:Int)==0)=false from rfl,show decide ((-1:Int)<0)=true from rfl]
 refine(zXi hl c _).mono ?_;rintro r h ⟨rfl,rfl⟩;have hw1:IntKind.i64.wrap ((Lib.countByte s c:Nat)+1:Int)=(((zi c s).length:Nat):Int):=by
  rw[hlc,show Lib.countByte s c=s.count c from rfl]
  exact ze (by have:=List.count_le_length (a:=c) (l:=s);unfold lim;omega)
 have hw2:IntKind.i64.wrap ((s.length:Int)+1)=((s.length+1:Nat):Int):=ze (by unfold lim;omega);have hmin:zPW (.int .i64 (((zi c s).length:Nat):Int)) (.int .i64 ((s.length+1:Nat):Int))=some (.int .i64 (((zi c s).length:Nat):Int)):=by
  simp only[zPW,if_true];rw[if_neg (by omega)]
 have hmk:∀h:Heap,qp Tryz.prog true h.next 31 (.int .i64 (((zi c s).length:Nat):Int)) (.int .i64 (((zi c s).length:Nat):Int)) h=some (.rs h.next 1 0 (zi c s).length,h.new h.next (.row (zBd (zi c s).length [.str []]))):=fun h=>by
  simp only[qp,zm,zGc,qF,w9];rw[if_pos (by simp[zKt,zRd];unfold lim;omega)];simp;rfl
 have hw3:IntKind.i64.wrap ((((zi c s).length:Nat):Int)-1)=((((zi c s).length-1:Nat)):Int):=by
  have:=zGt c s;have h1:0<(zi c s).length:=List.length_pos_iff.2 this;rw[zw (by omega) (by omega)];omega
 simp only[go_sem,Nat.reduceEqDiff,↓reduceIte,hw1,hw2,hw3,hmin,hmk,zdi,List.contains_cons,Nat.reduceBEq,zy Tryz.underlying9];have hpos:0<(zi c s).length:=List.length_pos_iff.2 (zGt c s);refine yM (fun i fr h'=>∃ (ps:List (List UInt8)) (r:List UInt8),ps.length=i∧zi c s=ps++zi c r∧r.length≤s.length∧fr 0= .str r∧fr 1= .str [c]∧fr 2= .int .i64 0∧fr 3= .int .i64 (((zi c s).length-1:Nat):Int)∧fr 9= .rs h.next 1 0 (zi c s).length∧fr 10= .int .i64 (i:Int)∧
   h'.at' h.next=some (.row (ps.map sdd++List.replicate ((zi c s).length-i) (.str [])))∧Ext h h') ((zi c s).length-1) ?_ ?_
 ·refine⟨[],s,rfl,rfl,Nat.le_refl _,?_⟩;simp only[go_sem,Nat.reduceEqDiff,↓reduceIte,true_and,Nat.sub_zero];refine⟨rfl,?_,(Ext.refl h).new (Nat.le_refl _) _⟩;rw[zTo]
 rintro i fr h' hi ⟨ps,r,hps,hsp,hrl,f0,f1,f2,f3,f9,f10,hrow,hext⟩;simp only[go_sem,Nat.reduceEqDiff,↓reduceIte,f0,f1,f2,f3,f9,f10];have hput:∀x:List UInt8,i<(zi c s).length→(ps.map sdd++List.replicate ((zi c s).length-i) (D.str [])).set i (D.str x)=(ps++ [x]).map sdd++List.replicate ((zi c s).length- (i+1)) (D.str []):=fun x hlt=>by
  rw[List.set_append_right _ _ (by simp[hps]),List.length_map,hps,Nat.sub_self,show(zi c s).length-i=((zi c s).length- (i+1))+1 by omega,List.replicate_succ,List.set_cons_zero];simp[sdd]
 by_cases hlt:i<(zi c s).length-1
 ·rw[decide_eq_true (by exact_mod_cast hlt)];simp only[go_sem,Nat.reduceEqDiff,↓reduceIte,f0,f1,f2,f3,f9,f10];refine(zXj (by omega) c _).mono ?_;rintro q h' ⟨rfl,rfl⟩;rcases zMQ r c with⟨hm,hs1⟩ | ⟨m,hm,hml,hs1⟩
  ·exfalso;rw[hs1] at hsp;have:=congrArg List.length hsp;simp[hps] at this;omega
  ·have hneg:decide (((m:Nat):Int)<0)=false:=decide_eq_false (by omega);have hw4:IntKind.i64.wrap ((m:Int)+0)=((m:Nat):Int):=by rw[Int.add_zero,zw (by omega) (by omega)]
   have hw5:IntKind.i64.wrap ((m:Int)+1)=((m+1:Nat):Int):=ze (by unfold lim;omega);have hl1:([c].length:Int)=1:=rfl;have hsth:zS Tryz.prog 9 (.ptr h.next (i*1)) (.str (r.take m)) h'=some (h'.set h.next (.row ((ps++ [r.take m]).map sdd++List.replicate ((zi c s).length- (i+1)) (.str [])))):=by
    rw[Nat.mul_one,zM hrow qF (by simp[hps];omega) rfl rfl,hput _ (by omega)]
   simp only[go_sem,Nat.reduceEqDiff,↓reduceIte,f0,f1,f2,f3,f9,f10,hm,hneg,hw4,hw5,hl1,zy Tryz.underlying9,zJX zNN Tryz.underlying9 (show m≤r.length by omega),zD4 zNN Tryz.underlying9 (show m+1≤r.length by omega),yn zm qF (show i<(zi c s).length by omega),hsth];refine⟨hlt,ps++ [r.take m],r.drop (m+1),by simp[hps],by rw[hsp,hs1];simp,by simp;omega,rfl,?_,rfl,hext.set (Nat.le_refl _) _⟩;rw[ze (by unfold lim;omega)]
 ·have hie:i=(zi c s).length-1:=by omega
  rw[decide_eq_false (by omega)];have hlast:zi c r= [r]:=by
   have h1:=congrArg List.length hsp;rw[List.length_append,hps,zAY c r] at h1;exact zDG (List.count_eq_zero.1 (by omega))
  have hw6:IntKind.i64.wrap ((i:Int)+1)=(((zi c s).length:Nat):Int):=by rw[ze (by unfold lim;omega)];omega
  have hsth:zS Tryz.prog 9 (.ptr h.next (i*1)) (.str r) h'=some (h'.set h.next (.row ((ps++ [r]).map sdd++List.replicate ((zi c s).length- (i+1)) (.str [])))):=by
   rw[Nat.mul_one,zM hrow qF (by simp[hps];omega) rfl rfl,hput _ (by omega)]
  simp only[go_sem,Nat.reduceEqDiff,↓reduceIte,f0,f1,f2,f3,f9,f10,hw6,yn zm qF (show i<(zi c s).length by omega),hsth,zCK zWU zm qF (Nat.le_refl (zi c s).length)];have hall:(ps++ [r]).map sdd++List.replicate ((zi c s).length- (i+1)) (.str [])=(zx (zi c s)).flatten:=by
   rw[show(zi c s).length- (i+1)=0 by omega,List.replicate_zero,List.append_nil,zD6,hsp,hlast]
  refine⟨h.next,_,zD _ _ _,(hext.set (Nat.le_refl _) _).del (Nat.le_refl _),?_⟩;rw[zbm zCj (zH _) hall];exact⟨zt (Nat.zero_le _) _ (yS (sz:=1) yf .no).2,rfl⟩
def zDI:List UInt8:=[97,98,99,100,101,102,103,104,105,106,107,108,109,110,111,112,113,114,115,116,117,118,119,120,121,122,48,49,50,51,52,53,54,55,56,57,45,46]
def yr (s:List UInt8):Bool:=match s with
 | []=>false
 |b::r=> !(decide ((b::r).length>32)||decide ((b.toNat:Int)<97)||decide ((b.toNat:Int)>122)||((b::r:List UInt8)== [97,110,100])||((b::r:List UInt8)== [111,114])||((b::r:List UInt8)== [119,105,116,104]))&&(Lib.trimS (b::r) zDI== [])
def zBW (s:List UInt8):List (List UInt8):=if s= [] then [] else zi 10 s
def qA (b:UInt8):Bool:=((b.toNat:Int) !=10)&&(decide ((b.toNat:Int)<32)||decide ((b.toNat:Int)>126))
def wv (s:List UInt8):Int:=if s.length>4096∨(zBW s).length>999 then 10 else if s.any qA then 4 else 0
end Go.V
