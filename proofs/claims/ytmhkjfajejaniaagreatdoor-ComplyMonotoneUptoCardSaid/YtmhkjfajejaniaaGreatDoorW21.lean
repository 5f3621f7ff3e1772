/- Rules of the machine of abstract values, part 3. No condition. -/
import Derived.Test.YtmhkjfajejaniaaGreatDoorW20
import Derived.Sort.Grow
import Derived.Lib.TrimU
import Derived.Test.YtmhkjfajejaniaaGreatDoorW19
import Derived.Lib.IndexLaws
import Derived.Test.YtmhkjfajejaniaaGreatDoorW17
import Derived.Test.YtmhkjfajejaniaaGreatDoorW18
set_option linter.all false
namespace Go.V
open Go.RowKit (Below)
attribute [go_sem] Option.map_none Option.map_some
section
variable {P:Program} {t e:TypeId} {s:List UInt8} {h:Heap}
theorem zK6 (ha:zJH P t=none) (hu:P.underlying t=some .string) {k:IntKind} {n:Nat} (hn:n≤s.length):yk P t (.str s) none (some (.int k (n:Int))) none h=some (.str (s.take n)):=by
 simp[yk,ha,zC6,hu,wC,zJI,zLo,hn]
theorem zFF (ha:zJH P t=none) (hu:P.underlying t=some .string) {k:IntKind} {n:Nat} (hn:n≤s.length):yk P t (.str s) (some (.int k (n:Int))) none none h=some (.str (s.drop n)):=by
 simp[yk,ha,zC6,hu,wC,zJI,zLo,hn]
theorem zAw (ha:zJH P t=none) (he:qL P t=some e) {id sz len n:Nat} (hz:szT P e=sz) {k:IntKind} (hn:n≤len):yk P t (.rs id sz 0 len) none (some (.int k (n:Int))) none h=some (.rs id sz 0 n):=by
 simp[yk,ha,zC6,he,hz,wC,zJI,zLo,hn]
theorem wF (hu:P.underlying t=some .string):zC1 P t (.str s) h=some (.int .i64 s.length):=by simp[zC1,hu]
theorem zAi (hu:P.underlying t=some .string) {k:IntKind} {n:Nat} {b:UInt8} (hn:s[n]? =some b):zBv P t (.str s) (.int k (n:Int))=some (.int .u8 b.toNat):=by
 simp[zBv,hu,hn]
end
theorem Sim.grow {w0:Base} {G:List Nat} {M:Imm} {ρ:Ren} {h:Heap} {w:World} (hs:Sim w0 G M ρ h w) (os:Array Go.Obj):Sim w0 G M ρ h (Go.Sort.grow w os):=
 hs.world ⟨⟨rfl,rfl,rfl,by simp[Go.Sort.grow],fun k hk=>by simp[Go.Sort.grow,Array.getElem?_append_left hk]⟩,Nat.le_refl _⟩
def zAL (p:Nat→Bool) (s:List UInt8):Nat→Nat→Bool
 |0,_=>false
 |k+1,pos=>if pos<s.length then p (wI s pos).1||zAL p s k (pos+(wI s pos).2) else false
theorem zBo {p:Nat→Bool} {s:List UInt8} {pos:Nat} (h:s.length≤pos):∀k,zAL p s k pos=false
 |0=>rfl
 |k+1=>by simp[zAL];omega
theorem zGZ {p:Nat→Bool} {s:List UInt8} :∀ {j k pos:Nat},s.length+1≤pos+j→s.length+1≤pos+k→zAL p s j pos=zAL p s k pos
 |0,k,pos,hj,_=>by rw[zBo (by omega),zBo (by omega)]
 |j+1,0,pos,_,hk=>by rw[zBo (by omega),zBo (by omega)]
 |j+1,k+1,pos,hj,hk=>by
  simp only[zAL];by_cases h:pos<s.length
  ·have:=Go.Lib.width_pos ⟨s.toArray⟩ pos;rw[if_pos h,if_pos h,zGZ (j:=j) (k:=k) (by unfold wI;omega) (by unfold wI;omega)]
  ·rw[if_neg h,if_neg h]
theorem zOP (s:List UInt8) (pos:Nat):IntKind.i32.wrap ((wI s pos).1:Int)=((wI s pos).1:Int):=by
 have:=Go.Lib.rune_le ⟨s.toArray⟩ pos;unfold wI IntKind.wrap;simp[IntKind.signed,IntKind.bits];split<;>omega
theorem zOQ (s:List UInt8) (pos:Nat):1≤(wI s pos).2:=Go.Lib.width_pos _ _
theorem zRG {s:List UInt8} {pos id:Nat} {h:Heap} (hi:h.at' id=some (.siter s pos)) (hl:s.length≤lim) (hp:pos<s.length):zIw (.ptr id 0) true h=some (.tuple [.bool true, .int .i64 (pos:Int), .int .i32 ((wI s pos).1:Int)],h.set id (.siter s (pos+(wI s pos).2))):=by
 simp[zIw,hi,hp,hl,zOP]
theorem zT0 {s:List UInt8} {pos id:Nat} {h:Heap} (hi:h.at' id=some (.siter s pos)) (hp:¬pos<s.length):zIw (.ptr id 0) true h=some (.tuple [.bool false],h):=by
 simp[zIw,hi,hp]
theorem zWX (n:Nat) (d:D):zA7 n [d]=List.replicate n d:=by
 induction n with
 |zero=>rfl
 |succ n ih=>simp only[zA7,List.replicate_succ,List.flatten_cons] at ih⊢;rw[ih];rfl
open Go.Proofs
theorem zZ9 {s:List UInt8} (hl:s.length≤1048576) (c:UInt8) (h:Heap):zA Tryz.prog 130 [.str s, .str [c]] h fun r h'=>h'=h∧r= .int .i64 (Lib.countByte s c:Nat):=by
 have hc:Lib.countByte s c≤s.length:=List.count_le_length;refine(zH2 (by kernel_rfl) (fun s c w=>Tryz.strings_Count_one s c w) (args:=[.str s, .str [c]]) (d:= .int .i64 (Lib.countByte s c:Nat)) ?_ h).mono fun a b hab=>⟨hab.2,hab.1⟩;simp only[zHB,zbu];rw[zZ (by omega) (by omega)];simp
theorem zaA {s:List UInt8} (hl:s.length≤1048576) (c:UInt8) (h:Heap):zA Tryz.prog 131 [.str s, .str [c]] h fun r h'=>h'=h∧r= .int .i64 (Lib.indexByte s c):=by
 have h1:=Lib.indexByte_ge s c;have h2:Lib.indexByte s c≤s.length:=by
  by_cases h0:Lib.indexByte s c= -1
  ·omega
  ·obtain⟨m,hm⟩:=Int.eq_ofNat_of_zero_le (show 0≤Lib.indexByte s c by omega);have:=(List.getElem?_eq_some_iff.1 (Lib.indexByte_some hm).1).1;omega
 refine(zET (by kernel_rfl) (fun s c w=>Tryz.strings_Index_one s c w) (args:=[.str s, .str [c]]) (d:= .int .i64 (Lib.indexByte s c)) ?_ h).mono fun a b hab=>⟨hab.2,hab.1⟩;simp only[zFB,zbu];rw[zZ (by omega) (by omega)];simp
theorem zCh {α:Type} (p:α→Bool):∀l:List α,(l.dropWhile p).length≤l.length
 | []=>Nat.le_refl _
 |a::l=>by
  simp only[List.dropWhile];split
  ·have:=zCh p l;simp;omega
  ·exact Nat.le_refl _
theorem zT1 (s c:List UInt8):(Lib.trimS s c).length≤s.length:=by
 unfold Lib.trimS Lib.trimLeftS Lib.trimRightS;refine Nat.le_trans (zCh _ _) ?_;rw[List.length_reverse];refine Nat.le_trans (zCh _ _) ?_;rw[List.length_reverse];exact Nat.le_refl _
theorem zYQ {s:List UInt8} (hl:s.length≤1048576) {c:List UInt8} (hc:c.all (fun b=>decide (b.toNat<128))=true) (hn:c.length<4294967281) (h:Heap) (h0:Nat.ble 2 c.length=true:=by decide):zA Tryz.prog 189 [.str s, .str c] h fun r h'=>h'=h∧r= .str (Lib.trimS s c):=by
 refine(zJr (by kernel_rfl) (fun s c w h0 h1 h2 h3=>zQF Tryz.lays160 (by kernel_rfl) s c w h0 h1 h2 h3) (args:=[.str s, .str c]) (d:= .str (Lib.trimS s c)) ?_ h).mono fun a b hab=>⟨hab.2,hab.1⟩;have h1:=zT1 s c;have h2:Nat.blt c.length 4294967281=true:=by rw[Nat.blt_eq];exact hn
 simp only[zK5,h0,hc,h2,Bool.and_self,if_true,zgL];rw[if_pos (decide_eq_true (by unfold lim;omega))]
def zi (c:UInt8):List UInt8→List (List UInt8)
 | []=>[[]]
 |b::s=>if b=c then []::zi c s else match zi c s with
  | []=>[[b]]
  |p::ps=>(b::p)::ps
theorem zID (c:UInt8):∀s,zi c s≠[]
 | []=>by simp[zi]
 |b::s=>by
  simp only[zi];split
  ·simp
  ·split<;>simp
theorem zBL (c:UInt8):∀s:List UInt8,(zi c s).length=s.count c+1
 | []=>rfl
 |b::s=>by
  have ih:=zBL c s;simp only[zi];by_cases h:b=c
  ·subst h;simp[ih]
  ·rw[if_neg h,List.count_cons_of_ne h];split
   ·rename_i h0;rw[h0] at ih;simp at ih
   ·rename_i p ps h0;rw[h0] at ih;simpa using ih
theorem zEV {c:UInt8} :∀ {s:List UInt8},c∉s→zi c s= [s]
 | [],_=>rfl
 |b::s,h=>by
  simp only[List.mem_cons,not_or] at h;rw[zi,if_neg (fun e=>h.1 e.symm),zEV h.2]
theorem zMf {c:UInt8} :∀ {m:Nat} {s:List UInt8},s[m]? =some c→(∀k,k<m→s[k]? ≠some c)→zi c s=s.take m::zi c (s.drop (m+1))
 |m,[],h,_=>by simp at h
 |0,b::s,h,_=>by
  simp only[List.getElem?_cons_zero,Option.some.injEq] at h;rw[zi,if_pos h];simp
 |m+1,b::s,h,hk=>by
  simp only[List.getElem?_cons_succ] at h;have hb:b≠c:=fun e=>hk 0 (by omega) (by simp[e]);rw[zi,if_neg hb,zMf h fun k hkm=>by simpa using hk (k+1) (by omega)];simp
theorem zOR (s:List UInt8) (c:UInt8):(Lib.indexByte s c= -1∧zi c s= [s])∨∃m:Nat,Lib.indexByte s c=(m:Int)∧m<s.length∧zi c s=s.take m::zi c (s.drop (m+1)):=by
 have h1:=Lib.indexByte_ge s c;by_cases h:Lib.indexByte s c= -1
 ·refine .inl ⟨h,zEV fun hc=> ?_⟩;obtain⟨k,hk⟩:=List.mem_iff_getElem?.1 hc;exact Lib.indexByte_none h k hk
 ·obtain⟨m,hm⟩:=Int.eq_ofNat_of_zero_le (show 0≤Lib.indexByte s c by omega);obtain⟨g1,g2⟩:=Lib.indexByte_some hm;exact .inr ⟨m,hm,(List.getElem?_eq_some_iff.1 g1).1,zMf g1 g2⟩
theorem zFG (c:UInt8) (s:List UInt8):(zi c s).length≤s.length+1:=by
 rw[zBL];have:=List.count_le_length (a:=c) (l:=s);omega
theorem zEE (c:UInt8):∀ (s:List UInt8),∀p∈zi c s,p.length≤s.length
 | [],p,h=>by simp[zi] at h;subst h;simp
 |b::s,p,h=>by
  have ih:=zEE c s;simp only[zi] at h;split at h
  ·rcases List.mem_cons.1 h with rfl|h
   ·simp
   ·have:=ih p h;simp;omega
  ·split at h
   ·rename_i h0;exact absurd h0 (zID c s)
   ·rename_i q qs h0;rcases List.mem_cons.1 h with rfl|h
    ·have:=ih q (by rw[h0];simp);simp;omega
    ·have:=ih p (by rw[h0];simp[h]);simp;omega
def yI (l:List (List UInt8)):List (List D):=l.map fun s=>[.str s]
theorem zp (l:List (List UInt8)):(yI l).length=l.length:=List.length_map ..
theorem zHC {l:List (List UInt8)} {i:Nat} (h:i<l.length):(yI l)[i]? =some [.str l[i]]:=by simp[yI,h]
theorem qT {l:List (List UInt8)} :∀x∈yI l,yS x:=fun x hx=>by
 obtain⟨s,_,rfl⟩:=List.mem_map.1 hx;exact⟨rfl,⟨trivial,trivial⟩,rfl⟩
theorem zHD {l:List (List UInt8)} :∀x∈yI l,x.length=1:=fun x hx=>by
 obtain⟨s,_,rfl⟩:=List.mem_map.1 hx;rfl
def sdd (s:List UInt8):D:= .str s
theorem zT2 (l:List (List UInt8)):(yI l).flatten=l.map sdd:=by
 induction l with
 |nil=>rfl
 |cons x l ih=>simp[yI,sdd] at ih⊢;exact ih
set_option maxRecDepth 100000
theorem zK7 {l:List (List UInt8)} {d:D} (hd:za 1 (yI l) d) (hl:l.length≤1048576) (s:List UInt8) (h:Heap):
  zA Tryz.prog 29 [d, .str s] h fun r h'=>h'=h∧r= .int .i64 (match l.findIdx? (· ==s) with|some i=>(i:Int)|none=> -1):=by
 refine zA.of_fn (g:=zZl) mix Tryz.func29 zj0 rfl rfl ?_;simp only[Tryz.f29,gJ];have hll:((yI l).length:Int)=l.length:=by rw[zp]
 simp only[go_sem,Nat.reduceEqDiff,↓reduceIte,qC hd Tryz.underlying40,hll];refine yC (fun i fr h'=>fr 0=d∧fr 1= .str s∧fr 7= .int .i64 l.length∧fr 8= .int .i64 (i:Int)∧h'=h∧∀j (hj:j<l.length),j<i→(l[j]==s)=false) l.length (by simp[go_sem]) ?_;rintro i fr h' hi ⟨f0,f1,f7,f8,rfl,hj⟩;simp only[go_sem,Nat.reduceEqDiff,↓reduceIte,f0,f1,f7,f8];by_cases hlt:i<l.length
 ·rw[decide_eq_true (by exact_mod_cast hlt)];have hsym:(s==l[i])=(l[i]==s):=by
   by_cases e:s=l[i]
   ·rw[e]
   ·rw[beq_eq_false_iff_ne.2 e,beq_eq_false_iff_ne.2 (Ne.symm e)]
  cases he:(l[i]==s) with
  |true=>
   simp only[go_sem,Nat.reduceEqDiff,↓reduceIte,f0,f1,f7,f8,zd hd yq zAe (zHC hlt),zBi,hsym,he]
   have:l.findIdx? (· ==s)=some i:=by
    rw[List.findIdx?_eq_some_iff_getElem];exact⟨hlt,he,fun j hji=>by rw[hj j (by omega) hji];exact Bool.false_ne_true⟩
   rw[this]
  |false=>
   simp only[go_sem,Nat.reduceEqDiff,↓reduceIte,f0,f1,f7,f8,zd hd yq zAe (zHC hlt),zBi,hsym,he];refine⟨hlt,by rw[ze (by unfold lim;omega)],fun j hjl hji=> ?_⟩;rcases Nat.lt_succ_iff_lt_or_eq.1 hji with hji|rfl
   ·exact hj j hjl hji
   ·exact he
 ·have hie:i=l.length:=by omega
  subst hie;rw[decide_eq_false (by omega)];simp only[go_sem,Nat.reduceEqDiff,↓reduceIte]
  have:l.findIdx? (· ==s)=none:=by
   rw[List.findIdx?_eq_none_iff];intro n hn;obtain⟨j,hjl,rfl⟩:=List.mem_iff_getElem.1 hn;exact hj j hjl hjl
  rw[this]
theorem zF2 {α:Type} {l:List α} {p:α→Bool} :decide ((match l.findIdx? p with|some i=>(i:Int)|none=> -1)≥0)=l.any p:=by
 cases hq:l.findIdx? p with
 |none=>
  have:l.any p=false:=by
   rw[List.findIdx?_eq_none_iff] at hq;rw[List.any_eq_false];intro n hn;rw[hq n hn];exact Bool.false_ne_true
  rw[this];rfl
 |some i=>
  have:l.any p=true:=by
   rw[List.findIdx?_eq_some_iff_getElem] at hq;obtain⟨hi,hp,_⟩:=hq;exact List.any_eq_true.2 ⟨_,List.getElem_mem hi,hp⟩
  rw[this];simp
theorem zBp {l:List (List UInt8)} {d:D} (hd:za 1 (yI l) d) (hl:l.length≤1048576) (s:List UInt8) (h:Heap):
  zA Tryz.prog 49 [d, .str s] h fun r h'=>h'=h∧r= .bool (l.any (· ==s)):=by
 refine zA.of_fn (g:=zZx) mix Tryz.func49 zkF rfl rfl ?_;simp only[Tryz.f49,gJ];simp only[go_sem,Nat.reduceEqDiff,↓reduceIte];refine(zK7 hd hl s _).mono ?_;rintro r h2 ⟨rfl,rfl⟩;simp only[go_sem,Nat.reduceEqDiff,↓reduceIte,zF2]
theorem zMg {l:List (List UInt8)} {d:D} (hd:za 1 (yI l) d) (hl:l.length≤1048576) {g:FuncId} {fst cap:List D} {p:List UInt8→Bool} (hp:∀s∈l,∀h,zA Tryz.prog g (fst++ [.str s]++cap) h fun r h'=>h'=h∧r= .bool (p s)) (h:Heap):
  zA Tryz.prog 132 [d, .fn (.func g) fst cap] h fun r h'=>h'=h∧r= .int .i64 (match l.findIdx? p with|some i=>(i:Int)|none=> -1):=by
 refine zA.of_fn (g:=zS8) mix Tryz.func132 zdP rfl rfl ?_;simp only[Tryz.f132,gJ];have hll:((yI l).length:Int)=l.length:=by rw[zp]
 simp only[go_sem,Nat.reduceEqDiff,↓reduceIte,qC hd Tryz.underlying40,hll];refine yC (fun i fr h'=>fr 0=d∧fr 1= .fn (.func g) fst cap∧fr 7= .int .i64 l.length∧fr 8= .int .i64 (i:Int)∧h'=h∧∀j (hj:j<l.length),j<i→p l[j]=false) l.length (by simp[go_sem]) ?_;rintro i fr h' hi ⟨f0,f1,f7,f8,rfl,hj⟩;simp only[go_sem,Nat.reduceEqDiff,↓reduceIte,f0,f1,f7,f8];by_cases hlt:i<l.length
 ·rw[decide_eq_true (by exact_mod_cast hlt)];simp only[go_sem,Nat.reduceEqDiff,↓reduceIte,f0,f1,f7,f8,zd hd yq zAe (zHC hlt),zBi];refine(hp _ (List.getElem_mem hlt) _).mono ?_;rintro r h2 ⟨rfl,rfl⟩;cases he:p l[i] with
  |true=>
   simp only[go_sem,Nat.reduceEqDiff,↓reduceIte]
   have:l.findIdx? p=some i:=by
    rw[List.findIdx?_eq_some_iff_getElem];exact⟨hlt,he,fun j hji=>by rw[hj j (by omega) hji];exact Bool.false_ne_true⟩
   rw[this]
  |false=>
   simp only[go_sem,Nat.reduceEqDiff,↓reduceIte];refine⟨hlt,by rw[ze (by unfold lim;omega)],fun j hjl hji=> ?_⟩;rcases Nat.lt_succ_iff_lt_or_eq.1 hji with hji|rfl
   ·exact hj j hjl hji
   ·exact he
 ·have hie:i=l.length:=by omega
  subst hie;rw[decide_eq_false (by omega)];simp only[go_sem,Nat.reduceEqDiff,↓reduceIte]
  have:l.findIdx? p=none:=by
   rw[List.findIdx?_eq_none_iff];intro n hn;obtain⟨j,hjl,rfl⟩:=List.mem_iff_getElem.1 hn;exact hj j hjl hjl
  rw[this]
theorem zIE {l:List (List UInt8)} {d:D} (hd:za 1 (yI l) d) (hl:l.length≤1048576) {g:FuncId} {fst cap:List D} {p:List UInt8→Bool} (hp:∀s∈l,∀h,zA Tryz.prog g (fst++ [.str s]++cap) h fun r h'=>h'=h∧r= .bool (p s)) (h:Heap):
  zA Tryz.prog 165 [d, .fn (.func g) fst cap] h fun r h'=>h'=h∧r= .bool (l.any p):=by
 refine zA.of_fn (g:=zTb) mix Tryz.func165 zeJ rfl rfl ?_;simp only[Tryz.f165,gJ];simp only[go_sem,Nat.reduceEqDiff,↓reduceIte];refine(zMg hd hl hp _).mono ?_;rintro r h2 ⟨rfl,rfl⟩;simp only[go_sem,Nat.reduceEqDiff,↓reduceIte,zF2]
theorem zMh {s:List UInt8} (hl:s.length≤1048576) {g:FuncId} {p:Nat→Bool} (hp:∀n:Nat,n≤1114111→∀h,zA Tryz.prog g [.int .i32 n] h fun r h'=>h'=h∧r= .bool (p n)) (h:Heap):
  zA Tryz.prog 320 [.str s, .fn (.func g) [] [], .bool true] h fun r h'=>h'=h∧∃n:Int,r= .int .i64 n∧decide (n≥0)=zAL p s (s.length+1) 0:=by
 refine zA.pure (by kernel_rfl) fun hok=> ?_;refine zA.of_fn (g:=zTN) mix Tryz.func320 zdn rfl rfl ?_;simp only[Tryz.f320,gJ];have hr:∀h:Heap,zGE Tryz.prog h.next 9 (.str s) h=some (.ptr h.next 0,h.new h.next (.siter s 0)):=fun h=>by simp[zGE,Tryz.underlying9]
 simp only[go_sem,Nat.reduceEqDiff,↓reduceIte,hr];refine zPR (fun k fr h'=>∃pos:Nat,k=s.length-pos∧fr 1= .fn (.func g) [] []∧fr 2= .bool true∧fr 10= .ptr h.next 0∧h'.at' h.next=some (.siter s pos)∧Ext h h'∧zAL p s (s.length+1) 0=zAL p s (s.length+1-pos) pos) s.length ?_ ?_
 ·refine⟨0,rfl,?_⟩;simp only[go_sem,Nat.reduceEqDiff,↓reduceIte,Nat.sub_zero,true_and];exact(Ext.refl h).new (Nat.le_refl _) _
 rintro k fr h' ⟨pos,rfl,f1,f2,f10,hit,hext,hany⟩;by_cases hlt:pos<s.length
 ·have hn:=zRG hit (by unfold lim;omega) hlt;have hle:(wI s pos).1≤1114111:=Go.Lib.rune_le _ _;have hsz:=zOQ s pos;simp only[go_sem,Nat.reduceEqDiff,↓reduceIte,f1,f2,f10,hn,zBw];refine(hp _ hle _).mono ?_;rintro r h2 ⟨rfl,rfl⟩;have hbb:∀b c,zDv Tryz.prog .eql 4 c (.bool b) (.bool true)=some (.bool b):=fun b c=>by cases b<;>simp[zDv,zXM,zAs,veq,Tryz.underlying4]
  have hst:s.length+1-pos=(s.length-pos)+1:=by omega
  cases he:p (wI s pos).1 with
  |true=>
   simp only[go_sem,Nat.reduceEqDiff,↓reduceIte,hbb,f1,f2,f10];refine⟨hext.set (Nat.le_refl _) _,trivial,(pos:Int),rfl,?_⟩;rw[hany,hst,zAL,if_pos hlt,he,decide_eq_true (by omega)];rfl
  |false=>
   simp only[go_sem,Nat.reduceEqDiff,↓reduceIte,hbb,f1,f2,f10];refine⟨s.length- (pos+(wI s pos).2),by omega,pos+(wI s pos).2,rfl,rfl,hext.set (Nat.le_refl _) _,?_⟩;rw[hany,hst,zAL,if_pos hlt,he,Bool.false_or];exact zGZ (by omega) (by omega)
 ·have hn:=zT0 hit hlt;simp only[go_sem,Nat.reduceEqDiff,↓reduceIte,f1,f2,f10,hn,zBw];refine⟨hext,trivial,-1,rfl,?_⟩;rw[hany,zBo (by omega)];rfl
theorem zIF {s:List UInt8} (hl:s.length≤1048576) {g:FuncId} {p:Nat→Bool} (hp:∀n:Nat,n≤1114111→∀h,zA Tryz.prog g [.int .i32 n] h fun r h'=>h'=h∧r= .bool (p n)) (h:Heap):
  zA Tryz.prog 229 [.str s, .fn (.func g) [] []] h fun r h'=>h'=h∧r= .bool (zAL p s (s.length+1) 0):=by
 refine zA.of_fn (g:=zTr) mix Tryz.func229 zed rfl rfl ?_;simp only[Tryz.f229,gJ];simp only[go_sem,Nat.reduceEqDiff,↓reduceIte];refine zA.mono (Q:=fun r h'=>h'=h∧∃n:Int,r= .int .i64 n∧decide (n≥0)=zAL p s (s.length+1) 0) ?_ ?_
 ·refine zA.of_fn (g:=zTt) mix Tryz.func275 zef rfl rfl ?_;simp only[Tryz.f275,gJ];simp only[go_sem,Nat.reduceEqDiff,↓reduceIte];refine(zMh hl hp _).mono ?_;rintro r h2 ⟨rfl,n,rfl,hn⟩;simp only[go_sem,Nat.reduceEqDiff,↓reduceIte];exact⟨n,rfl,hn⟩
 ·rintro r h2 ⟨rfl,n,rfl,hn⟩;simp only[go_sem,Nat.reduceEqDiff,↓reduceIte,hn]
theorem zT3 {s:List UInt8} (hl:s.length≤1048576) (c:UInt8) (h:Heap):
  zA Tryz.prog 53 [.str s, .str [c]] h fun r h'=>h'=h∧r= .sl 1 (yI (zi c s)) .no:=by
 refine zA.of_fn (g:=zZo) mix Tryz.func53 zj2 rfl rfl ?_;simp only[Tryz.f53,gJ];simp only[go_sem,Nat.reduceEqDiff,↓reduceIte];refine zA.mono (Q:=fun r h'=>h'=h∧r= .sl 1 (yI (zi c s)) .no) ?_ ?_
 rotate_left
 ·rintro r h2 ⟨rfl,rfl⟩;simp only[go_sem,Nat.reduceEqDiff,↓reduceIte]
 have hlen:=zFG c s;have hlc:=zBL c s;refine zA.pure (by kernel_rfl) fun hok=>zA.freezeD ?_;refine zA.of_fn (g:=zV7) mix Tryz.func83 zj5 rfl rfl ?_;simp only[Tryz.f83,gJ];have hne:([c]==([]:List UInt8))=false:=rfl;simp only[go_sem,Nat.reduceEqDiff,↓reduceIte,hne,show((-1:Int)==0)=false from rfl,show decide ((-1:Int)<0)=true from rfl]
 refine(zZ9 hl c _).mono ?_;rintro r h ⟨rfl,rfl⟩;have hw1:IntKind.i64.wrap ((Lib.countByte s c:Nat)+1:Int)=(((zi c s).length:Nat):Int):=by
  rw[hlc,show Lib.countByte s c=s.count c from rfl]
  exact ze (by have:=List.count_le_length (a:=c) (l:=s);unfold lim;omega)
 have hw2:IntKind.i64.wrap ((s.length:Int)+1)=((s.length+1:Nat):Int):=ze (by unfold lim;omega);have hmin:zRz (.int .i64 (((zi c s).length:Nat):Int)) (.int .i64 ((s.length+1:Nat):Int))=some (.int .i64 (((zi c s).length:Nat):Int)):=by
  simp only[zRz,if_true];rw[if_neg (by omega)]
 have hmk:∀h:Heap,qM Tryz.prog true h.next 40 (.int .i64 (((zi c s).length:Nat):Int)) (.int .i64 (((zi c s).length:Nat):Int)) h=some (.rs h.next 1 0 (zi c s).length,h.new h.next (.row (zA7 (zi c s).length [.str []]))):=fun h=>by
  simp only[qM,yq,zFv,zAe,zAo];rw[if_pos (by simp[zMd,zTx];unfold lim;omega)];simp;rfl
 have hw3:IntKind.i64.wrap ((((zi c s).length:Nat):Int)-1)=((((zi c s).length-1:Nat)):Int):=by
  have:=zID c s;have h1:0<(zi c s).length:=List.length_pos_iff.2 this;rw[zZ (by omega) (by omega)];omega
 simp only[go_sem,Nat.reduceEqDiff,↓reduceIte,hw1,hw2,hw3,hmin,hmk,zk5,List.contains_cons,Nat.reduceBEq,wF Tryz.underlying9];have hpos:0<(zi c s).length:=List.length_pos_iff.2 (zID c s);refine yC (fun i fr h'=>∃ (ps:List (List UInt8)) (r:List UInt8),ps.length=i∧zi c s=ps++zi c r∧r.length≤s.length∧fr 0= .str r∧fr 1= .str [c]∧fr 2= .int .i64 0∧fr 3= .int .i64 (((zi c s).length-1:Nat):Int)∧fr 9= .rs h.next 1 0 (zi c s).length∧fr 10= .int .i64 (i:Int)∧
   h'.at' h.next=some (.row (ps.map sdd++List.replicate ((zi c s).length-i) (.str [])))∧Ext h h') ((zi c s).length-1) ?_ ?_
 ·refine⟨[],s,rfl,rfl,Nat.le_refl _,?_⟩;simp only[go_sem,Nat.reduceEqDiff,↓reduceIte,true_and,Nat.sub_zero];refine⟨rfl,?_,(Ext.refl h).new (Nat.le_refl _) _⟩;rw[zWX]
 rintro i fr h' hi ⟨ps,r,hps,hsp,hrl,f0,f1,f2,f3,f9,f10,hrow,hext⟩;simp only[go_sem,Nat.reduceEqDiff,↓reduceIte,f0,f1,f2,f3,f9,f10];have hput:∀x:List UInt8,i<(zi c s).length→(ps.map sdd++List.replicate ((zi c s).length-i) (D.str [])).set i (D.str x)=(ps++ [x]).map sdd++List.replicate ((zi c s).length- (i+1)) (D.str []):=fun x hlt=>by
  rw[List.set_append_right _ _ (by simp[hps]),List.length_map,hps,Nat.sub_self,show(zi c s).length-i=((zi c s).length- (i+1))+1 by omega,List.replicate_succ,List.set_cons_zero];simp[sdd]
 by_cases hlt:i<(zi c s).length-1
 ·rw[decide_eq_true (by exact_mod_cast hlt)];simp only[go_sem,Nat.reduceEqDiff,↓reduceIte,f0,f1,f2,f3,f9,f10];refine(zaA (by omega) c _).mono ?_;rintro q h' ⟨rfl,rfl⟩;rcases zOR r c with⟨hm,hs1⟩ | ⟨m,hm,hml,hs1⟩
  ·exfalso;rw[hs1] at hsp;have:=congrArg List.length hsp;simp[hps] at this;omega
  ·have hneg:decide (((m:Nat):Int)<0)=false:=decide_eq_false (by omega);have hw4:IntKind.i64.wrap ((m:Int)+0)=((m:Nat):Int):=by rw[Int.add_zero,zZ (by omega) (by omega)]
   have hw5:IntKind.i64.wrap ((m:Int)+1)=((m+1:Nat):Int):=ze (by unfold lim;omega);have hl1:([c].length:Int)=1:=rfl;have hsth:zW Tryz.prog 9 (.ptr h.next (i*1)) (.str (r.take m)) h'=some (h'.set h.next (.row ((ps++ [r.take m]).map sdd++List.replicate ((zi c s).length- (i+1)) (.str [])))):=by
    rw[Nat.mul_one,zT hrow zAe (by simp[hps];omega) rfl rfl,hput _ (by omega)]
   simp only[go_sem,Nat.reduceEqDiff,↓reduceIte,f0,f1,f2,f3,f9,f10,hm,hneg,hw4,hw5,hl1,wF Tryz.underlying9,zK6 zPS Tryz.underlying9 (show m≤r.length by omega),zFF zPS Tryz.underlying9 (show m+1≤r.length by omega),zx yq zAe (show i<(zi c s).length by omega),hsth];refine⟨hlt,ps++ [r.take m],r.drop (m+1),by simp[hps],by rw[hsp,hs1];simp,by simp;omega,rfl,?_,rfl,hext.set (Nat.le_refl _) _⟩;rw[ze (by unfold lim;omega)]
 ·have hie:i=(zi c s).length-1:=by omega
  rw[decide_eq_false (by omega)];have hlast:zi c r= [r]:=by
   have h1:=congrArg List.length hsp;rw[List.length_append,hps,zBL c r] at h1;exact zEV (List.count_eq_zero.1 (by omega))
  have hw6:IntKind.i64.wrap ((i:Int)+1)=(((zi c s).length:Nat):Int):=by rw[ze (by unfold lim;omega)];omega
  have hsth:zW Tryz.prog 9 (.ptr h.next (i*1)) (.str r) h'=some (h'.set h.next (.row ((ps++ [r]).map sdd++List.replicate ((zi c s).length- (i+1)) (.str [])))):=by
   rw[Nat.mul_one,zT hrow zAe (by simp[hps];omega) rfl rfl,hput _ (by omega)]
  simp only[go_sem,Nat.reduceEqDiff,↓reduceIte,f0,f1,f2,f3,f9,f10,hw6,zx yq zAe (show i<(zi c s).length by omega),hsth,zAw zZC yq zAe (Nat.le_refl (zi c s).length)];have hall:(ps++ [r]).map sdd++List.replicate ((zi c s).length- (i+1)) (.str [])=(yI (zi c s)).flatten:=by
   rw[show(zi c s).length- (i+1)=0 by omega,List.replicate_zero,List.append_nil,zT2,hsp,hlast]
  refine⟨h.next,_,zC _ _ _,(hext.set (Nat.le_refl _) _).del (Nat.le_refl _),?_⟩;rw[zYP zHD (zp _) hall];exact⟨z6 (Nat.zero_le _) _ (yh (sz:=1) qT .no).2,rfl⟩
def zF3:List UInt8:=[97,98,99,100,101,102,103,104,105,106,107,108,109,110,111,112,113,114,115,116,117,118,119,120,121,122,48,49,50,51,52,53,54,55,56,57,45,46]
def zA5 (s:List UInt8):Bool:=match s with
 | []=>false
 |b::r=> !(decide ((b::r).length>32)||decide ((b.toNat:Int)<97)||decide ((b.toNat:Int)>122)||((b::r:List UInt8)== [97,110,100])||((b::r:List UInt8)== [111,114])||((b::r:List UInt8)== [119,105,116,104]))&&(Lib.trimS (b::r) zF3== [])
def zJw (s:List UInt8):List (List UInt8):=if s= [] then [] else zi 10 s
def zCi (b:UInt8):Bool:=((b.toNat:Int) !=10)&&(decide ((b.toNat:Int)<32)||decide ((b.toNat:Int)>126))
end Go.V
