/- Rules of the machine of abstract values, part 3. No condition. -/
import Derived.Test.YtmhkjfajejaniaaGreatDoorW20
import Derived.Sort.Grow
import Derived.Lib.TrimU
import Derived.Test.YtmhkjfajejaniaaGreatDoorW19
import Derived.Lib.IndexLaws
import Derived.Test.YtmhkjfajejaniaaGreatDoorW17
import Derived.Test.YtmhkjfajejaniaaGreatDoorW18
set_option linter.all false
namespace Go.V
open Go.RowKit (Below)
attribute [go_sem] Option.map_none Option.map_some
section
variable {P:Program} {t e:TypeId} {s:List UInt8} {h:Heap}
theorem zKs (ha:zI5 P t=none) (hu:P.underlying t=some .string) {k:IntKind} {n:Nat} (hn:n≤s.length):yY P t (.str s) none (some (.int k (n:Int))) none h=some (.str (s.take n)):=by
 simp[yY,ha,zC0,hu,qx,zI6,zLf,hn]
theorem zE4 (ha:zI5 P t=none) (hu:P.underlying t=some .string) {k:IntKind} {n:Nat} (hn:n≤s.length):yY P t (.str s) (some (.int k (n:Int))) none none h=some (.str (s.drop n)):=by
 simp[yY,ha,zC0,hu,qx,zI6,zLf,hn]
theorem zAn (ha:zI5 P t=none) (he:qC P t=some e) {id sz len n:Nat} (hz:szT P e=sz) {k:IntKind} (hn:n≤len):yY P t (.rs id sz 0 len) none (some (.int k (n:Int))) none h=some (.rs id sz 0 n):=by
 simp[yY,ha,zC0,he,hz,qx,zI6,zLf,hn]
theorem wC (hu:P.underlying t=some .string):zCr P t (.str s) h=some (.int .i64 s.length):=by simp[zCr,hu]
theorem zAa (hu:P.underlying t=some .string) {k:IntKind} {n:Nat} {b:UInt8} (hn:s[n]? =some b):zBi P t (.str s) (.int k (n:Int))=some (.int .u8 b.toNat):=by
 simp[zBi,hu,hn]
end
theorem Sim.grow {w0:Base} {G:List Nat} {M:Imm} {ρ:Ren} {h:Heap} {w:World} (hs:Sim w0 G M ρ h w) (os:Array Go.Obj):Sim w0 G M ρ h (Go.Sort.grow w os):=
 hs.world ⟨⟨rfl,rfl,rfl,by simp[Go.Sort.grow],fun k hk=>by simp[Go.Sort.grow,Array.getElem?_append_left hk]⟩,Nat.le_refl _⟩
def zAC (p:Nat→Bool) (s:List UInt8):Nat→Nat→Bool
 |0,_=>false
 |k+1,pos=>if pos<s.length then p (wF s pos).1||zAC p s k (pos+(wF s pos).2) else false
theorem zBZ {p:Nat→Bool} {s:List UInt8} {pos:Nat} (h:s.length≤pos):∀k,zAC p s k pos=false
 |0=>rfl
 |k+1=>by simp[zAC];omega
theorem zGK {p:Nat→Bool} {s:List UInt8} :∀ {j k pos:Nat},s.length+1≤pos+j→s.length+1≤pos+k→zAC p s j pos=zAC p s k pos
 |0,k,pos,hj,_=>by rw[zBZ (by omega),zBZ (by omega)]
 |j+1,0,pos,_,hk=>by rw[zBZ (by omega),zBZ (by omega)]
 |j+1,k+1,pos,hj,hk=>by
  simp only[zAC];by_cases h:pos<s.length
  ·have:=Go.Lib.width_pos ⟨s.toArray⟩ pos;rw[if_pos h,if_pos h,zGK (j:=j) (k:=k) (by unfold wF;omega) (by unfold wF;omega)]
  ·rw[if_neg h,if_neg h]
theorem zOO (s:List UInt8) (pos:Nat):IntKind.i32.wrap ((wF s pos).1:Int)=((wF s pos).1:Int):=by
 have:=Go.Lib.rune_le ⟨s.toArray⟩ pos;unfold wF IntKind.wrap;simp[IntKind.signed,IntKind.bits];split<;>omega
theorem zOP (s:List UInt8) (pos:Nat):1≤(wF s pos).2:=Go.Lib.width_pos _ _
theorem zRS {s:List UInt8} {pos id:Nat} {h:Heap} (hi:h.at' id=some (.siter s pos)) (hl:s.length≤lim) (hp:pos<s.length):zIm (.ptr id 0) true h=some (.tuple [.bool true, .int .i64 (pos:Int), .int .i32 ((wF s pos).1:Int)],h.set id (.siter s (pos+(wF s pos).2))):=by
 simp[zIm,hi,hp,hl,zOO]
theorem zUL {s:List UInt8} {pos id:Nat} {h:Heap} (hi:h.at' id=some (.siter s pos)) (hp:¬pos<s.length):zIm (.ptr id 0) true h=some (.tuple [.bool false],h):=by
 simp[zIm,hi,hp]
theorem zWu (n:Nat) (d:D):zBC n [d]=List.replicate n d:=by
 induction n with
 |zero=>rfl
 |succ n ih=>simp only[zBC,List.replicate_succ,List.flatten_cons] at ih⊢;rw[ih];rfl
open Go.Proofs
theorem zaZ {s:List UInt8} (hl:s.length≤1048576) (c:UInt8) (h:Heap):zA Tryz.prog 130 [.str s, .str [c]] h fun r h'=>h'=h∧r= .int .i64 (Lib.countByte s c:Nat):=by
 have hc:Lib.countByte s c≤s.length:=List.count_le_length;refine(zHr (by kernel_rfl) (fun s c w=>Tryz.strings_Count_one s c w) (args:=[.str s, .str [c]]) (d:= .int .i64 (Lib.countByte s c:Nat)) ?_ h).mono fun a b hab=>⟨hab.2,hab.1⟩;simp only[zGx,zcK];rw[zZ (by omega) (by omega)];simp
theorem zaa {s:List UInt8} (hl:s.length≤1048576) (c:UInt8) (h:Heap):zA Tryz.prog 131 [.str s, .str [c]] h fun r h'=>h'=h∧r= .int .i64 (Lib.indexByte s c):=by
 have h1:=Lib.indexByte_ge s c;have h2:Lib.indexByte s c≤s.length:=by
  by_cases h0:Lib.indexByte s c= -1
  ·omega
  ·obtain⟨m,hm⟩:=Int.eq_ofNat_of_zero_le (show 0≤Lib.indexByte s c by omega);have:=(List.getElem?_eq_some_iff.1 (Lib.indexByte_some hm).1).1;omega
 refine(zEJ (by kernel_rfl) (fun s c w=>Tryz.strings_Index_one s c w) (args:=[.str s, .str [c]]) (d:= .int .i64 (Lib.indexByte s c)) ?_ h).mono fun a b hab=>⟨hab.2,hab.1⟩;simp only[zEz,zcK];rw[zZ (by omega) (by omega)];simp
theorem zCY {α:Type} (p:α→Bool):∀l:List α,(l.dropWhile p).length≤l.length
 | []=>Nat.le_refl _
 |a::l=>by
  simp only[List.dropWhile];split
  ·have:=zCY p l;simp;omega
  ·exact Nat.le_refl _
theorem zUM (s c:List UInt8):(Lib.trimS s c).length≤s.length:=by
 unfold Lib.trimS Lib.trimLeftS Lib.trimRightS;refine Nat.le_trans (zCY _ _) ?_;rw[List.length_reverse];refine Nat.le_trans (zCY _ _) ?_;rw[List.length_reverse];exact Nat.le_refl _
theorem zYm {s:List UInt8} (hl:s.length≤1048576) {c:List UInt8} (hc:c.all (fun b=>decide (b.toNat<128))=true) (hn:c.length<4294967281) (h:Heap) (h0:Nat.ble 2 c.length=true:=by decide):zA Tryz.prog 189 [.str s, .str c] h fun r h'=>h'=h∧r= .str (Lib.trimS s c):=by
 refine(zJd (by kernel_rfl) (fun s c w h0 h1 h2 h3=>zQJ Tryz.lays160 (by kernel_rfl) s c w h0 h1 h2 h3) (args:=[.str s, .str c]) (d:= .str (Lib.trimS s c)) ?_ h).mono fun a b hab=>⟨hab.2,hab.1⟩;have h1:=zUM s c;have h2:Nat.blt c.length 4294967281=true:=by rw[Nat.blt_eq];exact hn
 simp only[zKr,h0,hc,h2,Bool.and_self,if_true,zgg];rw[if_pos (decide_eq_true (by unfold lim;omega))]
def zj (c:UInt8):List UInt8→List (List UInt8)
 | []=>[[]]
 |b::s=>if b=c then []::zj c s else match zj c s with
  | []=>[[b]]
  |p::ps=>(b::p)::ps
theorem zH0 (c:UInt8):∀s,zj c s≠[]
 | []=>by simp[zj]
 |b::s=>by
  simp only[zj];split
  ·simp
  ·split<;>simp
theorem zA8 (c:UInt8):∀s:List UInt8,(zj c s).length=s.count c+1
 | []=>rfl
 |b::s=>by
  have ih:=zA8 c s;simp only[zj];by_cases h:b=c
  ·subst h;simp[ih]
  ·rw[if_neg h,List.count_cons_of_ne h];split
   ·rename_i h0;rw[h0] at ih;simp at ih
   ·rename_i p ps h0;rw[h0] at ih;simpa using ih
theorem zEK {c:UInt8} :∀ {s:List UInt8},c∉s→zj c s= [s]
 | [],_=>rfl
 |b::s,h=>by
  simp only[List.mem_cons,not_or] at h;rw[zj,if_neg (fun e=>h.1 e.symm),zEK h.2]
theorem zMb {c:UInt8} :∀ {m:Nat} {s:List UInt8},s[m]? =some c→(∀k,k<m→s[k]? ≠some c)→zj c s=s.take m::zj c (s.drop (m+1))
 |m,[],h,_=>by simp at h
 |0,b::s,h,_=>by
  simp only[List.getElem?_cons_zero,Option.some.injEq] at h;rw[zj,if_pos h];simp
 |m+1,b::s,h,hk=>by
  simp only[List.getElem?_cons_succ] at h;have hb:b≠c:=fun e=>hk 0 (by omega) (by simp[e]);rw[zj,if_neg hb,zMb h fun k hkm=>by simpa using hk (k+1) (by omega)];simp
theorem zOQ (s:List UInt8) (c:UInt8):(Lib.indexByte s c= -1∧zj c s= [s])∨∃m:Nat,Lib.indexByte s c=(m:Int)∧m<s.length∧zj c s=s.take m::zj c (s.drop (m+1)):=by
 have h1:=Lib.indexByte_ge s c;by_cases h:Lib.indexByte s c= -1
 ·refine .inl ⟨h,zEK fun hc=> ?_⟩;obtain⟨k,hk⟩:=List.mem_iff_getElem?.1 hc;exact Lib.indexByte_none h k hk
 ·obtain⟨m,hm⟩:=Int.eq_ofNat_of_zero_le (show 0≤Lib.indexByte s c by omega);obtain⟨g1,g2⟩:=Lib.indexByte_some hm;exact .inr ⟨m,hm,(List.getElem?_eq_some_iff.1 g1).1,zMb g1 g2⟩
theorem zE5 (c:UInt8) (s:List UInt8):(zj c s).length≤s.length+1:=by
 rw[zA8];have:=List.count_le_length (a:=c) (l:=s);omega
theorem zD5 (c:UInt8):∀ (s:List UInt8),∀p∈zj c s,p.length≤s.length
 | [],p,h=>by simp[zj] at h;subst h;simp
 |b::s,p,h=>by
  have ih:=zD5 c s;simp only[zj] at h;split at h
  ·rcases List.mem_cons.1 h with rfl|h
   ·simp
   ·have:=ih p h;simp;omega
  ·split at h
   ·rename_i h0;exact absurd h0 (zH0 c s)
   ·rename_i q qs h0;rcases List.mem_cons.1 h with rfl|h
    ·have:=ih q (by rw[h0];simp);simp;omega
    ·have:=ih p (by rw[h0];simp[h]);simp;omega
def yW (l:List (List UInt8)):List (List D):=l.map fun s=>[.str s]
theorem z6 (l:List (List UInt8)):(yW l).length=l.length:=List.length_map ..
theorem zGy {l:List (List UInt8)} {i:Nat} (h:i<l.length):(yW l)[i]? =some [.str l[i]]:=by simp[yW,h]
theorem qe {l:List (List UInt8)} :∀x∈yW l,yr x:=fun x hx=>by
 obtain⟨s,_,rfl⟩:=List.mem_map.1 hx;exact⟨rfl,⟨trivial,trivial⟩,rfl⟩
theorem zGz {l:List (List UInt8)} :∀x∈yW l,x.length=1:=fun x hx=>by
 obtain⟨s,_,rfl⟩:=List.mem_map.1 hx;rfl
def sdd (s:List UInt8):D:= .str s
theorem zUN (l:List (List UInt8)):(yW l).flatten=l.map sdd:=by
 induction l with
 |nil=>rfl
 |cons x l ih=>simp[yW,sdd] at ih⊢;exact ih
set_option maxRecDepth 100000
theorem zWv {l:List (List UInt8)} {d:D} (hd:zf 1 (yW l) d) (hl:l.length≤1048576) (s:List UInt8) (h:Heap):
  zA Tryz.prog 29 [d, .str s] h fun r h'=>h'=h∧r= .int .i64 (match l.findIdx? (· ==s) with|some i=>(i:Int)|none=> -1):=by
 refine zA.of_fn (g:=zaA) mix Tryz.func29 zkS rfl rfl ?_;simp only[Tryz.f29,gJ];have hll:((yW l).length:Int)=l.length:=by rw[z6]
 simp only[go_sem,Nat.reduceEqDiff,↓reduceIte,yo hd Tryz.underlying40,hll];refine zy (fun i fr h'=>fr 0=d∧fr 1= .str s∧fr 7= .int .i64 l.length∧fr 8= .int .i64 (i:Int)∧h'=h∧∀j (hj:j<l.length),j<i→(l[j]==s)=false) l.length (by simp[go_sem]) ?_;rintro i fr h' hi ⟨f0,f1,f7,f8,rfl,hj⟩;simp only[go_sem,Nat.reduceEqDiff,↓reduceIte,f0,f1,f7,f8];by_cases hlt:i<l.length
 ·rw[decide_eq_true (by exact_mod_cast hlt)];have hsym:(s==l[i])=(l[i]==s):=by
   by_cases e:s=l[i]
   ·rw[e]
   ·rw[beq_eq_false_iff_ne.2 e,beq_eq_false_iff_ne.2 (Ne.symm e)]
  cases he:(l[i]==s) with
  |true=>
   simp only[go_sem,Nat.reduceEqDiff,↓reduceIte,f0,f1,f7,f8,zY hd qQ zBg (zGy hlt),zBU,hsym,he]
   have:l.findIdx? (· ==s)=some i:=by
    rw[List.findIdx?_eq_some_iff_getElem];exact⟨hlt,he,fun j hji=>by rw[hj j (by omega) hji];exact Bool.false_ne_true⟩
   rw[this]
  |false=>
   simp only[go_sem,Nat.reduceEqDiff,↓reduceIte,f0,f1,f7,f8,zY hd qQ zBg (zGy hlt),zBU,hsym,he];refine⟨hlt,by rw[zh (by unfold lim;omega)],fun j hjl hji=> ?_⟩;rcases Nat.lt_succ_iff_lt_or_eq.1 hji with hji|rfl
   ·exact hj j hjl hji
   ·exact he
 ·have hie:i=l.length:=by omega
  subst hie;rw[decide_eq_false (by omega)];simp only[go_sem,Nat.reduceEqDiff,↓reduceIte]
  have:l.findIdx? (· ==s)=none:=by
   rw[List.findIdx?_eq_none_iff];intro n hn;obtain⟨j,hjl,rfl⟩:=List.mem_iff_getElem.1 hn;exact hj j hjl hjl
  rw[this]
theorem zFp {α:Type} {l:List α} {p:α→Bool} :decide ((match l.findIdx? p with|some i=>(i:Int)|none=> -1)≥0)=l.any p:=by
 cases hq:l.findIdx? p with
 |none=>
  have:l.any p=false:=by
   rw[List.findIdx?_eq_none_iff] at hq;rw[List.any_eq_false];intro n hn;rw[hq n hn];exact Bool.false_ne_true
  rw[this];rfl
 |some i=>
  have:l.any p=true:=by
   rw[List.findIdx?_eq_some_iff_getElem] at hq;obtain⟨hi,hp,_⟩:=hq;exact List.any_eq_true.2 ⟨_,List.getElem_mem hi,hp⟩
  rw[this];simp
theorem zCZ {l:List (List UInt8)} {d:D} (hd:zf 1 (yW l) d) (hl:l.length≤1048576) (s:List UInt8) (h:Heap):
  zA Tryz.prog 49 [d, .str s] h fun r h'=>h'=h∧r= .bool (l.any (· ==s)):=by
 refine zA.of_fn (g:=zaM) mix Tryz.func49 zki rfl rfl ?_;simp only[Tryz.f49,gJ];simp only[go_sem,Nat.reduceEqDiff,↓reduceIte];refine(zWv hd hl s _).mono ?_;rintro r h2 ⟨rfl,rfl⟩;simp only[go_sem,Nat.reduceEqDiff,↓reduceIte,zFp]
theorem zMc {l:List (List UInt8)} {d:D} (hd:zf 1 (yW l) d) (hl:l.length≤1048576) {g:FuncId} {fst cap:List D} {p:List UInt8→Bool} (hp:∀s∈l,∀h,zA Tryz.prog g (fst++ [.str s]++cap) h fun r h'=>h'=h∧r= .bool (p s)) (h:Heap):
  zA Tryz.prog 132 [d, .fn (.func g) fst cap] h fun r h'=>h'=h∧r= .int .i64 (match l.findIdx? p with|some i=>(i:Int)|none=> -1):=by
 refine zA.of_fn (g:=zTS) mix Tryz.func132 zds rfl rfl ?_;simp only[Tryz.f132,gJ];have hll:((yW l).length:Int)=l.length:=by rw[z6]
 simp only[go_sem,Nat.reduceEqDiff,↓reduceIte,yo hd Tryz.underlying40,hll];refine zy (fun i fr h'=>fr 0=d∧fr 1= .fn (.func g) fst cap∧fr 7= .int .i64 l.length∧fr 8= .int .i64 (i:Int)∧h'=h∧∀j (hj:j<l.length),j<i→p l[j]=false) l.length (by simp[go_sem]) ?_;rintro i fr h' hi ⟨f0,f1,f7,f8,rfl,hj⟩;simp only[go_sem,Nat.reduceEqDiff,↓reduceIte,f0,f1,f7,f8];by_cases hlt:i<l.length
 ·rw[decide_eq_true (by exact_mod_cast hlt)];simp only[go_sem,Nat.reduceEqDiff,↓reduceIte,f0,f1,f7,f8,zY hd qQ zBg (zGy hlt),zBU];refine(hp _ (List.getElem_mem hlt) _).mono ?_;rintro r h2 ⟨rfl,rfl⟩;cases he:p l[i] with
  |true=>
   simp only[go_sem,Nat.reduceEqDiff,↓reduceIte]
   have:l.findIdx? p=some i:=by
    rw[List.findIdx?_eq_some_iff_getElem];exact⟨hlt,he,fun j hji=>by rw[hj j (by omega) hji];exact Bool.false_ne_true⟩
   rw[this]
  |false=>
   simp only[go_sem,Nat.reduceEqDiff,↓reduceIte];refine⟨hlt,by rw[zh (by unfold lim;omega)],fun j hjl hji=> ?_⟩;rcases Nat.lt_succ_iff_lt_or_eq.1 hji with hji|rfl
   ·exact hj j hjl hji
   ·exact he
 ·have hie:i=l.length:=by omega
  subst hie;rw[decide_eq_false (by omega)];simp only[go_sem,Nat.reduceEqDiff,↓reduceIte]
  have:l.findIdx? p=none:=by
   rw[List.findIdx?_eq_none_iff];intro n hn;obtain⟨j,hjl,rfl⟩:=List.mem_iff_getElem.1 hn;exact hj j hjl hjl
  rw[this]
theorem zH1 {l:List (List UInt8)} {d:D} (hd:zf 1 (yW l) d) (hl:l.length≤1048576) {g:FuncId} {fst cap:List D} {p:List UInt8→Bool} (hp:∀s∈l,∀h,zA Tryz.prog g (fst++ [.str s]++cap) h fun r h'=>h'=h∧r= .bool (p s)) (h:Heap):
  zA Tryz.prog 165 [d, .fn (.func g) fst cap] h fun r h'=>h'=h∧r= .bool (l.any p):=by
 refine zA.of_fn (g:=zTw) mix Tryz.func165 zel rfl rfl ?_;simp only[Tryz.f165,gJ];simp only[go_sem,Nat.reduceEqDiff,↓reduceIte];refine(zMc hd hl hp _).mono ?_;rintro r h2 ⟨rfl,rfl⟩;simp only[go_sem,Nat.reduceEqDiff,↓reduceIte,zFp]
theorem zMd {s:List UInt8} (hl:s.length≤1048576) {g:FuncId} {p:Nat→Bool} (hp:∀n:Nat,n≤1114111→∀h,zA Tryz.prog g [.int .i32 n] h fun r h'=>h'=h∧r= .bool (p n)) (h:Heap):
  zA Tryz.prog 320 [.str s, .fn (.func g) [] [], .bool true] h fun r h'=>h'=h∧∃n:Int,r= .int .i64 n∧decide (n≥0)=zAC p s (s.length+1) 0:=by
 refine zA.pure (by kernel_rfl) fun hok=> ?_;refine zA.of_fn (g:=zTh) mix Tryz.func320 zeG rfl rfl ?_;simp only[Tryz.f320,gJ];have hr:∀h:Heap,zF2 Tryz.prog h.next 9 (.str s) h=some (.ptr h.next 0,h.new h.next (.siter s 0)):=fun h=>by simp[zF2,Tryz.underlying9]
 simp only[go_sem,Nat.reduceEqDiff,↓reduceIte,hr];refine zPT (fun k fr h'=>∃pos:Nat,k=s.length-pos∧fr 1= .fn (.func g) [] []∧fr 2= .bool true∧fr 10= .ptr h.next 0∧h'.at' h.next=some (.siter s pos)∧Ext h h'∧zAC p s (s.length+1) 0=zAC p s (s.length+1-pos) pos) s.length ?_ ?_
 ·refine⟨0,rfl,?_⟩;simp only[go_sem,Nat.reduceEqDiff,↓reduceIte,Nat.sub_zero,true_and];exact(Ext.refl h).new (Nat.le_refl _) _
 rintro k fr h' ⟨pos,rfl,f1,f2,f10,hit,hext,hany⟩;by_cases hlt:pos<s.length
 ·have hn:=zRS hit (by unfold lim;omega) hlt;have hle:(wF s pos).1≤1114111:=Go.Lib.rune_le _ _;have hsz:=zOP s pos;simp only[go_sem,Nat.reduceEqDiff,↓reduceIte,f1,f2,f10,hn,zBj];refine(hp _ hle _).mono ?_;rintro r h2 ⟨rfl,rfl⟩;have hbb:∀b c,zCz Tryz.prog .eql 4 c (.bool b) (.bool true)=some (.bool b):=fun b c=>by cases b<;>simp[zCz,zVi,zAJ,veq,Tryz.underlying4]
  have hst:s.length+1-pos=(s.length-pos)+1:=by omega
  cases he:p (wF s pos).1 with
  |true=>
   simp only[go_sem,Nat.reduceEqDiff,↓reduceIte,hbb,f1,f2,f10];refine⟨hext.set (Nat.le_refl _) _,trivial,(pos:Int),rfl,?_⟩;rw[hany,hst,zAC,if_pos hlt,he,decide_eq_true (by omega)];rfl
  |false=>
   simp only[go_sem,Nat.reduceEqDiff,↓reduceIte,hbb,f1,f2,f10];refine⟨s.length- (pos+(wF s pos).2),by omega,pos+(wF s pos).2,rfl,rfl,hext.set (Nat.le_refl _) _,?_⟩;rw[hany,hst,zAC,if_pos hlt,he,Bool.false_or];exact zGK (by omega) (by omega)
 ·have hn:=zUL hit hlt;simp only[go_sem,Nat.reduceEqDiff,↓reduceIte,f1,f2,f10,hn,zBj];refine⟨hext,trivial,-1,rfl,?_⟩;rw[hany,zBZ (by omega)];rfl
theorem zH2 {s:List UInt8} (hl:s.length≤1048576) {g:FuncId} {p:Nat→Bool} (hp:∀n:Nat,n≤1114111→∀h,zA Tryz.prog g [.int .i32 n] h fun r h'=>h'=h∧r= .bool (p n)) (h:Heap):
  zA Tryz.prog 229 [.str s, .fn (.func g) [] []] h fun r h'=>h'=h∧r= .bool (zAC p s (s.length+1) 0):=by
 refine zA.of_fn (g:=zUC) mix Tryz.func229 ze5 rfl rfl ?_;simp only[Tryz.f229,gJ];simp only[go_sem,Nat.reduceEqDiff,↓reduceIte];refine zA.mono (Q:=fun r h'=>h'=h∧∃n:Int,r= .int .i64 n∧decide (n≥0)=zAC p s (s.length+1) 0) ?_ ?_
 ·refine zA.of_fn (g:=zUE) mix Tryz.func275 ze7 rfl rfl ?_;simp only[Tryz.f275,gJ];simp only[go_sem,Nat.reduceEqDiff,↓reduceIte];refine(zMd hl hp _).mono ?_;rintro r h2 ⟨rfl,n,rfl,hn⟩;simp only[go_sem,Nat.reduceEqDiff,↓reduceIte];exact⟨n,rfl,hn⟩
 ·rintro r h2 ⟨rfl,n,rfl,hn⟩;simp only[go_sem,Nat.reduceEqDiff,↓reduceIte,hn]
theorem zUO {s:List UInt8} (hl:s.length≤1048576) (c:UInt8) (h:Heap):
  zA Tryz.prog 53 [.str s, .str [c]] h fun r h'=>h'=h∧r= .sl 1 (yW (zj c s)) .no:=by
 refine zA.of_fn (g:=zaD) mix Tryz.func53 zkU rfl rfl ?_;simp only[Tryz.f53,gJ];simp only[go_sem,Nat.reduceEqDiff,↓reduceIte];refine zA.mono (Q:=fun r h'=>h'=h∧r= .sl 1 (yW (zj c s)) .no) ?_ ?_
 rotate_left
 ·rintro r h2 ⟨rfl,rfl⟩;simp only[go_sem,Nat.reduceEqDiff,↓reduceIte]
 have hlen:=zE5 c s;have hlc:=zA8 c s;refine zA.pure (by kernel_rfl) fun hok=>zA.freezeD ?_;refine zA.of_fn (g:=zWR) mix Tryz.func83 zkX rfl rfl ?_;simp only[Tryz.f83,gJ];have hne:([c]==([]:List UInt8))=false:=rfl;simp only[go_sem,Nat.reduceEqDiff,↓reduceIte,hne,show((-1:Int)==0)=false from rfl,show decide ((-1:Int)<0)=true from rfl]
 refine(zaZ hl c _).mono ?_;rintro r h ⟨rfl,rfl⟩;have hw1:IntKind.i64.wrap ((Lib.countByte s c:Nat)+1:Int)=(((zj c s).length:Nat):Int):=by
  rw[hlc,show Lib.countByte s c=s.count c from rfl]
  exact zh (by have:=List.count_le_length (a:=c) (l:=s);unfold lim;omega)
 have hw2:IntKind.i64.wrap ((s.length:Int)+1)=((s.length+1:Nat):Int):=zh (by unfold lim;omega);have hmin:zSG (.int .i64 (((zj c s).length:Nat):Int)) (.int .i64 ((s.length+1:Nat):Int))=some (.int .i64 (((zj c s).length:Nat):Int)):=by
  simp only[zSG,if_true];rw[if_neg (by omega)]
 have hmk:∀h:Heap,qZ Tryz.prog true h.next 40 (.int .i64 (((zj c s).length:Nat):Int)) (.int .i64 (((zj c s).length:Nat):Int)) h=some (.rs h.next 1 0 (zj c s).length,h.new h.next (.row (zBC (zj c s).length [.str []]))):=fun h=>by
  simp only[qZ,qQ,zHg,zBg,zCR];rw[if_pos (by simp[zMZ,zUI];unfold lim;omega)];simp;rfl
 have hw3:IntKind.i64.wrap ((((zj c s).length:Nat):Int)-1)=((((zj c s).length-1:Nat)):Int):=by
  have:=zH0 c s;have h1:0<(zj c s).length:=List.length_pos_iff.2 this;rw[zZ (by omega) (by omega)];omega
 simp only[go_sem,Nat.reduceEqDiff,↓reduceIte,hw1,hw2,hw3,hmin,hmk,zlX,List.contains_cons,Nat.reduceBEq,wC Tryz.underlying9];have hpos:0<(zj c s).length:=List.length_pos_iff.2 (zH0 c s);refine zy (fun i fr h'=>∃ (ps:List (List UInt8)) (r:List UInt8),ps.length=i∧zj c s=ps++zj c r∧r.length≤s.length∧fr 0= .str r∧fr 1= .str [c]∧fr 2= .int .i64 0∧fr 3= .int .i64 (((zj c s).length-1:Nat):Int)∧fr 9= .rs h.next 1 0 (zj c s).length∧fr 10= .int .i64 (i:Int)∧
   h'.at' h.next=some (.row (ps.map sdd++List.replicate ((zj c s).length-i) (.str [])))∧Ext h h') ((zj c s).length-1) ?_ ?_
 ·refine⟨[],s,rfl,rfl,Nat.le_refl _,?_⟩;simp only[go_sem,Nat.reduceEqDiff,↓reduceIte,true_and,Nat.sub_zero];refine⟨rfl,?_,(Ext.refl h).new (Nat.le_refl _) _⟩;rw[zWu]
 rintro i fr h' hi ⟨ps,r,hps,hsp,hrl,f0,f1,f2,f3,f9,f10,hrow,hext⟩;simp only[go_sem,Nat.reduceEqDiff,↓reduceIte,f0,f1,f2,f3,f9,f10];have hput:∀x:List UInt8,i<(zj c s).length→(ps.map sdd++List.replicate ((zj c s).length-i) (D.str [])).set i (D.str x)=(ps++ [x]).map sdd++List.replicate ((zj c s).length- (i+1)) (D.str []):=fun x hlt=>by
  rw[List.set_append_right _ _ (by simp[hps]),List.length_map,hps,Nat.sub_self,show(zj c s).length-i=((zj c s).length- (i+1))+1 by omega,List.replicate_succ,List.set_cons_zero];simp[sdd]
 by_cases hlt:i<(zj c s).length-1
 ·rw[decide_eq_true (by exact_mod_cast hlt)];simp only[go_sem,Nat.reduceEqDiff,↓reduceIte,f0,f1,f2,f3,f9,f10];refine(zaa (by omega) c _).mono ?_;rintro q h' ⟨rfl,rfl⟩;rcases zOQ r c with⟨hm,hs1⟩ | ⟨m,hm,hml,hs1⟩
  ·exfalso;rw[hs1] at hsp;have:=congrArg List.length hsp;simp[hps] at this;omega
  ·have hneg:decide (((m:Nat):Int)<0)=false:=decide_eq_false (by omega);have hw4:IntKind.i64.wrap ((m:Int)+0)=((m:Nat):Int):=by rw[Int.add_zero,zZ (by omega) (by omega)]
   have hw5:IntKind.i64.wrap ((m:Int)+1)=((m+1:Nat):Int):=zh (by unfold lim;omega);have hl1:([c].length:Int)=1:=rfl;have hsth:zQ Tryz.prog 9 (.ptr h.next (i*1)) (.str (r.take m)) h'=some (h'.set h.next (.row ((ps++ [r.take m]).map sdd++List.replicate ((zj c s).length- (i+1)) (.str [])))):=by
    rw[Nat.mul_one,zV hrow zBg (by simp[hps];omega) rfl rfl,hput _ (by omega)]
   simp only[go_sem,Nat.reduceEqDiff,↓reduceIte,f0,f1,f2,f3,f9,f10,hm,hneg,hw4,hw5,hl1,wC Tryz.underlying9,zKs zPU Tryz.underlying9 (show m≤r.length by omega),zE4 zPU Tryz.underlying9 (show m+1≤r.length by omega),zt qQ zBg (show i<(zj c s).length by omega),hsth];refine⟨hlt,ps++ [r.take m],r.drop (m+1),by simp[hps],by rw[hsp,hs1];simp,by simp;omega,rfl,?_,rfl,hext.set (Nat.le_refl _) _⟩;rw[zh (by unfold lim;omega)]
 ·have hie:i=(zj c s).length-1:=by omega
  rw[decide_eq_false (by omega)];have hlast:zj c r= [r]:=by
   have h1:=congrArg List.length hsp;rw[List.length_append,hps,zA8 c r] at h1;exact zEK (List.count_eq_zero.1 (by omega))
  have hw6:IntKind.i64.wrap ((i:Int)+1)=(((zj c s).length:Nat):Int):=by rw[zh (by unfold lim;omega)];omega
  have hsth:zQ Tryz.prog 9 (.ptr h.next (i*1)) (.str r) h'=some (h'.set h.next (.row ((ps++ [r]).map sdd++List.replicate ((zj c s).length- (i+1)) (.str [])))):=by
   rw[Nat.mul_one,zV hrow zBg (by simp[hps];omega) rfl rfl,hput _ (by omega)]
  simp only[go_sem,Nat.reduceEqDiff,↓reduceIte,f0,f1,f2,f3,f9,f10,hw6,zt qQ zBg (show i<(zj c s).length by omega),hsth,zAn zZX qQ zBg (Nat.le_refl (zj c s).length)];have hall:(ps++ [r]).map sdd++List.replicate ((zj c s).length- (i+1)) (.str [])=(yW (zj c s)).flatten:=by
   rw[show(zj c s).length- (i+1)=0 by omega,List.replicate_zero,List.append_nil,zUN,hsp,hlast]
  refine⟨h.next,_,zC _ _ _,(hext.set (Nat.le_refl _) _).del (Nat.le_refl _),?_⟩;rw[zfK zGz (z6 _) hall];exact⟨zz (Nat.zero_le _) _ (yg (sz:=1) qe .no).2,rfl⟩
def zFq:List UInt8:=[97,98,99,100,101,102,103,104,105,106,107,108,109,110,111,112,113,114,115,116,117,118,119,120,121,122,48,49,50,51,52,53,54,55,56,57,45,46]
def zAs (s:List UInt8):Bool:=match s with
 | []=>false
 |b::r=> !(decide ((b::r).length>32)||decide ((b.toNat:Int)<97)||decide ((b.toNat:Int)>122)||((b::r:List UInt8)== [97,110,100])||((b::r:List UInt8)== [111,114])||((b::r:List UInt8)== [119,105,116,104]))&&(Lib.trimS (b::r) zFq== [])
def zJi (s:List UInt8):List (List UInt8):=if s= [] then [] else zj 10 s
def zCa (b:UInt8):Bool:=((b.toNat:Int) !=10)&&(decide ((b.toNat:Int)<32)||decide ((b.toNat:Int)>126))
end Go.V
