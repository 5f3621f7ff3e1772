/- Rules of the machine of abstract values, part 2. No condition. -/
import Derived.Test.YtalepjdbhjinhaaGreatDoorW20
import Derived.Sort.Grow
import Derived.Lib.TrimU
import Derived.Test.YtalepjdbhjinhaaGreatDoorW19
import Derived.Lib.IndexLaws
import Derived.Test.YtalepjdbhjinhaaGreatDoorW17
import Derived.Test.YtalepjdbhjinhaaGreatDoorW18
set_option linter.all false
namespace Go.V
open Go.RowKit (Below)
attribute [go_sem] Option.map_none Option.map_some
section
variable {P:Program} {t e:TypeId} {s:List UInt8} {h:Heap}
theorem zKN (ha:zKx P t=none) (hu:P.underlying t=some .string) {k:IntKind} {n:Nat} (hn:n≤s.length):yZ P t (.str s) none (some (.int k (n:Int))) none h=some (.str (s.take n)):=by
 simp[yZ,ha,zCN,hu,qj,zIC,zJa,hn]
theorem zEY (ha:zKx P t=none) (hu:P.underlying t=some .string) {k:IntKind} {n:Nat} (hn:n≤s.length):yZ P t (.str s) (some (.int k (n:Int))) none none h=some (.str (s.drop n)):=by
 simp[yZ,ha,zCN,hu,qj,zIC,zJa,hn]
theorem zBU (ha:zKx P t=none) (he:yr P t=some e) {id sz len n:Nat} (hz:szT P e=sz) {k:IntKind} (hn:n≤len):yZ P t (.rs id sz 0 len) none (some (.int k (n:Int))) none h=some (.rs id sz 0 n):=by
 simp[yZ,ha,zCN,he,hz,qj,zIC,zJa,hn]
theorem z7 (hu:P.underlying t=some .string):zAd P t (.str s) h=some (.int .i64 s.length):=by simp[zAd,hu]
theorem wj (hu:P.underlying t=some .string) {k:IntKind} {n:Nat} {b:UInt8} (hn:s[n]? =some b):zA2 P t (.str s) (.int k (n:Int))=some (.int .u8 b.toNat):=by
 simp[zA2,hu,hn]
end
theorem Sim.grow {w0:Base} {G:List Nat} {M:Imm} {ρ:Ren} {h:Heap} {w:World} (hs:Sim w0 G M ρ h w) (os:Array Go.Obj):Sim w0 G M ρ h (Go.Sort.grow w os):=
 hs.world ⟨⟨rfl,rfl,rfl,by simp[Go.Sort.grow],fun k hk=>by simp[Go.Sort.grow,Array.getElem?_append_left hk]⟩,Nat.le_refl _⟩
theorem zA.of_rowU {P:Program} {f:FuncId} {α:Type} [Inhabited α] {enc:α→Value} {dd:α→D} (hinv:∀M ρ x v,rel M ρ (dd x) v→v=enc x) (hfl:∀x,(dd x).flat=true) {xs ys:List α} {rest:List D} {id:Nat} {pre post:List D} {h:Heap}
  (he:qV P f=true) (hrow:h.at' id=some (.row (pre++xs.map dd++post))) (h0:0<xs.length) (hlen:ys.length=xs.length) (hy:∀y∈ys,y∈xs∨∀M ρ,rel M ρ (dd y) (enc y))
  (hc:∀ (blk o cap:Nat) (w:World) (M:Imm) (ρ:Ren) (va:List Value),Go.Sort.Holds enc w blk o xs.toArray→blk<w.heap.size→xs.length≤cap→cap≤9223372036854775807→zy M ρ rest va→
   Calls P f (.slice (some ⟨blk,o,none⟩) xs.length cap::va).toArray w fun e w'=>e= .returned (.tuple #[])∧∃q os,w'=Go.Sort.grow (Go.Sort.putRow enc (Go.Sort.ahead w q) blk o ys.toArray) os):
  zA P f (.rs id 1 pre.length xs.length::rest) h fun d h'=>d= .tuple []∧h'=h.set id (.row (pre++ys.map dd++post)):=by
 refine⟨he,fun w0 G M ρ w va hg0 hs hfr hr=> ?_⟩;simp only[zy] at hr;obtain⟨v,vs',hva,hv,hrest⟩:=hr;simp only[rel] at hv;obtain⟨_,hlim,l,cap,o,hl,rfl,⟨hc1,hc2⟩,hsz,ho⟩:=hv;have ho:o=pre.length:=by
  rcases ho with hz|ho
  ·omega
  ·exact ho
 subst ho;obtain⟨l',h1,hkeep,hM,c,e,hw,hls,hcl,hcells⟩:=hs.live id _ hrow;rw[hl] at h1;cases h1;have hcell:∀ (j:Nat) (hj:j<xs.length),∃v,c[pre.length+j]? =some v∧rel M ρ (dd xs[j]) v:=fun j hj=>by
  obtain⟨_,v,e1,e2⟩:=hcells (pre.length+j) (dd xs[j]) (by
   rw[List.append_assoc,List.getElem?_append_right (by omega),Nat.add_sub_cancel_left,List.getElem?_append_left (by simpa using hj),List.getElem?_map,List.getElem?_eq_getElem hj];rfl)
  exact⟨v,e1,e2⟩
 have hholds:Go.Sort.Holds enc w l.blk pre.length xs.toArray:=fun j hj=>by
  have hj':j<xs.length:=by simpa using hj
  obtain⟨v,e1,e2⟩:=hcell j hj';refine⟨?_,by simp[World.frozen?,hw]⟩;rw[getElem!_pos xs.toArray j hj];simp only[World.cell?,hw,Option.isSome_none,Bool.false_eq_true,if_false,e1,hinv _ _ _ _ e2,List.getElem_toArray]
 have hva':va=(.slice (some ⟨l.blk,pre.length,none⟩) xs.length cap::vs').toArray:=Array.ext' (by simpa using hva);rw[hva'];have hblk:l.blk<w.heap.size:=(Array.getElem?_eq_some_iff.1 hw).1;refine(hc l.blk pre.length cap w M ρ vs' hholds hblk hc1 (by simpa [maxLen] using hc2) hrest).mono fun e w' hq=> ?_;obtain⟨rfl,q,os,rfl⟩:=hq;have hrel:∀y∈ys,rel M ρ (dd y) (enc y):=fun y hyy=>by
  rcases hy y hyy with hx|hx
  ·obtain⟨j,hj,rfl⟩:=List.mem_iff_getElem.1 hx;obtain⟨v,_,e2⟩:=hcell j hj;have:=hinv _ _ _ _ e2;rw[←this];exact e2
  ·exact hx M ρ
 have hS:=(((hs.ahead q).putRow hfl (enc:=enc) hrow hl hlen hrel)).grow os;refine⟨_,M,ρ, .tuple [],_,rfl,MLe.refl _,RLe.refl _,hS,hfr,?_,rfl,rfl⟩;simp only[rel,zy];exact⟨#[],rfl,rfl⟩
def wr (p:Nat→Bool) (s:List UInt8):Nat→Nat→Bool
 |0,_=>false
 |k+1,pos=>if pos<s.length then p (wC s pos).1||wr p s k (pos+(wC s pos).2) else false
theorem zBH {p:Nat→Bool} {s:List UInt8} {pos:Nat} (h:s.length≤pos):∀k,wr p s k pos=false
 |0=>rfl
 |k+1=>by simp[wr];omega
theorem zFs {p:Nat→Bool} {s:List UInt8} :∀ {j k pos:Nat},s.length+1≤pos+j→s.length+1≤pos+k→wr p s j pos=wr p s k pos
 |0,k,pos,hj,_=>by rw[zBH (by omega),zBH (by omega)]
 |j+1,0,pos,_,hk=>by rw[zBH (by omega),zBH (by omega)]
 |j+1,k+1,pos,hj,hk=>by
  simp only[wr];by_cases h:pos<s.length
  ·have:=Go.Lib.width_pos ⟨s.toArray⟩ pos;rw[if_pos h,if_pos h,zFs (j:=j) (k:=k) (by unfold wC;omega) (by unfold wC;omega)]
  ·rw[if_neg h,if_neg h]
theorem zNM (s:List UInt8) (pos:Nat):IntKind.i32.wrap ((wC s pos).1:Int)=((wC s pos).1:Int):=by
 have:=Go.Lib.rune_le ⟨s.toArray⟩ pos;unfold wC IntKind.wrap;simp[IntKind.signed,IntKind.bits];split<;>omega
theorem zNN (s:List UInt8) (pos:Nat):1≤(wC s pos).2:=Go.Lib.width_pos _ _
theorem zP2 {s:List UInt8} {pos id:Nat} {h:Heap} (hi:h.at' id=some (.siter s pos)) (hl:s.length≤lim) (hp:pos<s.length):zIF (.ptr id 0) true h=some (.tuple [.bool true, .int .i64 (pos:Int), .int .i32 ((wC s pos).1:Int)],h.set id (.siter s (pos+(wC s pos).2))):=by
 simp[zIF,hi,hp,hl,zNM]
theorem zSw {s:List UInt8} {pos id:Nat} {h:Heap} (hi:h.at' id=some (.siter s pos)) (hp:¬pos<s.length):zIF (.ptr id 0) true h=some (.tuple [.bool false],h):=by
 simp[zIF,hi,hp]
theorem zO1 (n:Nat) (d:D):zBW n [d]=List.replicate n d:=by
 induction n with
 |zero=>rfl
 |succ n ih=>simp only[zBW,List.replicate_succ,List.flatten_cons] at ih⊢;rw[ih];rfl
open Go.Proofs
theorem zZY {s:List UInt8} (hl:s.length≤1048576) (c:UInt8) (h:Heap):zA Tryz.prog 24 [.str s, .str [c]] h fun r h'=>h'=h∧r= .int .i64 (Lib.countByte s c:Nat):=by
 have hc:Lib.countByte s c≤s.length:=List.count_le_length;refine(zHQ (by kernel_rfl) (fun s c w=>Tryz.strings_Count_one s c w) (args:=[.str s, .str [c]]) (d:= .int .i64 (Lib.countByte s c:Nat)) ?_ h).mono fun a b hab=>⟨hab.2,hab.1⟩;simp only[zGa,za5];rw[zx (by omega) (by omega)];simp
theorem zZZ {s:List UInt8} (hl:s.length≤1048576) (c:UInt8) (h:Heap):zA Tryz.prog 54 [.str s, .str [c]] h fun r h'=>h'=h∧r= .int .i64 (Lib.indexByte s c):=by
 have h1:=Lib.indexByte_ge s c;have h2:Lib.indexByte s c≤s.length:=by
  by_cases h0:Lib.indexByte s c= -1
  ·omega
  ·obtain⟨m,hm⟩:=Int.eq_ofNat_of_zero_le (show 0≤Lib.indexByte s c by omega);have:=(List.getElem?_eq_some_iff.1 (Lib.indexByte_some hm).1).1;omega
 refine(zDi (by kernel_rfl) (fun s c w=>Tryz.strings_Index_one s c w) (args:=[.str s, .str [c]]) (d:= .int .i64 (Lib.indexByte s c)) ?_ h).mono fun a b hab=>⟨hab.2,hab.1⟩;simp only[zEV,za5];rw[zx (by omega) (by omega)];simp
theorem zCE {α:Type} (p:α→Bool):∀l:List α,(l.dropWhile p).length≤l.length
 | []=>Nat.le_refl _
 |a::l=>by
  simp only[List.dropWhile];split
  ·have:=zCE p l;simp;omega
  ·exact Nat.le_refl _
theorem zSx (s c:List UInt8):(Lib.trimS s c).length≤s.length:=by
 unfold Lib.trimS Lib.trimLeftS Lib.trimRightS;refine Nat.le_trans (zCE _ _) ?_;rw[List.length_reverse];refine Nat.le_trans (zCE _ _) ?_;rw[List.length_reverse];exact Nat.le_refl _
theorem zO2 {s:List UInt8} (hl:s.length≤1048576) {c:List UInt8} (hc:c.all (fun b=>decide (b.toNat<128))=true) (hn:c.length<4294967281) (h:Heap) (h0:Nat.ble 2 c.length=true:=by decide):zA Tryz.prog 105 [.str s, .str c] h fun r h'=>h'=h∧r= .str (Lib.trimS s c):=by
 refine(zI2 (by kernel_rfl) (fun s c w h0 h1 h2 h3=>zOz Tryz.lays160 (by kernel_rfl) s c w h0 h1 h2 h3) (args:=[.str s, .str c]) (d:= .str (Lib.trimS s c)) ?_ h).mono fun a b hab=>⟨hab.2,hab.1⟩;have h1:=zSx s c;have h2:Nat.blt c.length 4294967281=true:=by rw[Nat.blt_eq];exact hn
 simp only[zKM,h0,hc,h2,Bool.and_self,if_true,zeo];rw[if_pos (decide_eq_true (by unfold lim;omega))]
def zm (c:UInt8):List UInt8→List (List UInt8)
 | []=>[[]]
 |b::s=>if b=c then []::zm c s else match zm c s with
  | []=>[[b]]
  |p::ps=>(b::p)::ps
theorem zCk (c:UInt8):∀s,zm c s≠[]
 | []=>by simp[zm]
 |b::s=>by
  simp only[zm];split
  ·simp
  ·split<;>simp
theorem zAs (c:UInt8):∀s:List UInt8,(zm c s).length=s.count c+1
 | []=>rfl
 |b::s=>by
  have ih:=zAs c s;simp only[zm];by_cases h:b=c
  ·subst h;simp[ih]
  ·rw[if_neg h,List.count_cons_of_ne h];split
   ·rename_i h0;rw[h0] at ih;simp at ih
   ·rename_i p ps h0;rw[h0] at ih;simpa using ih
theorem zDj {c:UInt8} :∀ {s:List UInt8},c∉s→zm c s= [s]
 | [],_=>rfl
 |b::s,h=>by
  simp only[List.mem_cons,not_or] at h;rw[zm,if_neg (fun e=>h.1 e.symm),zDj h.2]
theorem zLs {c:UInt8} :∀ {m:Nat} {s:List UInt8},s[m]? =some c→(∀k,k<m→s[k]? ≠some c)→zm c s=s.take m::zm c (s.drop (m+1))
 |m,[],h,_=>by simp at h
 |0,b::s,h,_=>by
  simp only[List.getElem?_cons_zero,Option.some.injEq] at h;rw[zm,if_pos h];simp
 |m+1,b::s,h,hk=>by
  simp only[List.getElem?_cons_succ] at h;have hb:b≠c:=fun e=>hk 0 (by omega) (by simp[e]);rw[zm,if_neg hb,zLs h fun k hkm=>by simpa using hk (k+1) (by omega)];simp
theorem zNO (s:List UInt8) (c:UInt8):(Lib.indexByte s c= -1∧zm c s= [s])∨∃m:Nat,Lib.indexByte s c=(m:Int)∧m<s.length∧zm c s=s.take m::zm c (s.drop (m+1)):=by
 have h1:=Lib.indexByte_ge s c;by_cases h:Lib.indexByte s c= -1
 ·refine .inl ⟨h,zDj fun hc=> ?_⟩;obtain⟨k,hk⟩:=List.mem_iff_getElem?.1 hc;exact Lib.indexByte_none h k hk
 ·obtain⟨m,hm⟩:=Int.eq_ofNat_of_zero_le (show 0≤Lib.indexByte s c by omega);obtain⟨g1,g2⟩:=Lib.indexByte_some hm;exact .inr ⟨m,hm,(List.getElem?_eq_some_iff.1 g1).1,zLs g1 g2⟩
theorem zEZ (c:UInt8) (s:List UInt8):(zm c s).length≤s.length+1:=by
 rw[zAs];have:=List.count_le_length (a:=c) (l:=s);omega
theorem zDU (c:UInt8):∀ (s:List UInt8),∀p∈zm c s,p.length≤s.length
 | [],p,h=>by simp[zm] at h;subst h;simp
 |b::s,p,h=>by
  have ih:=zDU c s;simp only[zm] at h;split at h
  ·rcases List.mem_cons.1 h with rfl|h
   ·simp
   ·have:=ih p h;simp;omega
  ·split at h
   ·rename_i h0;exact absurd h0 (zCk c s)
   ·rename_i q qs h0;rcases List.mem_cons.1 h with rfl|h
    ·have:=ih q (by rw[h0];simp);simp;omega
    ·have:=ih p (by rw[h0];simp[h]);simp;omega
def zt (l:List (List UInt8)):List (List D):=l.map fun s=>[.str s]
theorem zJ (l:List (List UInt8)):(zt l).length=l.length:=List.length_map ..
theorem yy {l:List (List UInt8)} {i:Nat} (h:i<l.length):(zt l)[i]? =some [.str l[i]]:=by simp[zt,h]
theorem yW {l:List (List UInt8)} :∀x∈zt l,zCj x:=fun x hx=>by
 obtain⟨s,_,rfl⟩:=List.mem_map.1 hx;exact⟨rfl,⟨trivial,trivial⟩,rfl⟩
theorem zDC {l:List (List UInt8)} :∀x∈zt l,x.length=1:=fun x hx=>by
 obtain⟨s,_,rfl⟩:=List.mem_map.1 hx;rfl
def sdd (s:List UInt8):D:= .str s
theorem zCl (l:List (List UInt8)):(zt l).flatten=l.map sdd:=by
 induction l with
 |nil=>rfl
 |cons x l ih=>simp[zt,sdd] at ih⊢;exact ih
set_option maxRecDepth 100000
theorem zVJ {l:List (List UInt8)} {d:D} (hd:zX 1 (zt l) d) (hl:l.length≤1048576) (s:List UInt8) (h:Heap):
  zA Tryz.prog 45 [d, .str s] h fun r h'=>h'=h∧r= .int .i64 (match l.findIdx? (· ==s) with|some i=>(i:Int)|none=> -1):=by
 refine zA.of_fn (g:=zY3) mix Tryz.func45 ziM rfl rfl ?_;simp only[Tryz.f45,gJ];have hll:((zt l).length:Int)=l.length:=by rw[zJ]
 simp only[go_sem,Nat.reduceEqDiff,↓reduceIte,zP hd Tryz.underlying31,hll];refine yG (fun i fr h'=>fr 0=d∧fr 1= .str s∧fr 7= .int .i64 l.length∧fr 8= .int .i64 (i:Int)∧h'=h∧∀j (hj:j<l.length),j<i→(l[j]==s)=false) l.length (by simp[go_sem]) ?_;rintro i fr h' hi ⟨f0,f1,f7,f8,rfl,hj⟩;simp only[go_sem,Nat.reduceEqDiff,↓reduceIte,f0,f1,f7,f8];by_cases hlt:i<l.length
 ·rw[decide_eq_true (by exact_mod_cast hlt)];have hsym:(s==l[i])=(l[i]==s):=by
   by_cases e:s=l[i]
   ·rw[e]
   ·rw[beq_eq_false_iff_ne.2 e,beq_eq_false_iff_ne.2 (Ne.symm e)]
  cases he:(l[i]==s) with
  |true=>
   simp only[go_sem,Nat.reduceEqDiff,↓reduceIte,f0,f1,f7,f8,zE hd zd yu (yy hlt),zC,hsym,he]
   have:l.findIdx? (· ==s)=some i:=by
    rw[List.findIdx?_eq_some_iff_getElem];exact⟨hlt,he,fun j hji=>by rw[hj j (by omega) hji];exact Bool.false_ne_true⟩
   rw[this]
  |false=>
   simp only[go_sem,Nat.reduceEqDiff,↓reduceIte,f0,f1,f7,f8,zE hd zd yu (yy hlt),zC,hsym,he];refine⟨hlt,by rw[zf (by unfold lim;omega)],fun j hjl hji=> ?_⟩;rcases Nat.lt_succ_iff_lt_or_eq.1 hji with hji|rfl
   ·exact hj j hjl hji
   ·exact he
 ·have hie:i=l.length:=by omega
  subst hie;rw[decide_eq_false (by omega)];simp only[go_sem,Nat.reduceEqDiff,↓reduceIte]
  have:l.findIdx? (· ==s)=none:=by
   rw[List.findIdx?_eq_none_iff];intro n hn;obtain⟨j,hjl,rfl⟩:=List.mem_iff_getElem.1 hn;exact hj j hjl hjl
  rw[this]
theorem zDD {α:Type} {l:List α} {p:α→Bool} :decide ((match l.findIdx? p with|some i=>(i:Int)|none=> -1)≥0)=l.any p:=by
 cases hq:l.findIdx? p with
 |none=>
  have:l.any p=false:=by
   rw[List.findIdx?_eq_none_iff] at hq;rw[List.any_eq_false];intro n hn;rw[hq n hn];exact Bool.false_ne_true
  rw[this];rfl
 |some i=>
  have:l.any p=true:=by
   rw[List.findIdx?_eq_some_iff_getElem] at hq;obtain⟨hi,hp,_⟩:=hq;exact List.any_eq_true.2 ⟨_,List.getElem_mem hi,hp⟩
  rw[this];simp
theorem zDk {l:List (List UInt8)} {d:D} (hd:zX 1 (zt l) d) (hl:l.length≤1048576) (s:List UInt8) (h:Heap):
  zA Tryz.prog 19 [d, .str s] h fun r h'=>h'=h∧r= .bool (l.any (· ==s)):=by
 refine zA.of_fn (g:=zZK) mix Tryz.func19 ziq rfl rfl ?_;simp only[Tryz.f19,gJ];simp only[go_sem,Nat.reduceEqDiff,↓reduceIte];refine(zVJ hd hl s _).mono ?_;rintro r h2 ⟨rfl,rfl⟩;simp only[go_sem,Nat.reduceEqDiff,↓reduceIte,zDD]
theorem zLt {l:List (List UInt8)} {d:D} (hd:zX 1 (zt l) d) (hl:l.length≤1048576) {g:FuncId} {fst cap:List D} {p:List UInt8→Bool} (hp:∀s∈l,∀h,zA Tryz.prog g (fst++ [.str s]++cap) h fun r h'=>h'=h∧r= .bool (p s)) (h:Heap):
  zA Tryz.prog 147 [d, .fn (.func g) fst cap] h fun r h'=>h'=h∧r= .int .i64 (match l.findIdx? p with|some i=>(i:Int)|none=> -1):=by
 refine zA.of_fn (g:=zRt) mix Tryz.func147 zcZ rfl rfl ?_;simp only[Tryz.f147,gJ];have hll:((zt l).length:Int)=l.length:=by rw[zJ]
 simp only[go_sem,Nat.reduceEqDiff,↓reduceIte,zP hd Tryz.underlying31,hll];refine yG (fun i fr h'=>fr 0=d∧fr 1= .fn (.func g) fst cap∧fr 7= .int .i64 l.length∧fr 8= .int .i64 (i:Int)∧h'=h∧∀j (hj:j<l.length),j<i→p l[j]=false) l.length (by simp[go_sem]) ?_;rintro i fr h' hi ⟨f0,f1,f7,f8,rfl,hj⟩;simp only[go_sem,Nat.reduceEqDiff,↓reduceIte,f0,f1,f7,f8];by_cases hlt:i<l.length
 ·rw[decide_eq_true (by exact_mod_cast hlt)];simp only[go_sem,Nat.reduceEqDiff,↓reduceIte,f0,f1,f7,f8,zE hd zd yu (yy hlt),zC];refine(hp _ (List.getElem_mem hlt) _).mono ?_;rintro r h2 ⟨rfl,rfl⟩;cases he:p l[i] with
  |true=>
   simp only[go_sem,Nat.reduceEqDiff,↓reduceIte]
   have:l.findIdx? p=some i:=by
    rw[List.findIdx?_eq_some_iff_getElem];exact⟨hlt,he,fun j hji=>by rw[hj j (by omega) hji];exact Bool.false_ne_true⟩
   rw[this]
  |false=>
   simp only[go_sem,Nat.reduceEqDiff,↓reduceIte];refine⟨hlt,by rw[zf (by unfold lim;omega)],fun j hjl hji=> ?_⟩;rcases Nat.lt_succ_iff_lt_or_eq.1 hji with hji|rfl
   ·exact hj j hjl hji
   ·exact he
 ·have hie:i=l.length:=by omega
  subst hie;rw[decide_eq_false (by omega)];simp only[go_sem,Nat.reduceEqDiff,↓reduceIte]
  have:l.findIdx? p=none:=by
   rw[List.findIdx?_eq_none_iff];intro n hn;obtain⟨j,hjl,rfl⟩:=List.mem_iff_getElem.1 hn;exact hj j hjl hjl
  rw[this]
theorem zCm {l:List (List UInt8)} {d:D} (hd:zX 1 (zt l) d) (hl:l.length≤1048576) {g:FuncId} {fst cap:List D} {p:List UInt8→Bool} (hp:∀s∈l,∀h,zA Tryz.prog g (fst++ [.str s]++cap) h fun r h'=>h'=h∧r= .bool (p s)) (h:Heap):
  zA Tryz.prog 100 [d, .fn (.func g) fst cap] h fun r h'=>h'=h∧r= .bool (l.any p):=by
 refine zA.of_fn (g:=zSU) mix Tryz.func100 zc3 rfl rfl ?_;simp only[Tryz.f100,gJ];simp only[go_sem,Nat.reduceEqDiff,↓reduceIte];refine(zLt hd hl hp _).mono ?_;rintro r h2 ⟨rfl,rfl⟩;simp only[go_sem,Nat.reduceEqDiff,↓reduceIte,zDD]
theorem zLu {s:List UInt8} (hl:s.length≤1048576) {g:FuncId} {p:Nat→Bool} (hp:∀n:Nat,n≤1114111→∀h,zA Tryz.prog g [.int .i32 n] h fun r h'=>h'=h∧r= .bool (p n)) (h:Heap):
  zA Tryz.prog 240 [.str s, .fn (.func g) [] [], .bool true] h fun r h'=>h'=h∧∃n:Int,r= .int .i64 n∧decide (n≥0)=wr p s (s.length+1) 0:=by
 refine zA.pure (by kernel_rfl) fun hok=> ?_;refine zA.of_fn (g:=zR6) mix Tryz.func240 zcl rfl rfl ?_;simp only[Tryz.f240,gJ];have hr:∀h:Heap,zFb Tryz.prog h.next 9 (.str s) h=some (.ptr h.next 0,h.new h.next (.siter s 0)):=fun h=>by simp[zFb,Tryz.underlying9]
 simp only[go_sem,Nat.reduceEqDiff,↓reduceIte,hr];refine zOR (fun k fr h'=>∃pos:Nat,k=s.length-pos∧fr 1= .fn (.func g) [] []∧fr 2= .bool true∧fr 10= .ptr h.next 0∧h'.at' h.next=some (.siter s pos)∧Ext h h'∧wr p s (s.length+1) 0=wr p s (s.length+1-pos) pos) s.length ?_ ?_
 ·refine⟨0,rfl,?_⟩;simp only[go_sem,Nat.reduceEqDiff,↓reduceIte,Nat.sub_zero,true_and];exact(Ext.refl h).new (Nat.le_refl _) _
 rintro k fr h' ⟨pos,rfl,f1,f2,f10,hit,hext,hany⟩;by_cases hlt:pos<s.length
 ·have hn:=zP2 hit (by unfold lim;omega) hlt;have hle:(wC s pos).1≤1114111:=Go.Lib.rune_le _ _;have hsz:=zNN s pos;simp only[go_sem,Nat.reduceEqDiff,↓reduceIte,f1,f2,f10,hn,zo];refine(hp _ hle _).mono ?_;rintro r h2 ⟨rfl,rfl⟩;have hbb:∀b c,zD1 Tryz.prog .eql 4 c (.bool b) (.bool true)=some (.bool b):=fun b c=>by cases b<;>simp[zD1,zWJ,zAk,veq,Tryz.underlying4]
  have hst:s.length+1-pos=(s.length-pos)+1:=by omega
  cases he:p (wC s pos).1 with
  |true=>
   simp only[go_sem,Nat.reduceEqDiff,↓reduceIte,hbb,f1,f2,f10];refine⟨hext.set (Nat.le_refl _) _,trivial,(pos:Int),rfl,?_⟩;rw[hany,hst,wr,if_pos hlt,he,decide_eq_true (by omega)];rfl
  |false=>
   simp only[go_sem,Nat.reduceEqDiff,↓reduceIte,hbb,f1,f2,f10];refine⟨s.length- (pos+(wC s pos).2),by omega,pos+(wC s pos).2,rfl,rfl,hext.set (Nat.le_refl _) _,?_⟩;rw[hany,hst,wr,if_pos hlt,he,Bool.false_or];exact zFs (by omega) (by omega)
 ·have hn:=zSw hit hlt;simp only[go_sem,Nat.reduceEqDiff,↓reduceIte,f1,f2,f10,hn,zo];refine⟨hext,trivial,-1,rfl,?_⟩;rw[hany,zBH (by omega)];rfl
theorem zHV {s:List UInt8} (hl:s.length≤1048576) {g:FuncId} {p:Nat→Bool} (hp:∀n:Nat,n≤1114111→∀h,zA Tryz.prog g [.int .i32 n] h fun r h'=>h'=h∧r= .bool (p n)) (h:Heap):
  zA Tryz.prog 163 [.str s, .fn (.func g) [] []] h fun r h'=>h'=h∧r= .bool (wr p s (s.length+1) 0):=by
 refine zA.of_fn (g:=zSh) mix Tryz.func163 zdN rfl rfl ?_;simp only[Tryz.f163,gJ];simp only[go_sem,Nat.reduceEqDiff,↓reduceIte];refine zA.mono (Q:=fun r h'=>h'=h∧∃n:Int,r= .int .i64 n∧decide (n≥0)=wr p s (s.length+1) 0) ?_ ?_
 ·refine zA.of_fn (g:=zSi) mix Tryz.func210 zdP rfl rfl ?_;simp only[Tryz.f210,gJ];simp only[go_sem,Nat.reduceEqDiff,↓reduceIte];refine(zLu hl hp _).mono ?_;rintro r h2 ⟨rfl,n,rfl,hn⟩;simp only[go_sem,Nat.reduceEqDiff,↓reduceIte];exact⟨n,rfl,hn⟩
 ·rintro r h2 ⟨rfl,n,rfl,hn⟩;simp only[go_sem,Nat.reduceEqDiff,↓reduceIte,hn]
theorem zNP {s:List UInt8} (hl:s.length≤1048576) (c:UInt8) (h:Heap):
  zA Tryz.prog 63 [.str s, .str [c]] h fun r h'=>h'=h∧r= .sl 1 (zt (zm c s)) .no:=by
 refine zA.of_fn (g:=zZI) mix Tryz.func63 zil rfl rfl ?_;simp only[Tryz.f63,gJ];simp only[go_sem,Nat.reduceEqDiff,↓reduceIte];refine zA.mono (Q:=fun r h'=>h'=h∧r= .sl 1 (zt (zm c s)) .no) ?_ ?_
 rotate_left
 ·rintro r h2 ⟨rfl,rfl⟩;simp only[go_sem,Nat.reduceEqDiff,↓reduceIte]
 have hlen:=zEZ c s;have hlc:=zAs c s;refine zA.pure (by kernel_rfl) fun hok=>zA.freezeD ?_;refine zA.of_fn (g:=zOV) mix Tryz.func110 zcH rfl rfl ?_;simp only[Tryz.f110,gJ];have hne:([c]==([]:List UInt8))=false:=rfl;simp only[go_sem,Nat.reduceEqDiff,↓reduceIte,hne,show((-1:Int)==0)=false from rfl,show decide ((-1:Int)<0)=true from rfl]
 refine(zZY hl c _).mono ?_;rintro r h ⟨rfl,rfl⟩;have hw1:IntKind.i64.wrap ((Lib.countByte s c:Nat)+1:Int)=(((zm c s).length:Nat):Int):=by
  rw[hlc,show Lib.countByte s c=s.count c from rfl]
  exact zf (by have:=List.count_le_length (a:=c) (l:=s);unfold lim;omega)
 have hw2:IntKind.i64.wrap ((s.length:Int)+1)=((s.length+1:Nat):Int):=zf (by unfold lim;omega);have hmin:zQg (.int .i64 (((zm c s).length:Nat):Int)) (.int .i64 ((s.length+1:Nat):Int))=some (.int .i64 (((zm c s).length:Nat):Int)):=by
  simp only[zQg,if_true];rw[if_neg (by omega)]
 have hmk:∀h:Heap,wL Tryz.prog true h.next 31 (.int .i64 (((zm c s).length:Nat):Int)) (.int .i64 (((zm c s).length:Nat):Int)) h=some (.rs h.next 1 0 (zm c s).length,h.new h.next (.row (zBW (zm c s).length [.str []]))):=fun h=>by
  simp only[wL,zd,zCA,yu,wO];rw[if_pos (by simp[zLl,zSt];unfold lim;omega)];simp;rfl
 have hw3:IntKind.i64.wrap ((((zm c s).length:Nat):Int)-1)=((((zm c s).length-1:Nat)):Int):=by
  have:=zCk c s;have h1:0<(zm c s).length:=List.length_pos_iff.2 this;rw[zx (by omega) (by omega)];omega
 simp only[go_sem,Nat.reduceEqDiff,↓reduceIte,hw1,hw2,hw3,hmin,hmk,zfc,List.contains_cons,Nat.reduceBEq,z7 Tryz.underlying9];have hpos:0<(zm c s).length:=List.length_pos_iff.2 (zCk c s);refine yG (fun i fr h'=>∃ (ps:List (List UInt8)) (r:List UInt8),ps.length=i∧zm c s=ps++zm c r∧r.length≤s.length∧fr 0= .str r∧fr 1= .str [c]∧fr 2= .int .i64 0∧fr 3= .int .i64 (((zm c s).length-1:Nat):Int)∧fr 9= .rs h.next 1 0 (zm c s).length∧fr 10= .int .i64 (i:Int)∧
   h'.at' h.next=some (.row (ps.map sdd++List.replicate ((zm c s).length-i) (.str [])))∧Ext h h') ((zm c s).length-1) ?_ ?_
 ·refine⟨[],s,rfl,rfl,Nat.le_refl _,?_⟩;simp only[go_sem,Nat.reduceEqDiff,↓reduceIte,true_and,Nat.sub_zero];refine⟨rfl,?_,(Ext.refl h).new (Nat.le_refl _) _⟩;rw[zO1]
 rintro i fr h' hi ⟨ps,r,hps,hsp,hrl,f0,f1,f2,f3,f9,f10,hrow,hext⟩;simp only[go_sem,Nat.reduceEqDiff,↓reduceIte,f0,f1,f2,f3,f9,f10];have hput:∀x:List UInt8,i<(zm c s).length→(ps.map sdd++List.replicate ((zm c s).length-i) (D.str [])).set i (D.str x)=(ps++ [x]).map sdd++List.replicate ((zm c s).length- (i+1)) (D.str []):=fun x hlt=>by
  rw[List.set_append_right _ _ (by simp[hps]),List.length_map,hps,Nat.sub_self,show(zm c s).length-i=((zm c s).length- (i+1))+1 by omega,List.replicate_succ,List.set_cons_zero];simp[sdd]
 by_cases hlt:i<(zm c s).length-1
 ·rw[decide_eq_true (by exact_mod_cast hlt)];simp only[go_sem,Nat.reduceEqDiff,↓reduceIte,f0,f1,f2,f3,f9,f10];refine(zZZ (by omega) c _).mono ?_;rintro q h' ⟨rfl,rfl⟩;rcases zNO r c with⟨hm,hs1⟩ | ⟨m,hm,hml,hs1⟩
  ·exfalso;rw[hs1] at hsp;have:=congrArg List.length hsp;simp[hps] at this;omega
  ·have hneg:decide (((m:Nat):Int)<0)=false:=decide_eq_false (by omega);have hw4:IntKind.i64.wrap ((m:Int)+0)=((m:Nat):Int):=by rw[Int.add_zero,zx (by omega) (by omega)]
   have hw5:IntKind.i64.wrap ((m:Int)+1)=((m+1:Nat):Int):=zf (by unfold lim;omega);have hl1:([c].length:Int)=1:=rfl;have hsth:zW Tryz.prog 9 (.ptr h.next (i*1)) (.str (r.take m)) h'=some (h'.set h.next (.row ((ps++ [r.take m]).map sdd++List.replicate ((zm c s).length- (i+1)) (.str [])))):=by
    rw[Nat.mul_one,zh hrow yu (by simp[hps];omega) rfl rfl,hput _ (by omega)]
   simp only[go_sem,Nat.reduceEqDiff,↓reduceIte,f0,f1,f2,f3,f9,f10,hm,hneg,hw4,hw5,hl1,z7 Tryz.underlying9,zKN zOT Tryz.underlying9 (show m≤r.length by omega),zEY zOT Tryz.underlying9 (show m+1≤r.length by omega),qk zd yu (show i<(zm c s).length by omega),hsth];refine⟨hlt,ps++ [r.take m],r.drop (m+1),by simp[hps],by rw[hsp,hs1];simp,by simp;omega,rfl,?_,rfl,hext.set (Nat.le_refl _) _⟩;rw[zf (by unfold lim;omega)]
 ·have hie:i=(zm c s).length-1:=by omega
  rw[decide_eq_false (by omega)];have hlast:zm c r= [r]:=by
   have h1:=congrArg List.length hsp;rw[List.length_append,hps,zAs c r] at h1;exact zDj (List.count_eq_zero.1 (by omega))
  have hw6:IntKind.i64.wrap ((i:Int)+1)=(((zm c s).length:Nat):Int):=by rw[zf (by unfold lim;omega)];omega
  have hsth:zW Tryz.prog 9 (.ptr h.next (i*1)) (.str r) h'=some (h'.set h.next (.row ((ps++ [r]).map sdd++List.replicate ((zm c s).length- (i+1)) (.str [])))):=by
   rw[Nat.mul_one,zh hrow yu (by simp[hps];omega) rfl rfl,hput _ (by omega)]
  simp only[go_sem,Nat.reduceEqDiff,↓reduceIte,f0,f1,f2,f3,f9,f10,hw6,qk zd yu (show i<(zm c s).length by omega),hsth,zBU zM9 zd yu (Nat.le_refl (zm c s).length)];have hall:(ps++ [r]).map sdd++List.replicate ((zm c s).length- (i+1)) (.str [])=(zt (zm c s)).flatten:=by
   rw[show(zm c s).length- (i+1)=0 by omega,List.replicate_zero,List.append_nil,zCl,hsp,hlast]
  refine⟨h.next,_,zF _ _ _,(hext.set (Nat.le_refl _) _).del (Nat.le_refl _),?_⟩;rw[zdc zDC (zJ _) hall];exact⟨zu (Nat.zero_le _) _ (yN (sz:=1) yW .no).2,rfl⟩
def zDl:List UInt8:=[97,98,99,100,101,102,103,104,105,106,107,108,109,110,111,112,113,114,115,116,117,118,119,120,121,122,48,49,50,51,52,53,54,55,56,57,45,46]
def ye (s:List UInt8):Bool:=match s with
 | []=>false
 |b::r=> !(decide ((b::r).length>32)||decide ((b.toNat:Int)<97)||decide ((b.toNat:Int)>122)||((b::r:List UInt8)== [97,110,100])||((b::r:List UInt8)== [111,114])||((b::r:List UInt8)== [119,105,116,104]))&&(Lib.trimS (b::r) zDl== [])
def yK (s:List UInt8):List (List UInt8):=if s= [] then [] else zm 10 s
def qI (b:UInt8):Bool:=((b.toNat:Int) !=10)&&(decide ((b.toNat:Int)<32)||decide ((b.toNat:Int)>126))
def qN (s:List UInt8):Int:=if s.length>4096∨(yK s).length>999 then 10 else if s.any qI then 4 else 0
end Go.V
