/- Rules of the machine of abstract values, part 3. No condition. -/
import Derived.Test.YtalepjdbhjinhaaGreatDoorW21
import Derived.Shelf.Strings.Builder1
import Derived.Lib.SlicesCompact
import Derived.Lib.RowBridge
import Derived.Sort.Walk0
import Derived.Test.YtalepjdbhjinhaaGreatDoorW17
set_option linter.all false
namespace Go.V
def zI9 (l:List Int):List (List D):=l.map fun n=>[.int .i64 n]
theorem zGY (l:List Int):(zI9 l).length=l.length:=List.length_map ..
theorem zNX {l:List Int} {i:Nat} (h:i<l.length):(zI9 l)[i]? =some [.int .i64 l[i]]:=by simp[zI9,h]
section
variable {P:Program} {mx:Nat} {found:D} {Y:List (List Int)→(Nat→Prop)→Heap→Prop} {id:Nat} {L:LRec} {ks:List (List Int)} {els:Nat→List (List Int)} {k:Nat} {S:Nat→Prop} {h:Heap}
end
theorem zKa {a b c b':List D} (hl:b'.length=b.length):yu (a++b++c) b' a.length=a++b'++c:=by
 simp[yu,hl]
theorem zGZ {P:Program} {nid:Nat} {t e:TypeId} {z x y:D} {sz:Nat} {h:Heap} (he:ye P t=some e) (hz:qK P e=some z) (hs:szT P e=sz) (hzt:z.notTuple=true) (hzl:z.cells.length=sz) (h0:0<sz) (hlim:sz≤1048576)
  (hxt:x.notTuple=true) (hxl:x.cells.length=sz) (hyt:y.notTuple=true) (hyl:y.cells.length=sz):zU P false nid t 2 [(0,x),(1,y)] h=some (.sl sz [x.cells,y.cells] .full,h):=by
 simp only[zU,he,hz,hs];have hrep:zBT 2 z.cells=z.cells++z.cells:=by simp[zBT]
 have hp1:yu (z.cells++z.cells) x.cells (0*sz)=x.cells++z.cells:=by
  have:=zKa (a:=[]) (b:=z.cells) (c:=z.cells) (b':=x.cells) (by rw[hxl,hzl]);simpa using this
 have hp2:yu (x.cells++z.cells) y.cells (1*sz)=x.cells++y.cells:=by
  have:=zKa (a:=x.cells) (b:=z.cells) (c:=[]) (b':=y.cells) (by rw[hyl,hzl]);rw[Nat.one_mul,←hxl];simpa using this
 rw[if_pos (by simp[hzt,hzl,h0];omega)];simp only[wO,hrep];rw[if_pos (by simp[hxt,hxl,hzl])];simp only[wO,hp1];rw[if_pos (by simp[hyt,hyl,hxl,hzl])];simp only[wO,hp2];have hc:yG sz 2 (x.cells++y.cells)= [x.cells,y.cells]:=by
  simp only[yG];rw[List.take_append_of_le_length (by omega),List.take_of_length_le (by omega),List.drop_append_of_le_length (by omega),List.drop_eq_nil_of_le (by omega),List.nil_append,List.take_of_length_le (by omega)]
 simp[hc]
open Go.RowKit (Below)
open Go.Shelf Go.Proofs
theorem zKb {w0:Base} {G:List Nat} {M:Imm} {ρ:Ren} {h:Heap} {w:World} (hs:Sim w0 G M ρ h w) {id:Nat} {t:TypeId} {a b:D} {ds:List D} {l:Loc} (hi:h.at' id=some (.trow t true (a::ds))) (hl:ρ id=some l) {v:Value} (hv:rel M ρ b v) (hf:b.flat=true):
  Sim w0 G M ρ (h.set id (.trow t true (b::ds))) (w.setCell ⟨l.blk,0,none⟩ v):=by
 obtain⟨l',g1,g2,hM,c,e0,hw,hls,hlen,hcells,hty,hfu⟩:=hs.live id _ hi;rw[hl] at g1;cases g1;have hsz:=hfu rfl;have hw2:(w.setCell ⟨l.blk,0,none⟩ v).heap[l.blk]? =some (.cells (c.setIfInBounds 0 v) e0 (0,0)):=by
  show(w.heap.modify l.blk _)[l.blk]? =_;rw[Array.getElem?_modify,if_pos rfl,hw];rfl
 refine hs.put hi hl rfl rfl rfl (by simp[World.setCell]) (fun k hk=> ?_) (fun o v' e=>by rw[hM o] at e;cases e) ⟨_,hw,fun d=>by simp⟩ ?_
 ·show(w.heap.modify l.blk _)[k]? =_;rw[Array.getElem?_modify,if_neg (fun q=>hk q.symm)]
 ·refine⟨hM,_,e0,hw2,by simpa using hls,by simp only[Array.size_setIfInBounds,List.length_cons] at hlen⊢;omega,fun i d hd=> ?_,hty,fun _=>by simp only[Array.size_setIfInBounds,List.length_cons] at hsz⊢;omega⟩;cases i with
  |zero=>
   simp only[List.getElem?_cons_zero,Option.some.injEq] at hd;subst hd;refine⟨hf,v,?_,hv⟩;rw[Array.getElem?_setIfInBounds];simp only[List.length_cons] at hlen;rw[if_pos rfl,if_pos (by omega)]
  |succ i=>
   obtain⟨k1,u,k2,k3⟩:=hcells (i+1) d (by simpa using hd);exact⟨k1,u,by rw[Array.getElem?_setIfInBounds,if_neg (by omega)];exact k2,k3⟩
theorem zEy {P:Program} {ρ0:Go.Shelf.Ren} (L:Lays.n240 P ρ0) (X:Builder.X72 P ρ0) (he:qV P (ρ0.f 240)=true) {id:Nat} {a d:D} {h:Heap} (hi:h.at' id=some (.trow (ρ0.t 72) true [a,d])) (ha:a= .nilptr∨a= .ptr id 0):
  zA P (ρ0.f 240) [.ptr id 0] h fun r h'=>r= .tuple []∧h'=h.set id (.trow (ρ0.t 72) true [.ptr id 0,d]):=by
 refine⟨he,fun w0 G M ρ w va hg0 hs hfr hr=> ?_⟩;simp only[zl,rel] at hr;obtain⟨v,vs,hva,⟨l,hl,rfl⟩,rfl⟩:=hr;have hva':va= #[.pointer (some ⟨l.blk,0,none⟩)]:=Array.ext' (by simpa using hva);subst hva';obtain⟨l',g1,g2,hM,c,e0,hw,hls,hlen,hcells,hty,hfu⟩:=hs.live id _ hi;rw[hl] at g1;cases g1;have hsz:c.size=2:=hfu rfl;obtain⟨_,u,hu1,hu2⟩:=hcells 0 a rfl;have hc0:w.cell? ⟨l.blk,0,none⟩ =some u:=by simp[World.cell?,hw,hu1]
 have hself:rel M ρ (.ptr id 0) (.pointer (some ⟨l.blk,0,none⟩)):=by simp only[rel];exact⟨l,hl,rfl⟩
 have fin:∀w',Sim w0 G M ρ (h.set id (.trow (ρ0.t 72) true [.ptr id 0,d])) w'→Ret w0 G M ρ (fun r h'=>r= .tuple []∧h'=h.set id (.trow (ρ0.t 72) true [.ptr id 0,d])) (.returned (.tuple #[])) w':=fun w' hS=>
  ⟨.tuple #[],M,ρ, .tuple [],_,rfl,MLe.refl _,RLe.refl _,hS,hfr,by simp only[rel,zl];exact⟨#[],rfl,rfl⟩,rfl,rfl⟩
 rcases ha with rfl|rfl
 ·simp only[rel] at hu2;subst hu2;refine(Any.Builder_copyCheck_fresh L X l.blk w hc0 (by simp[World.shape?,hw,hty,hsz]) (by simp[World.frozen?,hw])).mono fun e w' hq=> ?_;obtain⟨rfl,rfl⟩:=hq;exact fin _ (zKb hs hi hl hself rfl)
 ·simp only[rel] at hu2;obtain⟨l2,hl2,rfl⟩:=hu2;rw[hl] at hl2;cases hl2;refine(Any.Builder_copyCheck_used L X l.blk w hc0).mono fun e w' hq=> ?_;obtain⟨rfl,rfl⟩:=hq;refine fin _ ?_
  have:h.set id (.trow (ρ0.t 72) true [.ptr id 0,d])=h:=zDn hi;rw[this];exact hs
def zL0 (t:TypeId) (args:List D) (hp:Nat→Option Obj):zPh:=
 match args with
 | [x]=>match x with
  | .ptr id off=>match off with
   |0=>match hp id with
    |some (.trow u full cs)=>match full with
     |true=>match cs with
      | [a,d]=>match a with
       | .nilptr=>if Nat.beq u t then some (.tuple [],some (id, .trow t true [.ptr id 0,d])) else none
       | .ptr i o=>if Nat.beq u t&&Nat.beq i id&&Nat.beq o 0 then some (.tuple [],some (id, .trow t true [.ptr id 0,d])) else none
       |_=>none
      |_=>none
     |false=>none
    |_=>none
   |_=>none
  |_=>none
 |_=>none
theorem zOU {P:Program} {ρ0:Go.Shelf.Ren} (L:Lays.n240 P ρ0) (X:Builder.X72 P ρ0) (he:qV P (ρ0.f 240)=true) {args:List D} {h:Heap} {r:D×Option (Nat×Obj)} (hl:zL0 (ρ0.t 72) args h.at'=some r):zA P (ρ0.f 240) args h fun a b=>a=r.1∧b=zZI r.2 h:=by
 unfold zL0 at hl;split at hl
 ·split at hl
  ·split at hl
   ·split at hl
    ·rename_i u full cs hi;split at hl
     ·split at hl
      ·split at hl
       ·split at hl
        ·rename_i hb;cases hl;have e:=Nat.eq_of_beq_eq_true hb;subst e;exact zEy L X he hi (.inl rfl)
        ·cases hl
       ·split at hl
        ·rename_i hb;simp only[Bool.and_eq_true] at hb;cases hl;have e:=Nat.eq_of_beq_eq_true hb.1.1;have e2:=Nat.eq_of_beq_eq_true hb.1.2;have e3:=Nat.eq_of_beq_eq_true hb.2;subst e e2 e3;exact zEy L X he hi (.inr rfl)
        ·cases hl
       ·cases hl
      ·cases hl
     ·cases hl
    ·cases hl
   ·cases hl
  ·cases hl
 ·cases hl
open Go.Proofs
section
variable {P:Program} {m:Bool} {nid:Nat} {h:Heap} {fr:Frm} {k:D→Heap→Prop}
def zcf (P:Program) (t:TypeId) (d:D):Option D:=
 match d with
 | .nilsl=>match P.underlying t with
  |some (.slice _)=>some (.int .i64 0)
  |_=>none
 |_=>none
@[go_sem ↓] theorem zhv (t:TypeId) (x:Operand):qW P m nid (.call ⟨.builtin .cap,#[x],#[t]⟩) (zw fr) h k=onS (zcf P t (zw fr x)) (k · h):=by
 refine zAG rfl ?_;simp only[vop,zAN,zcf,List.map_cons,List.map_nil];cases zw fr x<;>try rfl
 simp only[];cases P.underlying t with
 |none=>rfl
 |some y=>cases y<;>rfl
@[go_sem ↓] theorem zez (t:TypeId) (x:Operand):qW P m nid (.call ⟨.builtin .clear,#[x],#[t]⟩) (zw fr) h k=onH (zCi P t (zw fr x) h) (k qZ ·):=zPo rfl rfl
theorem zTH {t e:TypeId} (hu:P.underlying t=some (.slice e)):zcf P t .nilsl=some (.int .i64 0):=by simp[zcf,hu]
end
abbrev KV:=List (List UInt8×List UInt8)
def ze0 (k:List UInt8):KV→Option (List UInt8)
 | []=>none
 |(k',v)::m=>if k==k' then some v else ze0 k m
def zXL (k v:List UInt8):KV→KV
 | []=>[(k,v)]
 |(k',v')::m=>if k==k' then(k,v)::m else(k',v')::zXL k v m
theorem zJA (k k':List UInt8):eqK [.s] (D.str k).cells (D.str k').cells=some (k==k'):=by
 show(eqK [] [] []).map (k==k'&& ·)=_;simp[eqK]
section
variable {P:Program} {t kt e:TypeId} {id:Nat} {h:Heap} {m:KV}
end
abbrev Str:=List UInt8
theorem zJB (a b:Str):zHB a b=decide (a<b):=bytesLess_eq a b
def yB (l:List Str):List Str:=Lib.compact (l.mergeSort fun x y=>decide (x≤y))
def Inc (l:List Str):Prop:=l.Pairwise (· < ·)
theorem zKc {a b:Str} (h:a≤b) (hn:a≠b):a<b:=by
 rcases Decidable.em (a<b) with q|q
 ·exact q
 ·exact absurd (List.le_antisymm h (List.not_lt.1 q)) hn
theorem zGa {d:Array Str} (hs:∀i j,i≤j→j<d.size→d[i]! ≤d[j]!):∀m,m≤d.size→(∀x,x∈Lib.compactUpTo d m↔∃j,j<m∧d[j]! =x)∧(Lib.compactUpTo d m).Pairwise (· < ·)
 |0,_=>by simp[Lib.compactUpTo]
 |m+1,h=>by
  obtain⟨h1,h2⟩:=zGa hs m (by omega);rw[Lib.compactUpTo_succ];have step:∀x,(∃j,j<m+1∧d[j]! =x)↔(∃j,j<m∧d[j]! =x)∨d[m]! =x:=fun x=>by
   constructor
   ·rintro⟨j,hj,e⟩;rcases Nat.lt_succ_iff_lt_or_eq.1 hj with hj|rfl
    ·exact .inl ⟨j,hj,e⟩
    ·exact .inr e
   ·rintro(⟨j,hj,e⟩ |e)
    ·exact⟨j,by omega,e⟩
    ·exact⟨m,by omega,e⟩
  cases hk:Lib.keeps d m with
  |true=>
   simp only[if_true];refine⟨fun x=> ?_,?_⟩
   ·rw[step,List.mem_append,List.mem_singleton,h1];constructor
    ·rintro(e|e)
     ·exact .inl e
     ·exact .inr e.symm
    ·rintro(e|e)
     ·exact .inl e
     ·exact .inr e.symm
   ·rw[List.pairwise_append];refine⟨h2,List.pairwise_singleton _ _,fun a ha b hb=> ?_⟩;simp only[List.mem_singleton] at hb;subst hb;obtain⟨j,hj,rfl⟩:=(h1 a).1 ha;simp only[Lib.keeps,decide_eq_true_eq] at hk;have hne:d[m]! ≠d[m-1]! :=hk.resolve_left (by omega);have g1:=hs j (m-1) (by omega) (by omega);have g2:=hs (m-1) m (by omega) (by omega);exact List.lt_of_le_of_lt g1 (zKc g2 fun e=>hne e.symm)
  |false=>
   simp only[Bool.false_eq_true,if_false,List.append_nil];refine⟨fun x=> ?_,h2⟩;rw[step,h1];simp only[Lib.keeps,decide_eq_false_iff_not,not_or,Decidable.not_not] at hk;constructor
   ·exact .inl
   ·rintro(e|e)
    ·exact e
    ·exact⟨m-1,by omega,by rw[←hk.2];exact e⟩
theorem zRG:∀a b c:Str,decide (a≤b)=true→decide (b≤c)=true→decide (a≤c)=true:=fun a b c h1 h2=>by
 simp only[decide_eq_true_eq] at *;exact List.le_trans h1 h2
theorem zRH:∀a b:Str,(decide (a≤b)||decide (b≤a))=true:=fun a b=>by
 simp only[Bool.or_eq_true,decide_eq_true_eq];exact List.le_total a b
theorem zKd (l:List Str):(∀x,x∈yB l↔x∈l)∧Inc (yB l):=by
 have hp:(l.mergeSort fun x y=>decide (x≤y)).Pairwise fun a b=>decide (a≤b)=true:=List.pairwise_mergeSort zRG zRH l;have hm:∀x,x∈(l.mergeSort fun x y=>decide (x≤y))↔x∈l:=fun x=>List.mem_mergeSort;unfold yB Lib.compact;generalize(l.mergeSort fun x y=>decide (x≤y))=z at hp hm;have hs:∀i j,i≤j→j<z.toArray.size→z.toArray[i]! ≤z.toArray[j]! :=fun i j hij hj=>by
  have hj':j<z.length:=by simpa using hj
  have hi':i<z.length:=by omega
  have e1:z.toArray[i]! =z[i]:=by simp[hi']
  have e2:z.toArray[j]! =z[j]:=by simp[hj']
  rw[e1,e2];rcases Nat.lt_or_ge i j with q|q
  ·have:=List.pairwise_iff_getElem.1 hp i j hi' hj' q;simpa using this
  ·have:i=j:=by omega
   subst this;exact List.le_refl _
 obtain⟨h1,h2⟩:=zGa hs z.length (by simp);refine⟨fun x=> ?_,h2⟩;rw[h1,←hm];constructor
 ·rintro⟨j,hj,rfl⟩
  have:z.toArray[j]! =z[j]:=by simp[hj]
  rw[this];exact List.getElem_mem hj
 ·intro hx;obtain⟨j,hj,rfl⟩:=List.mem_iff_getElem.1 hx;exact⟨j,hj,by simp[hj]⟩
theorem wI {l:List Str} {x:Str} :x∈yB l↔x∈l:=(zKd l).1 x
theorem zGb (l:List Str):(yB l).length≤l.length:=by
 have:=Lib.compact_length_le (l.mergeSort fun x y=>decide (x≤y));rw[List.length_mergeSort] at this;exact this
def zBN (s:List UInt8):List (List D):=s.map fun b=>[.int .u8 (b.toNat:Int)]
theorem zBj (s:List UInt8):(zBN s).length=s.length:=List.length_map ..
theorem zAT {s:List UInt8} {i:Nat} (h:i<s.length):(zBN s)[i]? =some [.int .u8 (s[i].toNat:Int)]:=by simp[zBN,h]
theorem zEX (s:List UInt8):zAM Tryz.prog 9 113 (.str s)=some (.sl 1 (zBN s) .no):=by
 simp only[zAM,Tryz.underlying9,Tryz.underlying113,Tryz.underlying5,zBN]
set_option maxRecDepth 100000
def zEY (a b:Int):Int:=if a<b then -1 else if a>b then 1 else 0
def orL:List Int→Int
 | []=>0
 |a::l=>if a=0 then orL l else a
theorem zRI (a:Int) (h:Heap):zA Tryz.prog 177 [.int .i64 a] h fun r h'=>h'=h∧r= .bool false:=by
 refine zA.of_fn (g:=zP2) mix Tryz.func177 zZ5 rfl rfl ?_;simp only[Tryz.f177,gJ];simp only[go_sem,Nat.reduceEqDiff,↓reduceIte,bne_self_eq_false,and_self]
theorem zKe (a b:Int) (h:Heap):zA Tryz.prog 122 [.int .i64 a, .int .i64 b] h fun r h'=>h'=h∧r= .int .i64 (zEY a b):=by
 refine zA.of_fn (g:=zP0) mix Tryz.func122 zZz rfl rfl ?_;simp only[Tryz.f122,gJ];simp only[go_sem,Nat.reduceEqDiff,↓reduceIte];refine(zRI a h).mono ?_;rintro r h ⟨rfl,rfl⟩;simp only[go_sem,Nat.reduceEqDiff,↓reduceIte];refine(zRI b h).mono ?_;rintro r h ⟨rfl,rfl⟩;simp only[go_sem,Nat.reduceEqDiff,↓reduceIte];cases e1:decide (a<b) with
 |true=>
  simp only[go_sem,Nat.reduceEqDiff,↓reduceIte];simp[zEY,of_decide_eq_true e1]
 |false=>
  simp only[go_sem,Nat.reduceEqDiff,↓reduceIte];cases e2:decide (a>b) with
  |true=>
   simp only[go_sem,Nat.reduceEqDiff,↓reduceIte];simp[zEY,of_decide_eq_false e1,of_decide_eq_true e2]
  |false=>
   simp only[go_sem,Nat.reduceEqDiff,↓reduceIte];simp[zEY,of_decide_eq_false e1,of_decide_eq_false e2]
theorem zcg {l:List Int} {d:D} (hd:zV 1 (zI9 l) d) (hl:l.length≤1048576) (h:Heap):zA Tryz.prog 121 [d] h fun r h'=>h'=h∧r= .int .i64 (orL l):=by
 refine zA.of_fn (g:=zQz) mix Tryz.func121 za6 rfl rfl ?_;simp only[Tryz.f121,gJ];have hll:((zI9 l).length:Int)=l.length:=by rw[zGY]
 simp only[go_sem,Nat.reduceEqDiff,↓reduceIte,zP hd Tryz.underlying137,hll];refine yJ (fun i fr h'=>fr 3= .int .i64 0∧fr 6=d∧fr 7= .int .i64 l.length∧fr 8= .int .i64 (i:Int)∧h'=h∧orL (l.drop i)=orL l) l.length ?_ ?_
 ·simp only[go_sem,Nat.reduceEqDiff,↓reduceIte,true_and,List.drop_zero]
  trivial
 rintro i fr h' hi ⟨f3,f6,f7,f8,rfl,ho⟩;simp only[go_sem,Nat.reduceEqDiff,↓reduceIte,f3,f6,f7,f8];by_cases hlt:i<l.length
 ·rw[decide_eq_true (by exact_mod_cast hlt)];rw[List.drop_eq_getElem_cons hlt] at ho;simp only[orL] at ho;simp only[go_sem,Nat.reduceEqDiff,↓reduceIte,f3,f6,f7,f8,zF hd zDh zLl (zNX hlt),zS];by_cases h0:l[i]=0
  ·rw[show(l[i] !=0)=false by simp[h0]];simp only[go_sem,Nat.reduceEqDiff,↓reduceIte,f3,f6,f7,f8];rw[if_pos h0] at ho;exact⟨hlt,by rw[zh (by unfold lim;omega)],ho⟩
  ·rw[show(l[i] !=0)=true by simp[h0]];simp only[go_sem,Nat.reduceEqDiff,↓reduceIte];rw[if_neg h0] at ho;rw[ho]
 ·have hie:i=l.length:=by omega
  subst hie;rw[decide_eq_false (by omega)];simp only[go_sem,Nat.reduceEqDiff,↓reduceIte,f3];rw[List.drop_length] at ho;rw[←ho];trivial
def zL1 (n:Nat):Bool:= !(decide (97≤n)&&decide (n≤122)||decide (48≤n)&&decide (n≤57)||decide (n=46)||decide (n=95)||decide (n=45))
theorem zL2 (n:Nat) (h:Heap):zA Tryz.prog 164 [.int .i32 n] h fun r h'=>h'=h∧r= .bool (zL1 n):=by
 refine zA.of_fn (g:=zP1) mix Tryz.func164 zZ4 rfl rfl ?_;simp only[Tryz.f164,gJ];have key:∀b1 b2 b3 b4 b5 b6 b7:Bool,decide ((n:Int)≥97)=b1→decide ((n:Int)≤122)=b2→decide ((n:Int)≥48)=b3→decide ((n:Int)≤57)=b4→((n:Int)==46)=b5→((n:Int)==95)=b6→((n:Int)==45)=b7→zL1 n= !(b1&&b2||b3&&b4||b5||b6||b7):=by
  rintro _ _ _ _ _ _ _ rfl rfl rfl rfl rfl rfl rfl;have e5:((n:Int)==46)=decide (n=46):=by by_cases e:n=46<;>simp[e]<;>omega
  have e6:((n:Int)==95)=decide (n=95):=by by_cases e:n=95<;>simp[e]<;>omega
  have e7:((n:Int)==45)=decide (n=45):=by by_cases e:n=45<;>simp[e]<;>omega
  have e1:decide ((n:Int)≥97)=decide (97≤n):=by by_cases e:97≤n<;>simp[e]<;>omega
  have e2:decide ((n:Int)≤122)=decide (n≤122):=by by_cases e:n≤122<;>simp[e]<;>omega
  have e3:decide ((n:Int)≥48)=decide (48≤n):=by by_cases e:48≤n<;>simp[e]<;>omega
  have e4:decide ((n:Int)≤57)=decide (n≤57):=by by_cases e:n≤57<;>simp[e]<;>omega
  rw[e1,e2,e3,e4,e5,e6,e7];rfl
 cases h1:decide ((n:Int)≥97)<;>cases h2:decide ((n:Int)≤122)<;>cases h3:decide ((n:Int)≥48)<;>cases h4:decide ((n:Int)≤57)<;>cases h5:((n:Int)==46)<;>cases h6:((n:Int)==95)<;>cases h7:((n:Int)==45)<;>rw[key _ _ _ _ _ _ _ h1 h2 h3 h4 h5 h6 h7] <;>
  simp only[go_sem,Nat.reduceEqDiff,↓reduceIte,vun,h1,h2,h3,h4,h5,h6,h7]<;>rfl
def zJC (s:List UInt8):Bool:=match s with
 | []=>false
 |b::r=> !(decide ((b::r).length>32)||(b==46||(b==45||wT zL1 (b::r) ((b::r).length+1) 0)))
theorem zOV {s:List UInt8} (hl:s.length≤1048576) (h:Heap):zA Tryz.prog 109 [.str s] h fun r h'=>h'=h∧r= .bool (zJC s):=by
 refine zA.of_fn (g:=zQy) mix Tryz.func109 za5 rfl rfl ?_;simp only[Tryz.f109,gJ];cases s with
 |nil=>simp only[go_sem,Nat.reduceEqDiff,↓reduceIte,show(([]:List UInt8)== [])=true from rfl,zJC]
 |cons b r=>
  have h0:((b::r:List UInt8)== [])=false:=rfl;have hi:zAX Tryz.prog 9 (.str (b::r)) (.int .i64 0)=some (.int .u8 b.toNat):=wN (n:=0) Tryz.underlying9 rfl;have e1:((b.toNat:Int)==46)=(b==46):=by
   by_cases e:b=46
   ·subst e;rfl
   ·rw[beq_eq_false_iff_ne.2 e,beq_eq_false_iff_ne.2 fun h=>e (UInt8.toNat_inj.1 (by rw[show(46:UInt8).toNat=46 from rfl];omega))]
  have e2:((b.toNat:Int)==45)=(b==45):=by
   by_cases e:b=45
   ·subst e;rfl
   ·rw[beq_eq_false_iff_ne.2 e,beq_eq_false_iff_ne.2 fun h=>e (UInt8.toNat_inj.1 (by rw[show(45:UInt8).toNat=45 from rfl];omega))]
  have e0:decide (((b::r).length:Int)>32)=decide ((b::r).length>32):=by
   by_cases e:(b::r).length>32
   ·rw[decide_eq_true e,decide_eq_true (by omega)]
   ·rw[decide_eq_false e,decide_eq_false (by omega)]
  cases h1:decide ((b::r).length>32) with
  |true=>
   simp only[go_sem,Nat.reduceEqDiff,↓reduceIte,h0,zu Tryz.underlying9,e0,h1];simp only[zJC,h1];rfl
  |false=>
  cases h2:(b==46) with
  |true=>
   simp only[go_sem,Nat.reduceEqDiff,↓reduceIte,h0,zu Tryz.underlying9,e0,h1,hi,e1,h2];simp only[zJC,h1,h2];rfl
  |false=>
  cases h3:(b==45) with
  |true=>
   simp only[go_sem,Nat.reduceEqDiff,↓reduceIte,h0,zu Tryz.underlying9,e0,h1,hi,e1,e2,h2,h3];simp only[zJC,h1,h2,h3];rfl
  |false=>
   simp only[go_sem,Nat.reduceEqDiff,↓reduceIte,h0,zu Tryz.underlying9,e0,h1,hi,e1,e2,h2,h3];refine(zGX hl (fun n _ h=>zL2 n h) _).mono ?_;rintro q h2' ⟨rfl,rfl⟩;simp only[vun,go_sem,Nat.reduceEqDiff,↓reduceIte,zJC,h1,h2,h3]
def zKf (s:List UInt8):Int:=if s.length>128∨(zd 47 s).length>8∨(zd 47 s).any (fun p=> !zJC p)=true then 2 else 0
theorem zEZ {s:List UInt8} (hl:s.length≤1048576) (h:Heap):zA Tryz.prog 62 [.str s] h fun r h'=>h'=h∧r= .int .i64 (zKf s):=by
 refine zA.of_fn (g:=zWv) mix Tryz.func62 zgF rfl rfl ?_;simp only[Tryz.f62,gJ];simp only[go_sem,Nat.reduceEqDiff,↓reduceIte];refine(zLz hl 47 _).mono ?_;rintro r h2 ⟨rfl,rfl⟩;have hlen:=zDp 47 s;have e0:decide ((s.length:Int)>128)=decide (s.length>128):=by
  by_cases e:s.length>128
  ·rw[decide_eq_true e,decide_eq_true (by omega)]
  ·rw[decide_eq_false e,decide_eq_false (by omega)]
 have e1:decide (((zy (zd 47 s)).length:Int)>8)=decide ((zd 47 s).length>8):=by
  rw[zH];by_cases e:(zd 47 s).length>8
  ·rw[decide_eq_true e,decide_eq_true (by omega)]
  ·rw[decide_eq_false e,decide_eq_false (by omega)]
 cases h1:decide (s.length>128) with
 |true=>
  simp only[go_sem,Nat.reduceEqDiff,↓reduceIte,zu Tryz.underlying9,e0,h1];rw[zKf,if_pos (.inl (of_decide_eq_true h1))]
 |false=>
 have g1:=of_decide_eq_false h1;cases h3:decide ((zd 47 s).length>8) with
 |true=>
  simp only[go_sem,Nat.reduceEqDiff,↓reduceIte,zu Tryz.underlying9,zP (zV.mk .no) Tryz.underlying31,e0,e1,h1,h3];rw[zKf,if_pos (.inr (.inl (of_decide_eq_true h3)))]
 |false=>
 have g3:=of_decide_eq_false h3;simp only[go_sem,Nat.reduceEqDiff,↓reduceIte,zu Tryz.underlying9,zP (zV.mk .no) Tryz.underlying31,e0,e1,h1,h3];refine(zGW (zV.mk .no) (by omega) (p:=fun p=> !zJC p) (fun p hp h=> ?_) _).mono ?_
 ·refine zA.of_fn (g:=zQp) mix Tryz.func108 zar rfl rfl ?_;simp only[Tryz.f108,gJ];have:=zCs 47 s p hp;simp only[go_sem,Nat.reduceEqDiff,↓reduceIte];refine(zOV (by omega) _).mono ?_;rintro r h2 ⟨rfl,rfl⟩;simp only[vun,go_sem,Nat.reduceEqDiff,↓reduceIte]
 ·rintro r h2 ⟨rfl,rfl⟩;cases h4:(zd 47 s).any (fun p=> !zJC p) with
  |true=>
   simp only[go_sem,Nat.reduceEqDiff,↓reduceIte];rw[zKf,if_pos (.inr (.inr h4))]
  |false=>
   simp only[go_sem,Nat.reduceEqDiff,↓reduceIte];rw[zKf,if_neg (fun h=>h.elim g1 fun h=>h.elim g3 fun h=>by rw[h4] at h;cases h)]
end Go.V
