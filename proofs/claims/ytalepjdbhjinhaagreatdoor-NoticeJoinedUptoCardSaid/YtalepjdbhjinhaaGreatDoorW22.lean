/- Rules of the machine of abstract values, part 3. No condition. -/
import Derived.Test.YtalepjdbhjinhaaGreatDoorW21
import Derived.Shelf.Strings.Builder1
import Derived.Lib.SlicesCompact
import Derived.Lib.RowBridge
import Derived.Sort.Walk0
import Derived.Test.YtalepjdbhjinhaaGreatDoorW17
set_option linter.all false
namespace Go.V
def zKO (l:List Int):List (List D):=l.map fun n=>[.int .i64 n]
theorem zHW (l:List Int):(zKO l).length=l.length:=List.length_map ..
theorem zO3 {l:List Int} {i:Nat} (h:i<l.length):(zKO l)[i]? =some [.int .i64 l[i]]:=by simp[zKO,h]
section
variable {P:Program} {mx:Nat} {found:D} {Y:List (List Int)→(Nat→Prop)→Heap→Prop} {id:Nat} {L:LRec} {ks:List (List Int)} {els:Nat→List (List Int)} {k:Nat} {S:Nat→Prop} {h:Heap}
end
theorem zLv {a b c b':List D} (hl:b'.length=b.length):y8 (a++b++c) b' a.length=a++b'++c:=by
 simp[y8,hl]
theorem zBI {P:Program} {nid:Nat} {t e:TypeId} {z x y:D} {sz:Nat} {h:Heap} (he:yr P t=some e) (hz:qS P e=some z) (hs:szT P e=sz) (hzt:z.notTuple=true) (hzl:z.cells.length=sz) (h0:0<sz) (hlim:sz≤1048576)
  (hxt:x.notTuple=true) (hxl:x.cells.length=sz) (hyt:y.notTuple=true) (hyl:y.cells.length=sz):zS P false nid t 2 [(0,x),(1,y)] h=some (.sl sz [x.cells,y.cells] .full,h):=by
 simp only[zS,he,hz,hs];have hrep:zBW 2 z.cells=z.cells++z.cells:=by simp[zBW]
 have hp1:y8 (z.cells++z.cells) x.cells (0*sz)=x.cells++z.cells:=by
  have:=zLv (a:=[]) (b:=z.cells) (c:=z.cells) (b':=x.cells) (by rw[hxl,hzl]);simpa using this
 have hp2:y8 (x.cells++z.cells) y.cells (1*sz)=x.cells++y.cells:=by
  have:=zLv (a:=x.cells) (b:=z.cells) (c:=[]) (b':=y.cells) (by rw[hyl,hzl]);rw[Nat.one_mul,←hxl];simpa using this
 rw[if_pos (by simp[hzt,hzl,h0];omega)];simp only[wl,hrep];rw[if_pos (by simp[hxt,hxl,hzl])];simp only[wl,hp1];rw[if_pos (by simp[hyt,hyl,hxl,hzl])];simp only[wl,hp2];have hc:yT sz 2 (x.cells++y.cells)= [x.cells,y.cells]:=by
  simp only[yT];rw[List.take_append_of_le_length (by omega),List.take_of_length_le (by omega),List.drop_append_of_le_length (by omega),List.drop_eq_nil_of_le (by omega),List.nil_append,List.take_of_length_le (by omega)]
 simp[hc]
open Go.RowKit (Below)
open Go.Shelf Go.Proofs
theorem zLw {w0:Base} {G:List Nat} {M:Imm} {ρ:Ren} {h:Heap} {w:World} (hs:Sim w0 G M ρ h w) {id:Nat} {t:TypeId} {a b:D} {ds:List D} {l:Loc} (hi:h.at' id=some (.trow t true (a::ds))) (hl:ρ id=some l) {v:Value} (hv:rel M ρ b v) (hf:b.flat=true):
  Sim w0 G M ρ (h.set id (.trow t true (b::ds))) (w.setCell ⟨l.blk,0,none⟩ v):=by
 obtain⟨l',g1,g2,hM,c,e0,hw,hls,hlen,hcells,hty,hfu⟩:=hs.live id _ hi;rw[hl] at g1;cases g1;have hsz:=hfu rfl;have hw2:(w.setCell ⟨l.blk,0,none⟩ v).heap[l.blk]? =some (.cells (c.setIfInBounds 0 v) e0 (0,0)):=by
  show(w.heap.modify l.blk _)[l.blk]? =_;rw[Array.getElem?_modify,if_pos rfl,hw];rfl
 refine hs.put hi hl rfl rfl rfl (by simp[World.setCell]) (fun k hk=> ?_) (fun o v' e=>by rw[hM o] at e;cases e) ⟨_,hw,fun d=>by simp⟩ ?_
 ·show(w.heap.modify l.blk _)[k]? =_;rw[Array.getElem?_modify,if_neg (fun q=>hk q.symm)]
 ·refine⟨hM,_,e0,hw2,by simpa using hls,by simp only[Array.size_setIfInBounds,List.length_cons] at hlen⊢;omega,fun i d hd=> ?_,hty,fun _=>by simp only[Array.size_setIfInBounds,List.length_cons] at hsz⊢;omega⟩;cases i with
  |zero=>
   simp only[List.getElem?_cons_zero,Option.some.injEq] at hd;subst hd;refine⟨hf,v,?_,hv⟩;rw[Array.getElem?_setIfInBounds];simp only[List.length_cons] at hlen;rw[if_pos rfl,if_pos (by omega)]
  |succ i=>
   obtain⟨k1,u,k2,k3⟩:=hcells (i+1) d (by simpa using hd);exact⟨k1,u,by rw[Array.getElem?_setIfInBounds,if_neg (by omega)];exact k2,k3⟩
theorem zCn {P:Program} {ρ0:Go.Shelf.Ren} (L:Lays.n240 P ρ0) (X:Builder.X72 P ρ0) (he:qV P (ρ0.f 240)=true) {id:Nat} {a d:D} {h:Heap} (hi:h.at' id=some (.trow (ρ0.t 72) true [a,d])) (ha:a= .nilptr∨a= .ptr id 0):
  zA P (ρ0.f 240) [.ptr id 0] h fun r h'=>r= .tuple []∧h'=h.set id (.trow (ρ0.t 72) true [.ptr id 0,d]):=by
 refine⟨he,fun w0 G M ρ w va hg0 hs hfr hr=> ?_⟩;simp only[zy,rel] at hr;obtain⟨v,vs,hva,⟨l,hl,rfl⟩,rfl⟩:=hr;have hva':va= #[.pointer (some ⟨l.blk,0,none⟩)]:=Array.ext' (by simpa using hva);subst hva';obtain⟨l',g1,g2,hM,c,e0,hw,hls,hlen,hcells,hty,hfu⟩:=hs.live id _ hi;rw[hl] at g1;cases g1;have hsz:c.size=2:=hfu rfl;obtain⟨_,u,hu1,hu2⟩:=hcells 0 a rfl;have hc0:w.cell? ⟨l.blk,0,none⟩ =some u:=by simp[World.cell?,hw,hu1]
 have hself:rel M ρ (.ptr id 0) (.pointer (some ⟨l.blk,0,none⟩)):=by simp only[rel];exact⟨l,hl,rfl⟩
 have fin:∀w',Sim w0 G M ρ (h.set id (.trow (ρ0.t 72) true [.ptr id 0,d])) w'→Ret w0 G M ρ (fun r h'=>r= .tuple []∧h'=h.set id (.trow (ρ0.t 72) true [.ptr id 0,d])) (.returned (.tuple #[])) w':=fun w' hS=>
  ⟨.tuple #[],M,ρ, .tuple [],_,rfl,MLe.refl _,RLe.refl _,hS,hfr,by simp only[rel,zy];exact⟨#[],rfl,rfl⟩,rfl,rfl⟩
 rcases ha with rfl|rfl
 ·simp only[rel] at hu2;subst hu2;refine(Any.Builder_copyCheck_fresh L X l.blk w hc0 (by simp[World.shape?,hw,hty,hsz]) (by simp[World.frozen?,hw])).mono fun e w' hq=> ?_;obtain⟨rfl,rfl⟩:=hq;exact fin _ (zLw hs hi hl hself rfl)
 ·simp only[rel] at hu2;obtain⟨l2,hl2,rfl⟩:=hu2;rw[hl] at hl2;cases hl2;refine(Any.Builder_copyCheck_used L X l.blk w hc0).mono fun e w' hq=> ?_;obtain⟨rfl,rfl⟩:=hq;refine fin _ ?_
  have:h.set id (.trow (ρ0.t 72) true [.ptr id 0,d])=h:=zEX hi;rw[this];exact hs
def zNQ (t:TypeId) (args:List D) (hp:Nat→Option Obj):zRN:=
 match args with
 | [x]=>match x with
  | .ptr id off=>match off with
   |0=>match hp id with
    |some (.trow u full cs)=>match full with
     |true=>match cs with
      | [a,d]=>match a with
       | .nilptr=>if Nat.beq u t then some (.tuple [],some (id, .trow t true [.ptr id 0,d])) else none
       | .ptr i o=>if Nat.beq u t&&Nat.beq i id&&Nat.beq o 0 then some (.tuple [],some (id, .trow t true [.ptr id 0,d])) else none
       |_=>none
      |_=>none
     |false=>none
    |_=>none
   |_=>none
  |_=>none
 |_=>none
theorem zP3 {P:Program} {ρ0:Go.Shelf.Ren} (L:Lays.n240 P ρ0) (X:Builder.X72 P ρ0) (he:qV P (ρ0.f 240)=true) {args:List D} {h:Heap} {r:D×Option (Nat×Obj)} (hl:zNQ (ρ0.t 72) args h.at'=some r):zA P (ρ0.f 240) args h fun a b=>a=r.1∧b=zba r.2 h:=by
 unfold zNQ at hl;split at hl
 ·split at hl
  ·split at hl
   ·split at hl
    ·rename_i u full cs hi;split at hl
     ·split at hl
      ·split at hl
       ·split at hl
        ·rename_i hb;cases hl;have e:=Nat.eq_of_beq_eq_true hb;subst e;exact zCn L X he hi (.inl rfl)
        ·cases hl
       ·split at hl
        ·rename_i hb;simp only[Bool.and_eq_true] at hb;cases hl;have e:=Nat.eq_of_beq_eq_true hb.1.1;have e2:=Nat.eq_of_beq_eq_true hb.1.2;have e3:=Nat.eq_of_beq_eq_true hb.2;subst e e2 e3;exact zCn L X he hi (.inr rfl)
        ·cases hl
       ·cases hl
      ·cases hl
     ·cases hl
    ·cases hl
   ·cases hl
  ·cases hl
 ·cases hl
open Go.Proofs
section
variable {P:Program} {m:Bool} {nid:Nat} {h:Heap} {fr:Frm} {k:D→Heap→Prop}
def zeu (P:Program) (t:TypeId) (d:D):Option D:=
 match d with
 | .nilsl=>match P.underlying t with
  |some (.slice _)=>some (.int .i64 0)
  |_=>none
 |_=>none
@[go_sem ↓] theorem zjz (t:TypeId) (x:Operand):qn P m nid (.call ⟨.builtin .cap,#[x],#[t]⟩) (zz fr) h k=onS (zeu P t (zz fr x)) (k · h):=by
 refine zAB rfl ?_;simp only[vop,zAT,zeu,List.map_cons,List.map_nil];cases zz fr x<;>try rfl
 simp only[];cases P.underlying t with
 |none=>rfl
 |some y=>cases y<;>rfl
@[go_sem ↓] theorem zhI (t:TypeId) (x:Operand):qn P m nid (.call ⟨.builtin .clear,#[x],#[t]⟩) (zz fr) h k=onH (zBj P t (zz fr x) h) (k wA ·):=zRU rfl rfl
theorem zKP {t e:TypeId} (hu:P.underlying t=some (.slice e)):zeu P t .nilsl=some (.int .i64 0):=by simp[zeu,hu]
end
abbrev KV:=List (List UInt8×List UInt8)
def kvD (m:KV):List (D×D):=m.map fun p=>(.str p.1, .str p.2)
def wQ (k:List UInt8):KV→Option (List UInt8)
 | []=>none
 |(k',v)::m=>if k==k' then some v else wQ k m
def zDm (k v:List UInt8):KV→KV
 | []=>[(k,v)]
 |(k',v')::m=>if k==k' then(k,v)::m else(k',v')::zDm k v m
theorem zGb (p:List UInt8×List UInt8) (m:KV):kvD (p::m)=(.str p.1, .str p.2)::kvD m:=rfl
theorem zCo (k k':List UInt8):eqK [.s] (D.str k).cells (D.str k').cells=some (k==k'):=by
 show(eqK [] [] []).map (k==k'&& ·)=_;simp[eqK]
theorem zKQ (k:List UInt8):∀m:KV,zBX [.s] (.str k) (kvD m)=some ((wQ k m).map .str)
 | []=>rfl
 |(k',v)::m=>by
  have ih:=zKQ k m;rw[zGb,zBX,zCo];cases h:(k==k') with
  |true=>simp[wQ,h]
  |false=>simp only[wQ,h,ih];rfl
theorem zSy (k v:List UInt8):∀m:KV,zN4 [.s] (.str k) (.str v) (kvD m)=some (kvD (zDm k v m))
 | []=>rfl
 |(k',v')::m=>by
  have ih:=zSy k v m;rw[zGb,zN4,zCo];cases h:(k==k') with
  |true=>simp[zDm,h,zGb]
  |false=>simp[zDm,h,zGb,ih]
theorem zLx (m:KV):(kvD m).all (fun x=>zT false x.1)=true:=by
 rw[List.all_eq_true];intro x hx;obtain⟨p,_,rfl⟩:=List.mem_map.1 hx;rfl
theorem zEa (k k' v:List UInt8):∀m:KV,wQ k (zDm k' v m)=if k==k' then some v else wQ k m
 | []=>by simp[zDm,wQ]
 |(k2,v2)::m=>by
  have ih:=zEa k k' v m;simp only[zDm];by_cases h:k'=k2
  ·subst h;simp only[beq_self_eq_true,if_true,wQ];by_cases g:k=k'
   ·subst g;simp
   ·simp[g]
  ·have hb:(k'==k2)=false:=by simp[h]
   simp only[hb,Bool.false_eq_true,if_false,wQ,ih];by_cases g:k=k2
   ·subst g
    have:(k==k')=false:=by simp;exact fun e=>h e.symm
    simp[this]
   ·simp[g]
section
variable {P:Program} {t kt e:TypeId} {id:Nat} {h:Heap} {m:KV}
theorem zI8 (hi:h.at' id=some (.map (kvD m))) (hm:zN5 P t=some (kt,e)) (hk:zN6 P kt=some (false,[.s])) (hz:qS P e=some (.str [])) (k:List UInt8) (ok:Bool):
  wB P t (.map id) (.str k) ok h=some (zCO ok (.str []) ((wQ k m).map .str)):=by
 simp only[wB,hm,hk,hz,zID,hi,zCX,zLx,zCo,zKQ,show zT false (.str k)=true from rfl,Option.isSome_some,Bool.and_self,if_true]
theorem zKR (hi:h.at' id=some (.map (kvD m))) (hm:zN5 P t=some (kt,e)) (hk:zN6 P kt=some (false,[.s])) (k v:List UInt8):
  yU P t (.map id) (.str k) (.str v) h=some (h.set id (.map (kvD (zDm k v m)))):=by
 simp only[yU,hm,hk,hi,zLx,zCo,zKQ,zSy,show zT false (.str k)=true from rfl,Option.isSome_some,Bool.and_self,if_true]
theorem zP4 {a b:TypeId} {es:List (D×D)} (hi:h.at' id=some (.map es)) (hu:P.underlying t=some (.map a b)):zBj P t (.map id) h=some (h.set id (.map [])):=by
 simp only[zBj,hu,hi]
end
def zev (P:Program) (h0:Heap) (f:D) (args:List D) (k:D→Prop):Prop:=∃d,(∀h',HLe h0 h'→zIJ P f args h' fun d' h''=>d'=d∧h''=h')∧k d
@[congr] theorem zbF {P:Program} {h0:Heap} {f f':D} {args args':List D} {k:D→Prop} (hf:f=f') (ha:args=args'):zev P h0 f args k=zev P h0 f' args' k:=by rw[hf,ha]
@[go_sem ↓] theorem zZa {P:Program} {h0:Heap} {fr:Frm} (f:Operand) (args:List Operand) (ats:Array TypeId) (k:D→Prop):zLq P h0 (.call ⟨.value f,args.toArray,ats⟩) (zz fr) k=zev P h0 (zz fr f) (args.map (zz fr)) k:=(rfl)
theorem zFJ {P:Program} {h0:Heap} {g:FuncId} {args:List D} {k:D→Prop} (d:D) (hv:∀h',zA P g args h' fun r h''=>h''=h'∧r=d) (hk:k d):zev P h0 (.fn (.func g) [] []) args k:=
 ⟨d,fun h' _=>by
  rw[zX8,List.nil_append,List.append_nil];exact(hv h').mono fun _ _ e=>⟨e.2,e.1⟩,hk⟩
abbrev Str:=List UInt8
theorem zFK (a b:Str):zIB a b=decide (a<b):=bytesLess_eq a b
def zV (l:List Str):List Str:=Lib.compact (l.mergeSort fun x y=>decide (x≤y))
def Inc (l:List Str):Prop:=l.Pairwise (· < ·)
theorem zFt {a b:Str} (h:a≤b) (hn:a≠b):a<b:=by
 rcases Decidable.em (a<b) with q|q
 ·exact q
 ·exact absurd (List.le_antisymm h (List.not_lt.1 q)) hn
theorem zEb (a:Str):¬a<a:=List.lt_irrefl a
theorem zFu {a b c:Str} (h:a<b) (g:b<c):a<c:=List.lt_trans h g
theorem zHX {d:Array Str} (hs:∀i j,i≤j→j<d.size→d[i]! ≤d[j]!):∀m,m≤d.size→(∀x,x∈Lib.compactUpTo d m↔∃j,j<m∧d[j]! =x)∧(Lib.compactUpTo d m).Pairwise (· < ·)
 |0,_=>by simp[Lib.compactUpTo]
 |m+1,h=>by
  obtain⟨h1,h2⟩:=zHX hs m (by omega);rw[Lib.compactUpTo_succ];have step:∀x,(∃j,j<m+1∧d[j]! =x)↔(∃j,j<m∧d[j]! =x)∨d[m]! =x:=fun x=>by
   constructor
   ·rintro⟨j,hj,e⟩;rcases Nat.lt_succ_iff_lt_or_eq.1 hj with hj|rfl
    ·exact .inl ⟨j,hj,e⟩
    ·exact .inr e
   ·rintro(⟨j,hj,e⟩ |e)
    ·exact⟨j,by omega,e⟩
    ·exact⟨m,by omega,e⟩
  cases hk:Lib.keeps d m with
  |true=>
   simp only[if_true];refine⟨fun x=> ?_,?_⟩
   ·rw[step,List.mem_append,List.mem_singleton,h1];constructor
    ·rintro(e|e)
     ·exact .inl e
     ·exact .inr e.symm
    ·rintro(e|e)
     ·exact .inl e
     ·exact .inr e.symm
   ·rw[List.pairwise_append];refine⟨h2,List.pairwise_singleton _ _,fun a ha b hb=> ?_⟩;simp only[List.mem_singleton] at hb;subst hb;obtain⟨j,hj,rfl⟩:=(h1 a).1 ha;simp only[Lib.keeps,decide_eq_true_eq] at hk;have hne:d[m]! ≠d[m-1]! :=hk.resolve_left (by omega);have g1:=hs j (m-1) (by omega) (by omega);have g2:=hs (m-1) m (by omega) (by omega);exact List.lt_of_le_of_lt g1 (zFt g2 fun e=>hne e.symm)
  |false=>
   simp only[Bool.false_eq_true,if_false,List.append_nil];refine⟨fun x=> ?_,h2⟩;rw[step,h1];simp only[Lib.keeps,decide_eq_false_iff_not,not_or,Decidable.not_not] at hk;constructor
   ·exact .inl
   ·rintro(e|e)
    ·exact e
    ·exact⟨m-1,by omega,by rw[←hk.2];exact e⟩
theorem zSz:∀a b c:Str,decide (a≤b)=true→decide (b≤c)=true→decide (a≤c)=true:=fun a b c h1 h2=>by
 simp only[decide_eq_true_eq] at *;exact List.le_trans h1 h2
theorem zS0:∀a b:Str,(decide (a≤b)||decide (b≤a))=true:=fun a b=>by
 simp only[Bool.or_eq_true,decide_eq_true_eq];exact List.le_total a b
theorem zFv (l:List Str):(∀x,x∈zV l↔x∈l)∧Inc (zV l):=by
 have hp:(l.mergeSort fun x y=>decide (x≤y)).Pairwise fun a b=>decide (a≤b)=true:=List.pairwise_mergeSort zSz zS0 l;have hm:∀x,x∈(l.mergeSort fun x y=>decide (x≤y))↔x∈l:=fun x=>List.mem_mergeSort;unfold zV Lib.compact;generalize(l.mergeSort fun x y=>decide (x≤y))=z at hp hm;have hs:∀i j,i≤j→j<z.toArray.size→z.toArray[i]! ≤z.toArray[j]! :=fun i j hij hj=>by
  have hj':j<z.length:=by simpa using hj
  have hi':i<z.length:=by omega
  have e1:z.toArray[i]! =z[i]:=by simp[hi']
  have e2:z.toArray[j]! =z[j]:=by simp[hj']
  rw[e1,e2];rcases Nat.lt_or_ge i j with q|q
  ·have:=List.pairwise_iff_getElem.1 hp i j hi' hj' q;simpa using this
  ·have:i=j:=by omega
   subst this;exact List.le_refl _
 obtain⟨h1,h2⟩:=zHX hs z.length (by simp);refine⟨fun x=> ?_,h2⟩;rw[h1,←hm];constructor
 ·rintro⟨j,hj,rfl⟩
  have:z.toArray[j]! =z[j]:=by simp[hj]
  rw[this];exact List.getElem_mem hj
 ·intro hx;obtain⟨j,hj,rfl⟩:=List.mem_iff_getElem.1 hx;exact⟨j,hj,by simp[hj]⟩
theorem zl {l:List Str} {x:Str} :x∈zV l↔x∈l:=(zFv l).1 x
theorem zDn (l:List Str):Inc (zV l):=(zFv l).2
theorem zCF (l:List Str):(zV l).length≤l.length:=by
 have:=Lib.compact_length_le (l.mergeSort fun x y=>decide (x≤y));rw[List.length_mergeSort] at this;exact this
def zBv (s:List UInt8):List (List D):=s.map fun b=>[.int .u8 (b.toNat:Int)]
theorem zCG (s:List UInt8):(zBv s).length=s.length:=List.length_map ..
theorem zAy {s:List UInt8} {i:Nat} (h:i<s.length):(zBv s)[i]? =some [.int .u8 (s[i].toNat:Int)]:=by simp[zBv,h]
theorem zFL (s:List UInt8):zAo Tryz.prog 9 113 (.str s)=some (.sl 1 (zBv s) .no):=by
 simp only[zAo,Tryz.underlying9,Tryz.underlying113,Tryz.underlying5,zBv]
set_option maxRecDepth 100000
def zFM (a b:Int):Int:=if a<b then -1 else if a>b then 1 else 0
def orL:List Int→Int
 | []=>0
 |a::l=>if a=0 then orL l else a
theorem zS1 (a:Int) (h:Heap):zA Tryz.prog 177 [.int .i64 a] h fun r h'=>h'=h∧r= .bool false:=by
 refine zA.of_fn (g:=zRi) mix Tryz.func177 zcO rfl rfl ?_;simp only[Tryz.f177,gJ];simp only[go_sem,Nat.reduceEqDiff,↓reduceIte,bne_self_eq_false,and_self]
theorem zLy (a b:Int) (h:Heap):zA Tryz.prog 122 [.int .i64 a, .int .i64 b] h fun r h'=>h'=h∧r= .int .i64 (zFM a b):=by
 refine zA.of_fn (g:=zRg) mix Tryz.func122 zcI rfl rfl ?_;simp only[Tryz.f122,gJ];simp only[go_sem,Nat.reduceEqDiff,↓reduceIte];refine(zS1 a h).mono ?_;rintro r h ⟨rfl,rfl⟩;simp only[go_sem,Nat.reduceEqDiff,↓reduceIte];refine(zS1 b h).mono ?_;rintro r h ⟨rfl,rfl⟩;simp only[go_sem,Nat.reduceEqDiff,↓reduceIte];cases e1:decide (a<b) with
 |true=>
  simp only[go_sem,Nat.reduceEqDiff,↓reduceIte];simp[zFM,of_decide_eq_true e1]
 |false=>
  simp only[go_sem,Nat.reduceEqDiff,↓reduceIte];cases e2:decide (a>b) with
  |true=>
   simp only[go_sem,Nat.reduceEqDiff,↓reduceIte];simp[zFM,of_decide_eq_false e1,of_decide_eq_true e2]
  |false=>
   simp only[go_sem,Nat.reduceEqDiff,↓reduceIte];simp[zFM,of_decide_eq_false e1,of_decide_eq_false e2]
theorem zew {l:List Int} {d:D} (hd:zX 1 (zKO l) d) (hl:l.length≤1048576) (h:Heap):zA Tryz.prog 121 [d] h fun r h'=>h'=h∧r= .int .i64 (orL l):=by
 refine zA.of_fn (g:=zSf) mix Tryz.func121 zdL rfl rfl ?_;simp only[Tryz.f121,gJ];have hll:((zKO l).length:Int)=l.length:=by rw[zHW]
 simp only[go_sem,Nat.reduceEqDiff,↓reduceIte,zP hd Tryz.underlying137,hll];refine yG (fun i fr h'=>fr 3= .int .i64 0∧fr 6=d∧fr 7= .int .i64 l.length∧fr 8= .int .i64 (i:Int)∧h'=h∧orL (l.drop i)=orL l) l.length ?_ ?_
 ·simp only[go_sem,Nat.reduceEqDiff,↓reduceIte,true_and,List.drop_zero]
  trivial
 rintro i fr h' hi ⟨f3,f6,f7,f8,rfl,ho⟩;simp only[go_sem,Nat.reduceEqDiff,↓reduceIte,f3,f6,f7,f8];by_cases hlt:i<l.length
 ·rw[decide_eq_true (by exact_mod_cast hlt)];rw[List.drop_eq_getElem_cons hlt] at ho;simp only[orL] at ho;simp only[go_sem,Nat.reduceEqDiff,↓reduceIte,f3,f6,f7,f8,zE hd zER zM8 (zO3 hlt),zC];by_cases h0:l[i]=0
  ·rw[show(l[i] !=0)=false by simp[h0]];simp only[go_sem,Nat.reduceEqDiff,↓reduceIte,f3,f6,f7,f8];rw[if_pos h0] at ho;exact⟨hlt,by rw[zf (by unfold lim;omega)],ho⟩
  ·rw[show(l[i] !=0)=true by simp[h0]];simp only[go_sem,Nat.reduceEqDiff,↓reduceIte];rw[if_neg h0] at ho;rw[ho]
 ·have hie:i=l.length:=by omega
  subst hie;rw[decide_eq_false (by omega)];simp only[go_sem,Nat.reduceEqDiff,↓reduceIte,f3];rw[List.drop_length] at ho;rw[←ho];trivial
def zNR (n:Nat):Bool:= !(decide (97≤n)&&decide (n≤122)||decide (48≤n)&&decide (n≤57)||decide (n=46)||decide (n=95)||decide (n=45))
theorem zNS (n:Nat) (h:Heap):zA Tryz.prog 164 [.int .i32 n] h fun r h'=>h'=h∧r= .bool (zNR n):=by
 refine zA.of_fn (g:=zRh) mix Tryz.func164 zcN rfl rfl ?_;simp only[Tryz.f164,gJ];have key:∀b1 b2 b3 b4 b5 b6 b7:Bool,decide ((n:Int)≥97)=b1→decide ((n:Int)≤122)=b2→decide ((n:Int)≥48)=b3→decide ((n:Int)≤57)=b4→((n:Int)==46)=b5→((n:Int)==95)=b6→((n:Int)==45)=b7→zNR n= !(b1&&b2||b3&&b4||b5||b6||b7):=by
  rintro _ _ _ _ _ _ _ rfl rfl rfl rfl rfl rfl rfl;have e5:((n:Int)==46)=decide (n=46):=by by_cases e:n=46<;>simp[e]<;>omega
  have e6:((n:Int)==95)=decide (n=95):=by by_cases e:n=95<;>simp[e]<;>omega
  have e7:((n:Int)==45)=decide (n=45):=by by_cases e:n=45<;>simp[e]<;>omega
  have e1:decide ((n:Int)≥97)=decide (97≤n):=by by_cases e:97≤n<;>simp[e]<;>omega
  have e2:decide ((n:Int)≤122)=decide (n≤122):=by by_cases e:n≤122<;>simp[e]<;>omega
  have e3:decide ((n:Int)≥48)=decide (48≤n):=by by_cases e:48≤n<;>simp[e]<;>omega
  have e4:decide ((n:Int)≤57)=decide (n≤57):=by by_cases e:n≤57<;>simp[e]<;>omega
  rw[e1,e2,e3,e4,e5,e6,e7];rfl
 cases h1:decide ((n:Int)≥97)<;>cases h2:decide ((n:Int)≤122)<;>cases h3:decide ((n:Int)≥48)<;>cases h4:decide ((n:Int)≤57)<;>cases h5:((n:Int)==46)<;>cases h6:((n:Int)==95)<;>cases h7:((n:Int)==45)<;>rw[key _ _ _ _ _ _ _ h1 h2 h3 h4 h5 h6 h7] <;>
  simp only[go_sem,Nat.reduceEqDiff,↓reduceIte,vun,h1,h2,h3,h4,h5,h6,h7]<;>rfl
def zKS (s:List UInt8):Bool:=match s with
 | []=>false
 |b::r=> !(decide ((b::r).length>32)||(b==46||(b==45||wr zNR (b::r) ((b::r).length+1) 0)))
theorem zP5 {s:List UInt8} (hl:s.length≤1048576) (h:Heap):zA Tryz.prog 109 [.str s] h fun r h'=>h'=h∧r= .bool (zKS s):=by
 refine zA.of_fn (g:=zSe) mix Tryz.func109 zdK rfl rfl ?_;simp only[Tryz.f109,gJ];cases s with
 |nil=>simp only[go_sem,Nat.reduceEqDiff,↓reduceIte,show(([]:List UInt8)== [])=true from rfl,zKS]
 |cons b r=>
  have h0:((b::r:List UInt8)== [])=false:=rfl;have hi:zA2 Tryz.prog 9 (.str (b::r)) (.int .i64 0)=some (.int .u8 b.toNat):=wj (n:=0) Tryz.underlying9 rfl;have e1:((b.toNat:Int)==46)=(b==46):=by
   by_cases e:b=46
   ·subst e;rfl
   ·rw[beq_eq_false_iff_ne.2 e,beq_eq_false_iff_ne.2 fun h=>e (UInt8.toNat_inj.1 (by rw[show(46:UInt8).toNat=46 from rfl];omega))]
  have e2:((b.toNat:Int)==45)=(b==45):=by
   by_cases e:b=45
   ·subst e;rfl
   ·rw[beq_eq_false_iff_ne.2 e,beq_eq_false_iff_ne.2 fun h=>e (UInt8.toNat_inj.1 (by rw[show(45:UInt8).toNat=45 from rfl];omega))]
  have e0:decide (((b::r).length:Int)>32)=decide ((b::r).length>32):=by
   by_cases e:(b::r).length>32
   ·rw[decide_eq_true e,decide_eq_true (by omega)]
   ·rw[decide_eq_false e,decide_eq_false (by omega)]
  cases h1:decide ((b::r).length>32) with
  |true=>
   simp only[go_sem,Nat.reduceEqDiff,↓reduceIte,h0,z7 Tryz.underlying9,e0,h1];simp only[zKS,h1];rfl
  |false=>
  cases h2:(b==46) with
  |true=>
   simp only[go_sem,Nat.reduceEqDiff,↓reduceIte,h0,z7 Tryz.underlying9,e0,h1,hi,e1,h2];simp only[zKS,h1,h2];rfl
  |false=>
  cases h3:(b==45) with
  |true=>
   simp only[go_sem,Nat.reduceEqDiff,↓reduceIte,h0,z7 Tryz.underlying9,e0,h1,hi,e1,e2,h2,h3];simp only[zKS,h1,h2,h3];rfl
  |false=>
   simp only[go_sem,Nat.reduceEqDiff,↓reduceIte,h0,z7 Tryz.underlying9,e0,h1,hi,e1,e2,h2,h3];refine(zHV hl (fun n _ h=>zNS n h) _).mono ?_;rintro q h2' ⟨rfl,rfl⟩;simp only[vun,go_sem,Nat.reduceEqDiff,↓reduceIte,zKS,h1,h2,h3]
def zGC (s:List UInt8):Int:=if s.length>128∨(zm 47 s).length>8∨(zm 47 s).any (fun p=> !zKS p)=true then 2 else 0
theorem zFN {s:List UInt8} (hl:s.length≤1048576) (h:Heap):zA Tryz.prog 62 [.str s] h fun r h'=>h'=h∧r= .int .i64 (zGC s):=by
 refine zA.of_fn (g:=zZD) mix Tryz.func62 zid rfl rfl ?_;simp only[Tryz.f62,gJ];simp only[go_sem,Nat.reduceEqDiff,↓reduceIte];refine(zNP hl 47 _).mono ?_;rintro r h2 ⟨rfl,rfl⟩;have hlen:=zEZ 47 s;have e0:decide ((s.length:Int)>128)=decide (s.length>128):=by
  by_cases e:s.length>128
  ·rw[decide_eq_true e,decide_eq_true (by omega)]
  ·rw[decide_eq_false e,decide_eq_false (by omega)]
 have e1:decide (((zt (zm 47 s)).length:Int)>8)=decide ((zm 47 s).length>8):=by
  rw[zJ];by_cases e:(zm 47 s).length>8
  ·rw[decide_eq_true e,decide_eq_true (by omega)]
  ·rw[decide_eq_false e,decide_eq_false (by omega)]
 cases h1:decide (s.length>128) with
 |true=>
  simp only[go_sem,Nat.reduceEqDiff,↓reduceIte,z7 Tryz.underlying9,e0,h1];rw[zGC,if_pos (.inl (of_decide_eq_true h1))]
 |false=>
 have g1:=of_decide_eq_false h1;cases h3:decide ((zm 47 s).length>8) with
 |true=>
  simp only[go_sem,Nat.reduceEqDiff,↓reduceIte,z7 Tryz.underlying9,zP (zX.mk .no) Tryz.underlying31,e0,e1,h1,h3];rw[zGC,if_pos (.inr (.inl (of_decide_eq_true h3)))]
 |false=>
 have g3:=of_decide_eq_false h3;simp only[go_sem,Nat.reduceEqDiff,↓reduceIte,z7 Tryz.underlying9,zP (zX.mk .no) Tryz.underlying31,e0,e1,h1,h3];refine(zCm (zX.mk .no) (by omega) (p:=fun p=> !zKS p) (fun p hp h=> ?_) _).mono ?_
 ·refine zA.of_fn (g:=zSV) mix Tryz.func108 zc4 rfl rfl ?_;simp only[Tryz.f108,gJ];have:=zDU 47 s p hp;simp only[go_sem,Nat.reduceEqDiff,↓reduceIte];refine(zP5 (by omega) _).mono ?_;rintro r h2 ⟨rfl,rfl⟩;simp only[vun,go_sem,Nat.reduceEqDiff,↓reduceIte]
 ·rintro r h2 ⟨rfl,rfl⟩;cases h4:(zm 47 s).any (fun p=> !zKS p) with
  |true=>
   simp only[go_sem,Nat.reduceEqDiff,↓reduceIte];rw[zGC,if_pos (.inr (.inr h4))]
  |false=>
   simp only[go_sem,Nat.reduceEqDiff,↓reduceIte];rw[zGC,if_neg (fun h=>h.elim g1 fun h=>h.elim g3 fun h=>by rw[h4] at h;cases h)]
end Go.V
