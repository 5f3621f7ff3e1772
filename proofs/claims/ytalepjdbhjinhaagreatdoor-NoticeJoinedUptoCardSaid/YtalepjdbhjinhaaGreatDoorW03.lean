/- A machine of abstract values for programs of the model, and its soundness, part 3. No condition. -/
import Derived.Test.YtalepjdbhjinhaaGreatDoorW02
import Derived.Laws.BytesString
import Derived.Lib.Builder
import Derived.Lib.UnsafeStr
import Derived.Lib.LaidTab
import Derived.Lib.ItoaNum
import Derived.Scope
set_option linter.all false
namespace Go.V
open Go.RowKit (Below)
section
variable {P:Program} {w0:Base} {G:List Nat} {M:Imm} {ρ:Ren} {h:Heap} {w:World} {nid:Nat}
theorem zFf {n:Nat} (hn:n≤lim):fits .i64 (n:Int):=by
 rw[wY];unfold lim at hn;simp[IntKind.min,IntKind.max,IntKind.signed,IntKind.bits];omega
theorem zXu (hs:Sim w0 G M ρ h w) {t ty:TypeId} {x d:D} {vx:Value} (hx:rel M ρ x vx) (hv:zAd P t x h=some d):YV P w0 G M ρ nid w (Builtin.len_ #[t] ty #[vx]) d h:=by
 unfold zAd at hv;split at hv
 ·split at hv
  ·rename_i hu;cases hv;simp only[rel] at hx;obtain⟨b,rfl,rfl,hl⟩:=hx;refine .pure hs (v:= .int .i64 b.size) (by simp[Builtin.len_,run_underlying hu,goInt]) ?_;rw[show(b.size:Int)=(b.data.toList.length:Int) by rw[Array.length_toList];rfl];exact yg (zFf hl)
  ·cases hv
 ·split at hv
  ·rename_i e hu;cases hv;simp only[rel] at hx;obtain⟨_,hl,b,p,cap,⟨sp,rfl,hsp⟩,_⟩:=hx;exact .pure hs (by simp[Builtin.len_,run_underlying hu];rfl) (yg (zFf hl))
  ·cases hv
 ·split at hv
  ·rename_i e hu;cases hv;simp only[rel] at hx;obtain⟨_,hl,l,cap,o,_,rfl,_⟩:=hx;exact .pure hs (by simp[Builtin.len_,run_underlying hu];rfl) (yg (zFf hl))
  ·cases hv
 ·split at hv
  ·rename_i e hu;cases hv;simp only[rel] at hx;subst hx;exact .pure hs (by simp[Builtin.len_,run_underlying hu];rfl) (yg (zFf (by simp)))
  ·cases hv
 ·split at hv
  ·rename_i e hu;cases hv;simp only[rel] at hx;subst hx;exact .pure hs (by simp[Builtin.len_,run_underlying hu];rfl) (yg (zFf (n:=0) (by simp)))
  ·cases hv
 ·cases hv
theorem zXv (hs:Sim w0 G M ρ h w) {t ty:TypeId} {x y d:D} {vx vy:Value} (ats) (hx:rel M ρ x vx) (hy:rel M ρ y vy) (hv:zQg x y=some d):YV P w0 G M ρ nid w (Builtin.min_ ats ty #[vx,vy]) d h:=by
 unfold zQg at hv;split at hv
 ·rename_i k a k' b;split at hv
  ·rename_i hk;subst hk;cases hv;simp only[rel] at hx hy;obtain⟨rfl,f1⟩:=hx;obtain⟨rfl,f2⟩:=hy;refine .pure hs (v:= .int k (if b<a then b else a)) (by simp[Builtin.min_,Builtin.min2]) (yg ?_)
   split<;>assumption
  ·cases hv
 ·cases hv
theorem zUN {x y d:D} {vx vy:Value} (hx:rel M ρ x vx) (hy:rel M ρ y vy) (hv:zQp x y=some d):∃v,(Builtin.max2 vx vy).run P w= .ok v w∧rel M ρ d v:=by
 unfold zQp at hv;split at hv
 ·rename_i k a k' b;split at hv
  ·rename_i hk;subst hk;cases hv;simp only[rel] at hx hy;obtain⟨rfl,f1⟩:=hx;obtain⟨rfl,f2⟩:=hy;refine⟨.int k (if b>a then b else a),by simp[Builtin.max2],yg ?_⟩
   split<;>assumption
  ·cases hv
 ·cases hv
theorem zOA:∀ {ys:List D} {vs:List Value} {x d:D} {vx:Value},rel M ρ x vx→zy M ρ ys vs→zIE x ys=some d→∃v,(vs.foldlM Builtin.max2 vx).run P w= .ok v w∧rel M ρ d v
 | [],vs,x,d,vx,hx,hy,hv=>by
  simp only[zy] at hy;subst hy;simp only[zIE,Option.some.injEq] at hv;subst hv;exact⟨vx,by simp,hx⟩
 |y::ys,vs,x,d,vx,hx,hy,hv=>by
  simp only[zy] at hy;obtain⟨v,vs',rfl,h1,h2⟩:=hy;simp only[zIE] at hv;split at hv
  ·rename_i z hz;obtain⟨u,g1,g2⟩:=zUN (P:=P) (w:=w) hx h1 hz;obtain⟨u2,g3,g4⟩:=zOA g2 h2 hv;exact⟨u2,by simp only[List.foldlM_cons,Sem.run_bind,g1,Result.andThen_ok,g3],g4⟩
  ·cases hv
theorem zUO (hs:Sim w0 G M ρ h w) {ty:TypeId} {x d:D} {ys:List D} {vx:Value} {vs:List Value} (ats) (hx:rel M ρ x vx) (hy:zy M ρ ys vs) (hv:zIE x ys=some d):YV P w0 G M ρ nid w (Builtin.max_ ats ty (vx::vs).toArray) d h:=by
 obtain⟨v,h1,h2⟩:=zOA (P:=P) (w:=w) hx hy hv;exact .pure hs (by simpa [Builtin.max_] using h1) h2
theorem Sim.immLater (hs:Sim w0 G M ρ h w) {w2:World} (hb:Bel w.heap.size w w2) {b:Nat} (hge:w.heap.size≤b) {c:Array Value} {e:TypeId} {fz:Nat×Nat} (hc:w2.heap[b]? =some (.cells c e fz)) (n:Nat):
  MLe M (zBg M b 0 (c.toList.take n))∧Sim w0 G (zBg M b 0 (c.toList.take n)) ρ h w2:=by
 have hm:∀o,M b o=none:=hs.none_at hge;have hle:MLe M (zBg M b 0 (c.toList.take n)):=zB4 fun o _=>hm o;have ha:=hs.world hb;refine⟨hle,{ below:=ha.below,imm:=fun b' o v e'=> ?_,live:=fun i ob e'=> ?_,apart:=hs.apart,gdef:=ha.gdef,old:=zGr hs.old (hs.nokeep hge) }⟩
 ·unfold zBg at e';split at e'
  ·rename_i hcc;obtain⟨rfl,_,h2⟩:=hcc;simp only[Nat.sub_zero,List.getElem?_take] at e';split at e'
   ·simp[World.cell?,hc];simpa using e'
   ·cases e'
  ·exact ha.imm b' o v e'
 ·obtain⟨l,h1,h2,h3⟩:=ha.live i ob e';have hl:=hs.old_blk e' h1;refine⟨l,h1,h2,wE hle (RLe.refl _) (fun o ho=> ?_) h3⟩;unfold zBg;rw[if_neg (by omega)];exact ho
theorem zGz {M:Imm} {ρ:Ren} :∀ {ds:List D} {s:List UInt8} {vs:List Value},wc ds=some s→zy M ρ ds vs→∃ns:List Int,vs=ns.map (Value.int .u8)∧s=ns.map fun n=>UInt8.ofNat n.toNat
 | [],s,vs,hb,hr=>by
  simp only[wc,Option.some.injEq] at hb;simp only[zy] at hr;subst hb hr;exact⟨[],rfl,rfl⟩
 |d::ds,s,vs,hb,hr=>by
  simp only[zy] at hr;obtain⟨v,vs',rfl,h1,h2⟩:=hr;simp only[wc] at hb;split at hb
  ·rename_i k n;split at hb
   ·split at hb
    ·rename_i s' hs';cases hb;obtain⟨ns,rfl,rfl⟩:=zGz hs' h2;simp only[rel] at h1;exact⟨n::ns,by rw[h1.1];rfl,rfl⟩
    ·cases hb
   ·cases hb
  ·cases hb
theorem zUP {m:Int} (h:fits .u8 m):(((UInt8.ofNat m.toNat).toNat:Nat):Int)=m:=by
 have h1:=(wY .u8 m).1 h;simp[IntKind.min,IntKind.max,IntKind.signed,IntKind.bits] at h1;simp;omega
theorem zWM {M:Imm} {ρ:Ren} :∀ {ds:List D} {s:List UInt8} {j:Nat} {d:D} {m:Int},wc ds=some s→ds[j]? =some d→rel M ρ d (.int .u8 m)→fits .u8 m
 | [],s,j,d,m,_,h,_=>by simp at h
 |e::ds,s,0,d,m,hb,h,hr=>by
  simp only[List.getElem?_cons_zero,Option.some.injEq] at h;subst h;simp only[wc] at hb;split at hb
  ·split at hb
   ·simp only[rel,Value.int.injEq] at hr;obtain⟨⟨_,rfl⟩,hf⟩:=hr;exact hf
   ·cases hb
  ·cases hb
 |e::ds,s,j+1,d,m,hb,h,hr=>by
  simp only[List.getElem?_cons_succ] at h;simp only[wc] at hb;split at hb
  ·split at hb
   ·split at hb
    ·rename_i s' hs';exact zWM hs' h hr
    ·cases hb
   ·cases hb
  ·cases hb
theorem zIf:∀ (ns:List Int) (b:ByteArray),(ns.foldl (fun r n=>r.push (UInt8.ofNat n.toNat)) b).data.toList=b.data.toList++ns.map fun n=>UInt8.ofNat n.toNat
 | [],b=>by simp
 |n::ns,b=>by
  rw[List.foldl_cons,zIf ns];simp[ByteArray.push]
theorem zMt (hs:Sim w0 G M ρ h w) {src dst:TypeId} {x d:D} {vx:Value} (hx:rel M ρ x vx) (hv:zAo P src dst x=some d):YV P w0 G M ρ nid w (Go.convert src dst vx) d h:=by
 unfold zAo at hv;split at hv
 ·rename_i k n;split at hv
  ·rename_i k0 hsu;split at hv
   ·rename_i k' hdu;cases hv;simp only[rel] at hx;obtain⟨rfl,_⟩:=hx;exact .pure hs (v:= .int k' (k'.wrap n)) (by simp[Go.convert,run_underlying hsu,run_underlying hdu,Conv.intToInt]) (yg (wF _ _))
   ·cases hv
  ·cases hv
 ·rename_i s;split at hv
  ·rename_i hsu;split at hv
   ·rename_i hdu;cases hv;have hx':=hx;simp only[rel] at hx;obtain⟨b,rfl,_,_⟩:=hx;exact .pure hs (v:= .string b) (by simp[Go.convert,run_underlying hsu,run_underlying hdu]) hx'
   ·rename_i e hdu;split at hv
    ·rename_i heu;cases hv;simp only[rel] at hx;obtain⟨b,rfl,rfl,hl⟩:=hx
     let cap:=grownCap w b.size 0 e
     let c:Array Value:=(b.data.map fun x=>Value.int .u8 x.toNat)++Array.replicate (cap-b.size) (.int .u8 0)
     let w2:=(w.drew.alloc (.cells c e)).freeze ⟨w.heap.size,c.size,none⟩ 1
     have hbs:b.size=b.data.toList.length:=by rw[Array.length_toList];rfl
     have hcap:b.size≤cap:=grownCap_ge w b.size 0 e;have hrun:(Go.convert src dst (.string b)).run P w= .ok (.slice (some ⟨w.heap.size,0,none⟩) b.size cap) w2:=by
      have h1:(Go.convert src dst (.string b)).run P w=(Conv.stringToBytes e b).run P w:=by
       simp[Go.convert,run_underlying hsu,run_underlying hdu,run_underlying heu]
      have hsh:(w.drew.alloc (.cells c e)).shape? w.heap.size=some (e,c.size):=by
       have:(w.drew.alloc (.cells c e)).heap[w.heap.size]? =some (.cells c e (0,0)):=by
        show(w.heap.push _)[w.heap.size]? =_;simp
       unfold World.shape?;rw[this]
      rw[h1];simp only[Conv.stringToBytes,Sem.run_bind,run_choose,Question.forced,Bool.false_eq_true,if_false,Result.andThen_ok,newRow,run_newObj,World.alloc_eq,World.drew_eq,Sem.run_pure,markStringish,run_shape];rw[show((Question.appendCap b.size 0 e).cut (w.tape w.drawn (Question.appendCap b.size 0 e)))=cap from rfl]
      rw[show(w.drew.heap.size)=w.heap.size from rfl]
      rw[show((b.data.map fun x=>Value.int .u8 x.toNat)++Array.replicate (cap-b.size) (.int .u8 0))=c from rfl,hsh]
      rfl
     have hpush:(w.heap.push (Go.Obj.cells c e))[w.heap.size]? =some (.cells c e (0,0)):=by simp
     have hheap:w2.heap[w.heap.size]? =some (.cells c e (c.size,c.size+1)):=by
      show((w.heap.push (Go.Obj.cells c e)).modify w.heap.size _)[w.heap.size]? =_;rw[Array.getElem?_modify,if_pos rfl,hpush];rfl
     have hbel:Bel w.heap.size w w2:=⟨⟨rfl,rfl,rfl,by show _≤((w.heap.push (Go.Obj.cells c e)).modify w.heap.size _).size;simp,fun k hk=>by
      show((w.heap.push (Go.Obj.cells c e)).modify w.heap.size _)[k]? =_;rw[Array.getElem?_modify,if_neg (by omega),Array.getElem?_push,if_neg (by omega)]⟩,Nat.le_succ _⟩
     obtain⟨k1,k2⟩:=hs.immLater hbel (Nat.le_refl _) hheap b.size;refine⟨_,_,_,ρ,hrun,k1,RLe.refl _,fun _ _=>rfl,k2,?_⟩;simp only[rel];refine⟨by omega,by simpa using hl,w.heap.size,0,cap,by rw[List.length_map,←hbs];exact zQq.mk _ _ _ _,by rw[List.length_map,←hbs];exact hcap,zAD fun i x hx=> ?_,trivial⟩;simp only[List.getElem?_map,Option.map_eq_some_iff] at hx;obtain⟨q,hq,rfl⟩:=hx;refine⟨rfl,?_⟩;simp only[zBP,and_true];refine⟨rfl, .int .u8 q.toNat,?_,?_⟩
     ·have:=zJc (M:=M) (b:=w.heap.size) (p:=0) (vs:=c.toList.take b.size) (i:=i) (v:= .int .u8 q.toNat) (by
       have hlt:i<b.size:=by rw[hbs];exact(List.getElem?_eq_some_iff.1 hq).1
       rw[List.getElem?_take,if_pos hlt];simp only[c,Array.toList_append,Array.toList_map];rw[List.getElem?_append_left (by simp;exact hlt),List.getElem?_map,hq];rfl)
      simpa using this
     ·refine yg ?_;rw[wY];have:=q.toNat_lt;simp[IntKind.min,IntKind.max,IntKind.signed,IntKind.bits];omega
    ·cases hv
   ·cases hv
  ·cases hv
 ·rename_i sz xs tk;split at hv
  ·rename_i e hsu;split at hv
   ·rename_i heu;split at hv
    ·rename_i hdu;split at hv
     ·rename_i hsz;subst hsz;split at hv
      ·rename_i s hb;cases hv;simp only[rel] at hx;obtain⟨_,hlim,b,p,cap,⟨sp,rfl,hsp⟩,hcap0,hE,_⟩:=hx;obtain⟨hC,hlen⟩:=zBS hE;have fin:∀ (ns:List Int),s=ns.map (fun n=>UInt8.ofNat n.toNat)→ns.length≤lim→(Go.loadCells ⟨b,p,sp⟩ xs.length).run P w= .ok (ns.map (Value.int .u8)).toArray w→YV P w0 G M ρ nid w (Go.convert src dst (.slice (some ⟨b,p,sp⟩) xs.length cap)) (.str s) h:=fun ns hns hl hrun=>by
        have hrun2:=run_bytesToString (P:=P) w ⟨b,p,sp⟩ xs.length cap ns hrun;refine .pure hs (v:= .string (ns.foldl (fun r n=>r.push (UInt8.ofNat n.toNat)) ByteArray.empty)) ?_ ?_
        ·rw[run_convert_bytes_string w src dst e _ _ _ hsu heu hdu,hrun2]
        ·simp only[rel];exact⟨_,rfl,by rw[zIf,hns];rfl,by rw[hns,List.length_map];exact hl⟩
       rcases hsp with rfl|rfl
       case inr=>
        obtain rfl:xs= []:=List.eq_nil_of_length_eq_zero (by omega);simp only[List.flatten_nil,wc,Option.some.injEq] at hb;subst hb;exact fin [] rfl (by simp) (by simp[Go.loadCells,loadCellsFrom])
       obtain⟨vs,g1,g2,g3,_⟩:=(hs.holds hC).loadCells (P:=P) (off:=0) (n:=xs.length) (by omega);rw[List.drop_zero,List.take_of_length_le (by omega)] at g3;obtain⟨ns,rfl,hns⟩:=zGz hb g3;rw[List.length_map] at g1;exact fin ns hns (by omega) g2
      ·cases hv
     ·cases hv
    ·cases hv
   ·cases hv
  ·cases hv
 ·cases hv
theorem zQ2 (hs:Sim w0 G M ρ h w) {src dst:TypeId} {x d:D} {vx:Value} (hx:rel M ρ x vx) (hv:zD3 P src dst x h=some d):YV P w0 G M ρ nid w (Go.convert src dst vx) d h:=by
 unfold zD3 at hv;split at hv
 ·rename_i id off;split at hv
  ·have hx':=hx;simp only[rel] at hx;obtain⟨l,hl,rfl⟩:=hx;unfold zQo at hv;split at hv
   ·rename_i u full cs hi;split at hv
    ·obtain⟨l',g1,_,hM,c,e0,hw,hls,hlen,hcells,hty,hful⟩:=hs.live id _ hi;rw[hl] at g1;cases g1;have hsz:=hful rfl;have hsh:w.shape? l.blk=some (u,cs.length):=by simp[World.shape?,hw,hty,hsz]
     split at hv
     ·rename_i t hus;split at hv
      ·rename_i hud;split at hv
       ·rename_i j hj;split at hv
        ·rename_i hc;simp only[Bool.and_eq_true,decide_eq_true_eq] at hc;cases hv;exact .pure hs (Go.Lib.run_to_unsafe (P:=P) (w:=w) ⟨l.blk,0,none⟩ hus hud hj hc.1 hsh hc.2) hx'
        ·cases hv
       ·cases hv
      ·cases hv
     ·rename_i hus;split at hv
      ·rename_i t hud;split at hv
       ·rename_i j hj;split at hv
        ·rename_i hc;cases hv;exact .pure hs (Go.Lib.run_from_unsafe (P:=P) (w:=w) ⟨l.blk,0,none⟩ hus hud hj hsh hc) hx'
        ·cases hv
       ·cases hv
      ·cases hv
     ·cases hv
    ·cases hv
   ·cases hv
  ·cases hv
 ·exact zMt hs hx hv
theorem zDe:∀ {ds:List D} {s:List UInt8},wc ds=some s→s.length=ds.length
 | [],s,h=>by simp only[wc,Option.some.injEq] at h;subst h;rfl
 |d::ds,s,h=>by
  simp only[wc] at h;split at h
  ·split at h
   ·split at h
    ·rename_i s' hs';cases h;rw[List.length_cons,List.length_cons,zDe hs']
    ·cases h
   ·cases h
  ·cases h
theorem Sim.drop (hs:Sim w0 G M ρ h w) {id:Nat} {ob:Obj} {l:Loc} (hi:h.at' id=some ob) (hl:ρ id=some l) {w':World} (ho:w'.os=w.os) (ht:w'.tape=w.tape) (hu:w'.output=w.output) (hsz:w'.heap.size=w.heap.size) (hb:∀b,b≠l.blk→w'.heap[b]? =w.heap[b]?) (hM:∀o,M l.blk o=none) (hd:∀d,w.heap[l.blk]? ≠some (.deferred d)) (hdr:w.drawn≤w'.drawn:=by exact Nat.le_refl _):
  Sim w0 G M ρ (h.del id) w':=by
 obtain⟨l',g1,g2,g3⟩:=hs.live id ob hi;rw[hl] at g1;cases g1;refine { below:=⟨by rw[ho];exact hs.below.os,by rw[ht];exact hs.below.tape,by rw[hu];exact hs.below.output,by rw[hsz];exact hs.below.size,fun b hk=>by rw[hb b fun e=>g2 (e▸hk)];exact hs.below.block b hk,Nat.le_trans hs.below.drawn hdr⟩,imm:=fun b o v e=> ?_,live:=fun i oi e=> ?_,apart:=fun i j oi oj li lj e1 e2=> ?_,gdef:=fun b hg=> ?_,old:=hs.old }
 ·have hne:b≠l.blk:=fun q=>by subst q;rw[hM o] at e;cases e
  have:=hs.imm b o v e;rw[←this];exact World.cell?_of_block (w:=w) (hb b hne)
 ·simp only[Heap.del] at e;split at e
  ·cases e
  ·rename_i hne;obtain⟨li,k1,k2,k3⟩:=hs.live i oi e;exact⟨li,k1,k2,qh (hb _ fun q=>hne (hs.apart i id oi ob li l e hi k1 hl q)) k3⟩
 ·simp only[Heap.del] at e1 e2;split at e1
  ·cases e1
  ·split at e2
   ·cases e2
   ·exact hs.apart i j oi oj li lj e1 e2
 ·obtain⟨k1,k2⟩:=hs.gdef b hg;exact⟨k1,by rw[hb b fun q=>hd _ (q▸k2)];exact k2⟩
theorem zMu (hs:Sim w0 G M ρ h w) {t u ty e:TypeId} {id:Nat} {n:Int} {d:D} {h':Heap} {l:Loc} (hl:ρ id=some l) (hpt:P.underlying t=some (.pointer e)) (hfy:fits .i64 n) (hv:zD5 P e id n h=some (d,h')):YV P w0 G M ρ nid w (Builtin.unsafeString_ #[t,u] ty #[.pointer (some ⟨l.blk,0,none⟩), .int .i64 n]) d h':=by
 unfold zD5 at hv;split at hv
 ·rename_i e2 full cs hi;split at hv
  ·rename_i hc;simp only[Bool.and_eq_true,decide_eq_true_eq] at hc;obtain⟨⟨⟨⟨he2,hsz1⟩,hn0⟩,hnl⟩,hnlim⟩:=hc;subst he2;split at hv
   ·rename_i s hbs;cases hv;obtain⟨l',g1,g2,hM,c,e0,hw,hls,hlen,hcells,hty,_⟩:=hs.live id _ hi;rw[hl] at g1;cases g1;subst hty;have hsl:s.length=n.toNat:=by rw[zDe hbs,List.length_take];omega
    obtain⟨vs,q1,q2,q3,_,q5⟩:=(hs.trow hi hl).loadCells (P:=P) (off:=0) (n:=n.toNat) (by omega);rw[List.drop_zero] at q3;obtain⟨ns,rfl,hns⟩:=zGz hbs q3;have hfit:∀m∈ns,fits .u8 m:=fun m hm=>by
     obtain⟨j,hj,rfl⟩:=List.mem_iff_getElem.1 hm;have hj2:j<(cs.take n.toNat).length:=by rw[←zDe hbs,hns,List.length_map];exact hj
     obtain⟨v,r1,r2⟩:=yq q3 j (cs.take n.toNat)[j] (List.getElem?_eq_getElem hj2);rw[List.getElem?_map,List.getElem?_eq_getElem hj] at r1;cases r1;exact zWM hbs (List.getElem?_eq_getElem hj2) r2
    have h63:n≤9223372036854775807:=by
     have h1:=(wY .i64 n).1 hfy;simp[IntKind.min,IntKind.max,IntKind.signed,IntKind.bits] at h1;omega
    have hrun:=Go.Lib.run_unsafeString_row (P:=P) w t u ty e0 hpt hsz1 l.blk c.size (by simp[World.shape?,hw]) s (fun q=>by rw[q] at hsl;simp at hsl;omega) (by omega) (by omega) (fun j b hb=>by
     rw[hns,List.getElem?_map] at hb;obtain⟨m,hm1,hm2⟩:=Option.map_eq_some_iff.1 hb;have:=q5 j (.int .u8 m) (by rw[List.getElem?_map,hm1];rfl);rw[qF];simp only[Nat.zero_add,Nat.add_zero] at this⊢;rw[this,←hm2,zUP (hfit m (List.mem_of_getElem? hm1))])
    have hnn:(s.length:Int)=n:=by omega
    rw[hnn] at hrun;obtain⟨f,hf⟩:∃f,w.freeze ⟨l.blk,0,none⟩ s.length= { w with heap:=w.heap.modify l.blk f } :=by
     unfold World.freeze;split
     ·rename_i h0;omega
     ·exact⟨_,rfl⟩
    rw[hf] at hrun;refine⟨_,_,M,ρ,hrun,MLe.refl _,RLe.refl _,fun _ _=>rfl,hs.drop hi hl rfl rfl rfl (by simp) (fun b hb=> ?_) hM (fun dd q=>by rw[hw] at q;cases q),?_⟩
    ·show(w.heap.modify l.blk _)[b]? =_;rw[Array.getElem?_modify,if_neg (fun q=>hb q.symm)]
    ·simp only[rel];exact⟨_,rfl,by simp,by omega⟩
   ·cases hv
  ·cases hv
 ·cases hv
theorem zJk (hs:Sim w0 G M ρ h w) {t u ty e:TypeId} (hpt:P.underlying t=some (.pointer e)):YV P w0 G M ρ nid w (Builtin.unsafeString_ #[t,u] ty #[.pointer none, .int .i64 0]) (.str []) h:=by
 refine .pure hs (v:= .string ⟨#[]⟩) ?_ (by simp only[rel];exact⟨⟨#[]⟩,rfl,rfl,by decide⟩);rfl
theorem zJl (hs:Sim w0 G M ρ h w) {t u ty:TypeId} {x y d:D} {vx vy:Value} {h':Heap} (hx:rel M ρ x vx) (hy:rel M ρ y vy) (hv:qt P t x y h=some (d,h')):YV P w0 G M ρ nid w (Builtin.unsafeString_ #[t,u] ty #[vx,vy]) d h':=by
 unfold qt at hv;split at hv
 ·rename_i e hpt;split at hv
  ·split at hv
   ·split at hv
    ·split at hv
     ·simp only[rel] at hx hy;obtain⟨l,hl,rfl⟩:=hx;obtain⟨rfl,hfy⟩:=hy;exact zMu hs hl hpt hfy hv
     ·cases hv
    ·cases hv
   ·split at hv
    ·split at hv
     ·rename_i hn;cases hv;simp only[rel] at hx hy;subst hx;obtain⟨rfl,_⟩:=hy;subst hn;exact zJk hs hpt
     ·cases hv
    ·cases hv
   ·cases hv
  ·cases hv
 ·cases hv
theorem zF4 (t u ty e:TypeId) (ht:P.underlying t=some (.slice e)) {k:IntKind} (hu:P.underlying u=some (.int k)) {i:TypeInfo} {z:Value} (hi:P.info? e=some i) (hz:i.zero=some z) (m:Nat) (hm0:0<m) (hs0:i.size≠0) (hlim:m≤lim) (hb:m*i.bytes≤lim):
  (Builtin.append_ #[t,u] ty #[.slice none 0 0, .int .i64 (m:Int)]).run P w= .ok (.slice (some ⟨w.heap.size,0,none⟩) m (grownCap w m 0 e))
   (w.drew.alloc (.cells (Builtin.zeroCells z.cells m++Builtin.zeroCells z.cells (grownCap w m 0 e-m)) e)):=by
 have h63':¬(9223372036854775807<(m:Int)):=by unfold lim at hlim;omega
 have hfit:=growslice_fits (need:=m) (old:=0) (bytes:=i.bytes) hm0 hb;have h48':¬(281474976710656<Builtin.nextslicecap m 0*i.bytes):=by omega
 have hse:(sizeOf e).run P w= .ok i.size w:=by rw[run_sizeOf _ hi];simp[Program.cellsOf,hi]
 have hwr:IntKind.i64.wrap (m:Int)=(m:Int):=zFf hlim;have hneg:¬((m:Int)<0):=by omega
 have hbz:¬(281474976710656<(m:Int)*(i.bytes:Int)):=by
  have:((m*i.bytes:Nat):Int)≤(lim:Int):=by exact_mod_cast hb
  rw[Int.natCast_mul] at this;generalize(m:Int)*(i.bytes:Int)=x at this⊢;unfold lim at this;omega
 have hmz:¬(m*i.size=0):=fun q=>by
  rcases Nat.mul_eq_zero.1 q with q|q<;>omega
 have hm1:¬m=0:=by omega
 simp[Builtin.append_,run_underlying ht,run_underlying hu,hse,typeInfo,zeroValue,hi,hz,asInt,asIntOf,hwr,hneg,hbz,hmz,hm1,h63',h48',hs0,Question.forced,newRow,grownCap,Builtin.firstCells]
theorem zMv (hs:Sim w0 G M ρ h w) (hn:ρ nid=none) {mu:Bool} {t u ty:TypeId} {s x d:D} {vs' vx:Value} {h':Heap} (hsv:rel M ρ s vs') (hx:rel M ρ x vx)
  (hv:wn P mu nid t u s x h=some (d,h')):YV P w0 G M ρ nid w (Builtin.append_ #[t,u] ty #[vs',vx]) d h':=by
 unfold wn at hv;split at hv
 ·rename_i kk hu;split at hv
  ·rename_i e he;split at hv
   ·split at hv
    ·rename_i k0 n;split at hv
     ·split at hv
      ·rename_i z hz;split at hv
       ·rename_i hcond;simp only[Bool.and_eq_true,decide_eq_true_eq] at hcond;obtain⟨⟨⟨⟨⟨⟨hmu,hzt⟩,hzl⟩,hsz0⟩,hn0⟩,hby⟩,hlim⟩:=hcond;cases hv;obtain⟨i,zv,hi,hzv,hrz,hzrun⟩:=wh (P:=P) (M:=M) (ρ:=ρ) (w:=w) hz;simp only[rel] at hsv hx;subst hsv;obtain⟨rfl,_⟩:=hx;have hzc:=qo hrz;have hzf:=wM hrz hzt;have hisz:i.size=szT P e:=by simp[szT,Program.cellsOf,hi]
        have hib:i.bytes=yY P e:=by simp[yY,Program.bytesOf,hi]
        have hnn:(n:Int)=((n.toNat:Nat):Int):=by omega
        generalize hm:n.toNat=m at *
        have hm0:0<m:=by omega
        subst hnn;have hrun:=zF4 (P:=P) (w:=w) t u ty e (qv he) hu hi hzv m hm0 (by omega) hlim (by rw[hib];exact hby);have hge:=grownCap_ge w m 0 e;have hzsz:zv.cells.size=szT P e:=by have:=zU hzc;rw[hzl] at this;simpa using this
        have hlen:(zBW m z.cells).length=m*szT P e:=by rw[zBW,yV,hzl]
        have hrepl:=zEB hzc m;rw[hzl] at hrepl;have hzc2:Builtin.zeroCells zv.cells m=(Array.range (m*szT P e)).map (zv.cells[· %zv.cells.size]!):=by unfold Builtin.zeroCells;rw[hzsz]
        have hsz1:(Builtin.zeroCells zv.cells m).size=m*szT P e:=by rw[hzc2];simp
        have hcs:(Builtin.zeroCells zv.cells m++Builtin.zeroCells zv.cells (grownCap w m 0 e-m)).size=grownCap w m 0 e*szT P e:=by
         rw[Array.size_append,size_zeroCells,size_zeroCells,hzsz,←Nat.add_mul];congr 1;omega
        have hle:(zBW m z.cells).length≤(Builtin.zeroCells zv.cells m++Builtin.zeroCells zv.cells (grownCap w m 0 e-m)).size:=by
         rw[hcs,hlen];exact Nat.mul_le_mul_right _ hge
        have hr:zy M ρ (zBW m z.cells) ((Builtin.zeroCells zv.cells m++Builtin.zeroCells zv.cells (grownCap w m 0 e-m)).toList.take (zBW m z.cells).length):=by
         have hll:(Builtin.zeroCells zv.cells m).toList.length=(zBW m z.cells).length:=by rw[Array.length_toList,hsz1,hlen]
         rw[Array.toList_append,←hll,List.take_left' rfl,hzc2];exact hrepl
        have hcap:m≤grownCap w m 0 e∧grownCap w m 0 e≤maxLen:=⟨hge,grownCap_le_maxLen w m 0 e (by unfold maxLen;unfold lim at hlim;omega)⟩;have fin:∀ob,Sim w0 G M (zAE ρ nid ⟨w.drew.heap.size,0,(Builtin.zeroCells zv.cells m++Builtin.zeroCells zv.cells (grownCap w m 0 e-m)).size⟩) (h.new nid ob) (w.drew.alloc (.cells (Builtin.zeroCells zv.cells m++Builtin.zeroCells zv.cells (grownCap w m 0 e-m)) e))→
          YV P w0 G M ρ nid w (Builtin.append_ #[t,u] ty #[.slice none 0 0, .int .i64 (m:Int)]) (.rs nid (szT P e) 0 m) (h.new nid ob):=fun ob hrow=>by
         refine⟨_,_,M,_,hrun,MLe.refl _,yw hn,fun i hi=>by simp[zAE,zBk hi],hrow,?_⟩;simp only[rel];exact⟨hsz0,hlim,_,grownCap w m 0 e,0,by unfold zAE;rw[if_pos rfl],rfl,hcap,by show 0+grownCap w m 0 e*szT P e≤(Builtin.zeroCells zv.cells m++Builtin.zeroCells zv.cells (grownCap w m 0 e-m)).size;rw[hcs,Nat.zero_add];exact Nat.le_refl _, .inr rfl⟩
        rcases zFe P e (zBW m z.cells) with q|q
        ·rw[q];exact fin _ (hs.drew.newRow hn e hle hr (zBm hzf _))
        ·rw[q];exact fin _ (hs.drew.newTRow hn e false hle (fun q=>by cases q) hr (zBm hzf _))
       ·cases hv
      ·cases hv
     ·cases hv
    ·cases hv
   ·cases hv
  ·cases hv
 ·cases hv
theorem zJm (hs:Sim w0 G M ρ h w) (hn:ρ nid=none) {mu:Bool} {t:TypeId} {l c d:D} {vl vc:Value} {h':Heap} (hl:rel M ρ l vl) (hc:rel M ρ c vc) (hv:wL P mu nid t l c h=some (d,h')):
  YV P w0 G M ρ nid w (Instr.makeSlice t vl vc) d h':=by
 unfold wL at hv;split at hv
 ·rename_i e k1 n k2 n' he;simp only[rel] at hl hc;obtain⟨rfl,_⟩:=hl;obtain⟨rfl,_⟩:=hc;split at hv
  ·rename_i z hz;obtain⟨i,zv,hi,hzv,hrz,hzrun⟩:=wh (P:=P) (M:=M) (ρ:=ρ) (w:=w) hz;simp only at hv;split at hv
   ·rename_i hcond;simp only[Bool.and_eq_true,decide_eq_true_eq] at hcond;obtain⟨⟨⟨⟨⟨⟨hzt,hzl⟩,hsz0⟩,hn0⟩,hnn⟩,hby⟩,hlim⟩:=hcond;subst hnn;have hzc:=qo hrz;have hzf:=wM hrz hzt;have hrepl:=zEB hzc n.toNat;rw[hzl] at hrepl;have hsize:(((Array.range (n.toNat*szT P e)).map (zv.cells[· %zv.cells.size]!)):Array Value).size=n.toNat*szT P e:=by simp
    have hlen:(zBW n.toNat z.cells).length=n.toNat*szT P e:=by rw[zBW,yV,hzl]
    have hw:IntKind.i64.wrap n=n:=by have:=zFf (n:=n.toNat) hlim;rw[show((n.toNat:Nat):Int)=n by omega] at this;exact this
    have hrun:(Instr.makeSlice t (.int k1 n) (.int k2 n)).run P w= .ok (.slice (some ⟨w.heap.size,0,none⟩) n.toNat n.toNat) (w.alloc (.cells ((Array.range (n.toNat*szT P e)).map (zv.cells[· %zv.cells.size]!)) e)):=by
     have hbi:(typeInfo e).run P w= .ok i w:=by simp[typeInfo,hi]
     have hib:i.bytes=yY P e:=by simp[yY,Program.bytesOf,hi]
     have hb1:¬((i.bytes:Int)*n>2^48):=by
      rw[hib];have h1:((n.toNat*yY P e:Nat):Int)≤(lim:Int):=by exact_mod_cast hby
      rw[Int.natCast_mul,show((n.toNat:Nat):Int)=n by omega] at h1;have h2:(yY P e:Int)*n=n*(yY P e:Int):=Int.mul_comm _ _;rw[h2];generalize n*(yY P e:Int)=x at h1⊢;unfold lim at h1;omega
     have hmain:(Instr.makeSlice t (.int k1 n) (.int k2 n)).run P w= .ok (.slice (some ⟨w.heap.size,0,none⟩) n.toNat n.toNat) (w.alloc (.cells ((Array.range (n.toNat*szT P e)).map (zv.cells[· %zv.cells.size]!)) e)):=by
      unfold Instr.makeSlice;simp only[Sem.run_bind,run_underlying (qv he),Result.andThen_ok,asInt,asIntOf,Sem.run_pure,hbi,hw];have hc1:((decide (n<0)||decide ((i.bytes:Int)*n>2^48))||decide (n<0)||decide (n>n))=false:=by
       rw[decide_eq_false (by omega:¬n<0),decide_eq_false hb1,decide_eq_false (by omega:¬n>n)];rfl
      simp only[hc1,Bool.false_eq_true,if_false,Sem.run_bind,run_askRoom,Result.andThen_ok,z6 (P:=P) (w:=w) (t:=e) (by omega)];by_cases hz0:n.toNat*szT P e=0
      ·have emp:∀f:Nat→Value,(Array.range 0).map f= #[]:=fun f=>by simp
       simp only[hz0,if_true,Sem.run_bind,Sem.run_pure,Result.andThen_ok,emp,newRow,run_newObj,World.alloc_eq]
      ·simp only[hz0,if_false,Sem.run_bind,hzrun,Sem.run_pure,Result.andThen_ok,newRow,run_newObj,World.alloc_eq]
     exact hmain
    split at hv
    ·cases hv;have hrow:=hs.newRow hn e (ds:=zBW n.toNat z.cells) (c:=(Array.range (n.toNat*szT P e)).map (zv.cells[· %zv.cells.size]!)) (by omega) (by rw[hlen,List.take_of_length_le (by simp)];exact hrepl) (zBm hzf _);refine⟨_,_,M,_,hrun,MLe.refl _,yw hn,fun i hi=>by simp[zAE,zBk hi],hrow,?_⟩;simp only[rel];exact⟨hsz0,hlim,_,n.toNat,0,by simp[zAE];rfl,rfl,⟨Nat.le_refl _,by unfold maxLen;unfold lim at hlim;omega⟩,by simp, .inr rfl⟩
    ·cases hv;obtain⟨g1,g2,g3⟩:=hs.newImmRow (n:=n.toNat) e hsz0 hlim hlen hrepl (zBm hzf _);refine⟨_,_,_,ρ,hrun,g1,RLe.refl _,fun _ _=>rfl,g2,?_⟩
     have:yT (szT P e) n.toNat (zBW n.toNat z.cells)=List.replicate n.toNat z.cells:=by
      have:=zAq (szT P e) (List.replicate n.toNat z.cells) [] 0 (fun x hx=>by rw[(List.mem_replicate.1 hx).2,hzl]);simpa [yT,zBW] using this
     rw[this] at g3;exact g3
   ·cases hv
  ·cases hv
 ·cases hv
theorem zQ3 (hs:Sim w0 G M ρ h w) {t ty:TypeId} {x:D} {vx:Value} {h':Heap} (hx:rel M ρ x vx) (hv:zBj P t x h=some h'):
  ∃w',(Builtin.clear_ #[t] ty #[vx]).run P w= .ok (.tuple #[]) w'∧Sim w0 G M ρ h' w':=by
 unfold zBj at hv;split at hv
 ·split at hv
  ·rename_i e hu;cases hv;simp only[rel] at hx;subst hx;exact⟨w,by simp[Builtin.clear_,run_underlying hu],hs⟩
  ·cases hv
 ·rename_i sz xs tk;split at hv
  ·rename_i e hu;split at hv
   ·rename_i hxs;cases hv;simp only[rel] at hx;obtain⟨_,_,b,p,cap,⟨sp,rfl,hsp⟩,_⟩:=hx;rw[hxs];exact⟨w,by simp[Builtin.clear_,run_underlying hu],hs⟩
   ·cases hv
  ·cases hv
 ·rename_i id sz off n;split at hv
  ·cases hv
  ·rename_i e he;have hu:=qv he;split at hv
   ·cases hv
   ·rename_i z hz;simp only[rel] at hx;obtain⟨h0,hlim,l,cap,o,hl,rfl,hcap,hsize,ho⟩:=hx;split at hv
    ·rename_i hn;cases hv;subst hn;exact⟨w,by simp[Builtin.clear_,run_underlying hu],hs⟩
    ·rename_i hn;split at hv
     ·rename_i hc;simp only[Bool.and_eq_true,decide_eq_true_eq] at hc;obtain⟨hzt,hzl⟩:=hc;split at hv
      ·rename_i cs hi;split at hv
       ·rename_i hle;cases hv;obtain⟨i,zv,hi1,hi2,hrz,hzrun⟩:=wh (M:=M) (ρ:=ρ) (w:=w) hz;obtain rfl:o=off:=by omega
        have hzc:=qo hrz;have hzf:=wM hrz hzt;have hrepl:=zEB hzc n;have hlen:(zBW n z.cells).length=n*sz:=by rw[zBW,yV,hzl]
        obtain⟨w',g1,g2⟩:=hs.storeRow (P:=P) (off:=o) hi hl hrepl (zBm hzf n) (by omega);refine⟨w',?_,g2⟩;have hzs:zv.cells.size=z.cells.length:=by have:=zU hzc;simpa using this
        have hq:(Builtin.zeroCells zv.cells n).toList=((Array.range (n*z.cells.length)).map (zv.cells[· %zv.cells.size]!)).toList:=by
         unfold Builtin.zeroCells;rw[←hzs]
        obtain⟨m,rfl⟩:∃m,n=m+1:=⟨n-1,by omega⟩;simp only[Builtin.clear_,List.getElem?_toArray,List.getElem?_cons_zero,Sem.run_bind,run_underlying hu,Result.andThen_ok,hzrun];rw[hq];simp only[g1,Result.andThen_ok,Sem.run_pure]
       ·cases hv
      ·cases hv
     ·cases hv
 ·rename_i id;split at hv
  ·rename_i kt et hu;split at hv
   ·rename_i es hi;cases hv;simp only[rel] at hx;obtain⟨l,hl,rfl⟩:=hx;obtain⟨l',h1,hbase,en,cl,h2,h3⟩:=hs.live id _ hi;rw[hl] at h1;cases h1;have hlt:l.blk<w.heap.size:=(Array.getElem?_eq_some_iff.1 h2).1;refine⟨{ w with heap:=w.heap.setIfInBounds l.blk (.map #[] cl) },?_,?_⟩
    ·simp[Builtin.clear_,run_underlying hu,getObj,setObj,Sem.run,h2]
    ·refine hs.put hi hl rfl rfl rfl (by simp) (fun b hb=>by simp only[Array.getElem?_setIfInBounds];rw[if_neg (fun e=>hb e.symm)]) (fun o v e=> ?_) ⟨_,h2,fun d=>by simp⟩ ⟨#[],cl,by simp[hlt],by simp[qU]⟩;have:=hs.imm _ _ _ e;simp[World.cell?,h2] at this
   ·cases hv
  ·cases hv
 ·cases hv
end
section
variable {P:Program} {w0:Base} {G:List Nat} {M:Imm} {ρ:Ren} {h:Heap} {w:World} {nid:Nat}
theorem zA5 {d k : Nat} {emp : Bool} (ih : ∀ (t : TypeId) (ks : List Kd) (ag : Bool), wS P d t = some ks → agT P t = some ag → ∀ (dk : D) (kv : Value), zT ag dk = true → rel M ρ dk kv →
      (eqK ks dk.cells dk.cells).isSome = true → (Instr.checkKey emp (d + k) t kv).run P w = .ok () w) :
    ∀ (fs : List Field) (off n : Nat) (ks : List Kd), zGo (wS P d) P.cellsOf fs off n = some ks → ∀ (as : List D) (xs : Array Value), zy M ρ as xs.toList → as.all D.flat = true → (eqK ks (as.drop off) (as.drop off)).isSome = true →
      (forIn (m := Sem) fs PUnit.unit fun f _ => do
        if f.name ≠ "_" then do
          Instr.checkKey emp (d + k) f.type (← part f.type xs f.offset)
          pure (ForInStep.yield PUnit.unit)
        else pure (ForInStep.yield PUnit.unit)).run P w = .ok PUnit.unit w
  | [], _, _, _, _, _, _, _, _, _ => by simp
  | f :: fs, off, n, ks, hk, as, xs, ha, fa, he => by
    simp only [zGo] at hk;split at hk
    · rename_i hcond
      simp only [Bool.and_eq_true, bne_iff_ne, ne_eq, beq_iff_eq] at hcond;obtain ⟨⟨hname, hoff⟩, hnz⟩ := hcond;split at hk
      · rename_i kf hkf
        split at hk
        · rename_i hlen
          simp only [beq_iff_eq] at hlen;simp only [Option.map_eq_some_iff] at hk;obtain ⟨kr, hkr, rfl⟩ := hk;obtain ⟨r, hr⟩ := Option.isSome_iff_exists.1 he;obtain ⟨r1, r2, h1, h2, _⟩ := zBl hr;obtain ⟨ag, hag⟩ : ∃ ag, agT P f.type = some ag := by
            cases hd : d with
            | zero => rw [hd] at hkf; simp [wS] at hkf
            | succ d' =>
              rw [hd] at hkf;unfold wS at hkf;unfold agT;cases hu : P.underlying f.type with
              | none => rw [hu] at hkf; cases hkf
              | some td => cases td <;> simp
          have hl1 := (zAF h1).1;have hsz : szT P f.type = kf.length := hlen.symm;have cell : ∃ v dv, (part f.type xs f.offset).run P w = .ok v w ∧ rel M ρ dv v ∧ zT ag dv = true ∧ dv.cells = (as.drop off).take kf.length := by
            rw [hoff];cases ag with
            | true =>
              have hle : off + kf.length ≤ as.length := by
                simp only [List.length_take, List.length_drop] at hl1; omega
              obtain ⟨v, p1, p2⟩ := zC6 (w := w) hag ha fa (off := off) (d := .agg ((as.drop off).take kf.length)) (by simp only [ze, if_true, hsz]; rw [if_neg (by rw [hlen]; exact hnz), if_pos hle]);exact ⟨v, _, p1, p2, rfl, rfl⟩
            | false =>
              obtain ⟨kk, rfl⟩ := zBR hkf hag;have hlt : off < as.length := by simp only [List.length_take, List.length_drop, List.length_singleton] at hl1; omega
              have hone : (as.drop off).take [kk].length = [as[off]] := by rw [List.length_singleton, List.drop_eq_getElem_cons hlt, List.take_succ_cons, List.take_zero]
              obtain ⟨v, p1, p2⟩ := zC6 (w := w) hag ha fa (off := off) (d := as[off]) (by simp [ze, hlt]);have hsc : zT false as[off] = true ∧ as[off].cells = [as[off]] := by
                rw [hone] at h1;generalize as[off] = q at h1 ⊢;cases kk <;> cases q <;> simp [eqK, zT, D.cells] at h1 ⊢
              exact ⟨v, _, p1, p2, hsc.1, by rw [hsc.2, hone]⟩
          obtain ⟨v, dv, c1, c2, c3, c4⟩ := cell;have hq := ih f.type kf ag hkf hag dv v c3 c2 (by rw [c4, h1]; rfl);have hrest := zA5 ih fs (off + kf.length) n kr hkr as xs ha fa (by rw [List.drop_drop] at h2; rw [h2]; rfl);rw [List.forIn_cons];simp only [ne_eq, hname, not_false_eq_true, if_true, Sem.run_bind, c1, Result.andThen_ok, hq, Sem.run_pure];exact hrest
        · cases hk
      · cases hk
    · cases hk
theorem zCb (emp : Bool) (k : Nat) : ∀ (d : Nat) (t : TypeId) (ks : List Kd) (ag : Bool), wS P d t = some ks → agT P t = some ag → ∀ (dk : D) (kv : Value), zT ag dk = true → rel M ρ dk kv →
      (eqK ks dk.cells dk.cells).isSome = true → (Instr.checkKey emp (d + k) t kv).run P w = .ok () w
  | 0, t, ks, ag, h, _, _, _, _, _, _ => by simp [wS] at h
  | d + 1, t, ks, ag, h, hag, dk, kv, sk, rk, he => by
    rw [show d + 1 + k = (d + k) + 1 by omega];unfold wS at h;unfold agT at hag;cases hu : P.underlying t with
    | none => rw [hu] at h; cases h
    | some td =>
      rw [hu] at h hag;cases td <;> simp only at h hag <;> (try (cases h; done))
      all_goals first
        | (injection hag with hag; subst hag
           simp only [Instr.checkKey, Sem.run_bind, run_underlying hu, Result.andThen_ok];rfl)
        | skip
      rename_i fs;injection hag with hag; subst hag;split at h
      · cases h
      · cases dk <;> simp [zT] at sk
        rename_i as;simp only [rel] at rk;obtain ⟨xs, rfl, hxs, fxs⟩ := rk;have := zA5 (fun t' ks' ag' h1 h2 => zCb emp k d t' ks' ag' h1 h2) fs.toList 0 _ ks h as xs hxs fxs (by simpa [D.cells] using he);simp only [Instr.checkKey, Sem.run_bind, run_underlying hu, Result.andThen_ok];rw [← Array.forIn_toList];simp only [this, Result.andThen_ok, Sem.run_pure]
theorem zA6:∀ {ks:List Kd} {as bs:List D} {xs ys:List Value} {n:Nat},eqK ks as bs=some true→zy M ρ as xs→zy M ρ bs ys→(xs.zip ys).all (fun p=>Instr.sameBits n p.1 p.2)=true
 | [],[],[],xs,ys,n,_,ha,hb=>by simp only[zy] at ha hb;subst ha hb;rfl
 | .b::ks, .bool x::as, .bool y::bs,xs,ys,n,h,ha,hb=>by
  simp only[eqK,Option.map_eq_some_iff] at h;obtain⟨q,h,hq⟩:=h;simp only[Bool.and_eq_true] at hq;simp only[zy,rel] at ha hb;obtain⟨_,xs',rfl,rfl,ha⟩:=ha;obtain⟨_,ys',rfl,rfl,hb⟩:=hb;rw[hq.2] at h;simp only[List.zip_cons_cons,List.all_cons,Bool.and_eq_true];exact⟨by cases n<;>simpa [Instr.sameBits] using hq.1,zA6 h ha hb⟩
 | .i::ks, .int k x::as, .int k' y::bs,xs,ys,n,h,ha,hb=>by
  simp only[eqK] at h;split at h
  ·rename_i hk;subst hk;simp only[Option.map_eq_some_iff] at h;obtain⟨q,h,hq⟩:=h;simp only[Bool.and_eq_true] at hq;simp only[zy,rel] at ha hb;obtain⟨_,xs',rfl,⟨rfl,_⟩,ha⟩:=ha;obtain⟨_,ys',rfl,⟨rfl,_⟩,hb⟩:=hb;rw[hq.2] at h;simp only[List.zip_cons_cons,List.all_cons,Bool.and_eq_true];exact⟨by cases n<;>simpa [Instr.sameBits] using hq.1,zA6 h ha hb⟩
  ·cases h
 | .s::ks, .str x::as, .str y::bs,xs,ys,n,h,ha,hb=>by
  simp only[eqK,Option.map_eq_some_iff] at h;obtain⟨q,h,hq⟩:=h;simp only[Bool.and_eq_true] at hq;simp only[zy,rel] at ha hb;obtain⟨_,xs',rfl,⟨bx,rfl,rfl,_⟩,ha⟩:=ha;obtain⟨_,ys',rfl,⟨by',rfl,rfl,_⟩,hb⟩:=hb;rw[hq.2] at h;simp only[List.zip_cons_cons,List.all_cons,Bool.and_eq_true];refine⟨?_,zA6 h ha hb⟩
  have:(bx==by')=true:=by rw[beq_toListBytes,yc,yc];exact hq.1
  cases n<;>simpa [Instr.sameBits] using this
theorem zG0 {t:TypeId} {ag:Bool} {ks:List Kd} (hk:zN6 P t=some (ag,ks)):wS P 8 t=some ks∧agT P t=some ag:=by
 unfold zN6 at hk;split at hk
 ·rename_i a b h1 h2;cases hk;exact⟨h1,h2⟩
 ·cases hk
def zPf (ks:List Kd) (M:Imm) (ρ:Ren) (k:D) (es:List (D×D)) (i0:Nat) (o:Option (Nat×Value)):Prop:=
 (o=none∧zBX ks k es=some none∧∀v,zN4 ks k v es=some (es++ [(k,v)]))∨
 (∃i k' d u,o=some (i0+i,u)∧es[i]? =some (k',d)∧rel M ρ d u∧eqK ks k.cells k'.cells=some true∧zBX ks k es=some (some d)∧∀v,zN4 ks k v es=some (es.set i (k,v)))
theorem zPf.later {ks:List Kd} {k k' d:D} {es:List (D×D)} {i0:Nat} {o:Option (Nat×Value)} (h:zPf ks M ρ k es (i0+1) o) (he:eqK ks k.cells k'.cells=some false):zPf ks M ρ k ((k',d)::es) i0 o:=by
 rcases h with⟨h1,h2,h3⟩ | ⟨i,k2,d2,u,h1,h2,h3,h4,h5,h6⟩
 ·exact .inl ⟨h1,by simp[zBX,he,h2],fun v=>by simp[zN4,he,h3]⟩
 ·exact .inr ⟨i+1,k2,d2,u,by rw[h1];congr 2;omega,by simpa using h2,h3,h4,by simp[zBX,he,h5],fun v=>by simp[zN4,he,h6]⟩
theorem zG1 {td:TypeDesc} {ks:List Kd} {k:D} {kv:Value} (hsame:∀ (k':D) (kv':Value) (b:Bool),rel M ρ k' kv'→zT false k'=true→eqK ks k.cells k'.cells=some b→Instr.sameNow td kv kv'=some b):
  ∀ (es:List (D×D)) (en:List MapEntry) (i0:Nat),qU M ρ es en→(∀e∈es,zT false e.1=true)→(zBX ks k es).isSome=true→∃o,Instr.findNow td kv en i0=some o∧zPf ks M ρ k es i0 o
 | [],en,i0,hr,_,_=>by simp only[qU] at hr;subst hr;exact⟨none,rfl, .inl ⟨rfl,rfl,fun v=>rfl⟩⟩
 |(k',d)::es,en,i0,hr,hsh,hm=>by
  simp only[qU] at hr;obtain⟨e,en',rfl,h1,h2,h3⟩:=hr;simp only[zBX] at hm;cases hq:eqK ks k.cells k'.cells with
  |none=>rw[hq] at hm;cases hm
  |some b=>
   have hs:=hsame k' e.key b h1 (hsh (k',d) (by simp)) hq;cases b with
   |true=>exact⟨some (i0,e.val),by simp[Instr.findNow,hs], .inr ⟨0,k',d,e.val,rfl,rfl,h2,hq,by simp[zBX,hq],fun v=>by simp[zN4,hq]⟩⟩
   |false=>
    rw[hq] at hm;obtain⟨o,o1,o2⟩:=zG1 hsame es en' (i0+1) h3 (fun e he=>hsh e (by simp[he])) hm;exact⟨o,by simp[Instr.findNow,hs,o1],o2.later hq⟩
theorem zDM {kt:TypeId} {ks:List Kd} {k:D} {kv:Value} (hsame:∀ (k':D) (kv':Value) (b:Bool),rel M ρ k' kv'→zT true k'=true→eqK ks k.cells k'.cells=some b→(Op.equal kt kv kv').run P w= .ok b w):
  ∀ (es:List (D×D)) (en:List MapEntry) (i0:Nat),qU M ρ es en→(∀e∈es,zT true e.1=true)→(zBX ks k es).isSome=true→∃o,(Instr.findAsking kt kv en i0).run P w= .ok o w∧zPf ks M ρ k es i0 o
 | [],en,i0,hr,_,_=>by simp only[qU] at hr;subst hr;exact⟨none,rfl, .inl ⟨rfl,rfl,fun v=>rfl⟩⟩
 |(k',d)::es,en,i0,hr,hsh,hm=>by
  simp only[qU] at hr;obtain⟨e,en',rfl,h1,h2,h3⟩:=hr;simp only[zBX] at hm;cases hq:eqK ks k.cells k'.cells with
  |none=>rw[hq] at hm;cases hm
  |some b=>
   have hs:=hsame k' e.key b h1 (hsh (k',d) (by simp)) hq;cases b with
   |true=>exact⟨some (i0,e.val),by simp[Instr.findAsking,hs], .inr ⟨0,k',d,e.val,rfl,rfl,h2,hq,by simp[zBX,hq],fun v=>by simp[zN4,hq]⟩⟩
   |false=>
    rw[hq] at hm;obtain⟨o,o1,o2⟩:=zDM hsame es en' (i0+1) h3 (fun e he=>hsh e (by simp[he])) hm;exact⟨o,by simp[Instr.findAsking,hs,o1],o2.later hq⟩
theorem zFg {kt:TypeId} {ag:Bool} {ks:List Kd} (hkt:zN6 P kt=some (ag,ks)) {k:D} {kv:Value} (hk:rel M ρ k kv) (hks:zT ag k=true) {es:List (D×D)} {en:List MapEntry} (hr:qU M ρ es en) (hsh:∀e∈es,zT ag e.1=true)
  (hm:(zBX ks k es).isSome=true):∃o,(Instr.findKey kt kv en).run P w= .ok o w∧zPf ks M ρ k es 0 o:=by
 obtain⟨h8,hag⟩:=zG0 hkt;have hq:∀ (k':D) (kv':Value) (b:Bool),rel M ρ k' kv'→zT ag k'=true→eqK ks k.cells k'.cells=some b→(Op.equal kt kv kv').run P w= .ok b w:=fun k' kv' b h1 h2 h3=>by
  have:=zMl (P:=P) (M:=M) (ρ:=ρ) (w:=w) 9992 8 kt ks ag h8 hag k k' kv kv' b hks h2 hk h1 h3;exact this
 obtain⟨td,hu,_⟩:=zGO (P:=P) (w:=w) hag;cases ag with
 |true=>
  obtain⟨o,o1,o2⟩:=zDM (P:=P) (w:=w) hq es en 0 hr hsh hm;refine⟨o,?_,o2⟩;unfold Instr.findKey;simp only[Sem.run_bind,run_underlying hu,Result.andThen_ok];have htd:∀a b,Instr.sameNow td a b=none:=by
   intro a b;unfold agT at hag;rw[hu] at hag;cases td<;>simp only at hag<;>(try (cases hag;done))<;>rfl
  cases en with
  |nil=>simpa [Instr.findAsking,Instr.findNow] using o1
  |cons e en'=>
   have hf:Instr.findNow td kv (e::en') 0=none:=by simp[Instr.findNow,htd]
   rw[hf];exact o1
 |false=>
  have hsame:∀ (k':D) (kv':Value) (b:Bool),rel M ρ k' kv'→zT false k'=true→eqK ks k.cells k'.cells=some b→Instr.sameNow td kv kv'=some b:=by
   intro k' kv' b h1 h2 h3;obtain⟨kk,rfl⟩:=zBR h8 hag;unfold wS at h8;rw[hu] at h8;have hnst:∀fs,td≠ .struct fs:=fun fs e=>by subst e;simp[agT,hu] at hag
   cases td<;>simp only at h8<;>(try (cases h8;done))<;>(try (exact absurd rfl (hnst _)))<;>(try (split at h8<;>cases h8))
   all_goals
    cases k<;>simp[zT] at hks<;>cases k'<;>simp[zT] at h2<;>simp[D.cells,eqK] at h3;simp only[rel] at hk h1
   ·subst hk h1 h3;rfl
   ·obtain⟨rfl,_⟩:=hk;obtain⟨rfl,_⟩:=h1;obtain⟨rfl,rfl⟩:=h3;simp[Instr.sameNow]
   ·obtain⟨bx,rfl,rfl,_⟩:=hk;obtain⟨by',rfl,rfl,_⟩:=h1;subst h3;simp only[Instr.sameNow];rw[beq_toListBytes,yc,yc]
  obtain⟨o,o1,o2⟩:=zG1 hsame es en 0 hr hsh hm;refine⟨o,?_,o2⟩;unfold Instr.findKey;simp only[Sem.run_bind,run_underlying hu,Result.andThen_ok,o1,Sem.run_pure]
def zOB (m:Value):Sem (Array MapEntry):=
 match m with
 | .map none=>pure #[]
 | .map (some r)=>do
  let .map es _←getObj r|stuck "no map"
  pure es
 |_=>stuck "no map"
def zG2 (e:TypeId) (o:Option (Nat×Value)):Sem (Value×Bool):=
 match o with
 |some (_,v)=>pure (v,true)
 |none=>do pure (←zeroValue e,false)
theorem zPg (hs:Sim w0 G M ρ h w) {m:D} {vm:Value} {es:List (D×D)} (hm:rel M ρ m vm) (hes:zID m h=some es):∃en:Array MapEntry,qU M ρ es en.toList∧(zOB vm).run P w= .ok en w:=by
 unfold zID at hes;split at hes
 ·cases hes;simp only[rel] at hm;subst hm;exact⟨#[],by simp[qU],rfl⟩
 ·rename_i id;split at hes
  ·rename_i es' hi;cases hes;simp only[rel] at hm;obtain⟨l,hl,rfl⟩:=hm;obtain⟨l',h1,_,en,cl,h2,h3⟩:=hs.live id _ hi;rw[hl] at h1;cases h1;exact⟨en,h3,by simp[zOB,getObj,Sem.run,h2]⟩
  ·cases hes
 ·cases hes
theorem zQ4 (P:Program) (w:World) (t kt e:TypeId) (vm vk:Value) (ok:Bool) (hu:P.underlying t=some (.map kt e)) {en:Array MapEntry} (hen:(zOB vm).run P w= .ok en w):
  (Instr.lookup t vm vk ok).run P w=(do
   Instr.checkKey en.isEmpty 10000 kt vk
   let o←Instr.findKey kt vk en.toList
   let (v,p)←zG2 e o
   pure (if ok then .tuple #[v, .bool p] else v):Sem Value).run P w:=by
 unfold Instr.lookup;simp only[Sem.run_bind,run_underlying hu,Result.andThen_ok];have tail:∀ (es:Array MapEntry) (w:World),(do
   Instr.checkKey es.isEmpty 10000 kt vk
   match←Instr.findKey kt vk es.toList with
    |some (_,v)=>do
     let x←pure (v,true)
     pure (if ok=true then Value.tuple #[x.1,Value.bool x.2] else x.1)
    |none=>do
     let l←zeroValue e
     let x←pure (l,false)
     pure (if ok=true then Value.tuple #[x.1,Value.bool x.2] else x.1):Sem Value).run P w =
   (Sem.run P (Instr.checkKey es.isEmpty 10000 kt vk) w).andThen fun _ w'=>
    (Sem.run P (Instr.findKey kt vk es.toList) w').andThen fun a w'=>
     (Sem.run P (zG2 e a) w').andThen fun a w'=>
      Sem.run P (pure (if ok=true then Value.tuple #[a.fst,Value.bool a.snd] else a.fst)) w':=by
  intro es w;simp only[Sem.run_bind];congr 1;funext _ w1;congr 1;funext o w2;cases o with
  |none=>
   simp only[zG2,Sem.run_bind,Sem.run_pure];cases(zeroValue e).run P w2<;>rfl
  |some p=>rfl
 cases vm with
 |map r=>
  cases r with
  |none=>
   cases hen;exact tail #[] w
  |some r=>
   simp only[zOB,Sem.run_bind] at hen⊢;cases hg:(getObj r).run P w with
   |ok ob w1=>
    rw[hg] at hen;simp only[Result.andThen_ok] at hen⊢;cases ob with
    |map es cl=>
     cases hen;exact tail en w
    |_=>cases hen
   |_=>rw[hg] at hen;cases hen
 |_=>cases hen
theorem zPh (hs:Sim w0 G M ρ h w) {t:TypeId} {m k d:D} {vm vk:Value} {ok:Bool} (hm:rel M ρ m vm) (hk:rel M ρ k vk) (hv:wB P t m k ok h=some d):YV P w0 G M ρ nid w (Instr.lookup t vm vk ok) d h:=by
 unfold wB at hv;split at hv
 ·cases hv
 ·rename_i kt e hmt;split at hv
  ·cases hv
  ·rename_i ag ks hkt;split at hv
   ·cases hv
   ·rename_i z hz;obtain⟨i,zv,_,_,hrz,hzrun⟩:=wh (P:=P) (M:=M) (ρ:=ρ) (w:=w) hz;split at hv
    ·cases hv
    ·rename_i es hes;unfold zCX at hv;split at hv
     ·rename_i hc;simp only[Bool.and_eq_true] at hc;obtain⟨⟨hks,hkd⟩,hall⟩:=hc;have hall':∀e∈es,zT ag e.1=true:=fun e he=>List.all_eq_true.1 hall e he;obtain⟨en,hen,hrun⟩:=zPg (P:=P) hs hm hes;obtain⟨h8,hag⟩:=zG0 hkt;have hck:=fun emp=>zCb (P:=P) (M:=M) (ρ:=ρ) (w:=w) emp 9992 8 kt ks ag h8 hag k vk hks hk hkd;split at hv
      ·rename_i r hr;cases hv;have hmf:(zBX ks k es).isSome=true:=by rw[hr];rfl
       obtain⟨o,o1,o2⟩:=zFg (P:=P) (w:=w) hkt hk hks hen hall' hmf;have hl:∀ (v:Value) (b:Bool),(zG2 e o).run P w= .ok (v,b) w→
         (Instr.lookup t vm vk ok).run P w= .ok (if ok then .tuple #[v, .bool b] else v) w:=by
        intro v b hvb;rw[zQ4 P w t kt e vm vk ok (zGs hmt) hrun];simp only[Sem.run_bind];rw[show(10000:Nat)=8+9992 from rfl,hck]
        simp only[Result.andThen_ok,o1,hvb,Sem.run_pure]
       rcases o2 with⟨rfl,f1,_⟩ | ⟨j,k',d',u,rfl,_,f2,_,f3,_⟩
       ·rw[f1] at hr;cases hr;refine .pure hs (hl zv false (by simp[zG2,hzrun])) ?_;cases ok with
        |true=>
         simp only[zCO,if_true,rel];exact⟨_,rfl,by simp only[zy];exact⟨_,_,rfl,hrz,_,_,rfl,ym _,rfl⟩⟩
        |false=>simpa [zCO] using hrz
       ·rw[f3] at hr;cases hr;refine .pure hs (hl u true rfl) ?_;cases ok with
        |true=>
         simp only[zCO,if_true,rel];exact⟨_,rfl,by simp only[zy];exact⟨_,_,rfl,f2,_,_,rfl,ym _,rfl⟩⟩
        |false=>simpa [zCO] using f2
      ·cases hv
     ·cases hv
theorem zGQ:∀ {ks:List Kd} {as bs:List D} {b:Bool},eqK ks as bs=some b→eqK ks bs as=some b
 | [],[],[],b,h=>h
 | .b::ks, .bool x::as, .bool y::bs,b,h=>by
  simp only[eqK,Option.map_eq_some_iff] at h⊢;obtain⟨q,h,hq⟩:=h;exact⟨q,zGQ h,by rw[←hq,Bool.beq_comm]⟩
 | .i::ks, .int k x::as, .int k' y::bs,b,h=>by
  simp only[eqK] at h⊢;split at h
  ·rename_i hk;subst hk;rw[if_pos rfl];simp only[Option.map_eq_some_iff] at h⊢;obtain⟨q,h,hq⟩:=h;exact⟨q,zGQ h,by rw[←hq,Bool.beq_comm]⟩
  ·cases h
 | .s::ks, .str x::as, .str y::bs,b,h=>by
  simp only[eqK,Option.map_eq_some_iff] at h⊢;obtain⟨q,h,hq⟩:=h;exact⟨q,zGQ h,by rw[←hq,Bool.beq_comm]⟩
theorem zXw {ks:List Kd} {ag:Bool} {k k':D} {kv kv':Value} (n:Nat) (h1:rel M ρ k kv) (h2:rel M ρ k' kv') (s1:zT ag k=true) (s2:zT ag k'=true) (he:eqK ks k.cells k'.cells=some true):Instr.sameBits (n+1) kv kv'=true:=by
 cases ag with
 |true=>
  cases k<;>simp[zT] at s1;cases k'<;>simp[zT] at s2;rename_i as bs;simp only[rel] at h1 h2;obtain⟨xs,rfl,hx,_⟩:=h1;obtain⟨ys,rfl,hy,_⟩:=h2;have hl:=zAF he;have hq:xs.size=ys.size:=by
   have a:=zU hx;have b:=zU hy;simp only[Array.length_toList] at a b;have c:=hl.1;have d:=hl.2;simp only[D.cells] at c d;omega
  have:=zA6 (n:=n) he hx hy;simp only[Instr.sameBits,hq,beq_self_eq_true,Bool.true_and];simpa using this
 |false=>
  have f1:k.cells= [k]:=by cases k<;>simp[zT] at s1<;>rfl
  have f2:k'.cells= [k']:=by cases k'<;>simp[zT] at s2<;>rfl
  rw[f1,f2] at he;have:=zA6 (M:=M) (ρ:=ρ) (xs:=[kv]) (ys:=[kv']) (n:=n+1) he ⟨kv,[],rfl,h1,rfl⟩ ⟨kv',[],rfl,h2,rfl⟩;simpa using this
theorem zK7 {k d:D} {e:MapEntry} (hk:rel M ρ k e.key) (hd:rel M ρ d e.val):∀ {es:List (D×D)} {en:List MapEntry} (i:Nat),qU M ρ es en→qU M ρ (es.set i (k,d)) (en.set i e)
 | [],en,i,h=>by simp only[qU] at h;subst h;simp[qU]
 |(k',d')::es,en,0,h=>by
  simp only[qU] at h;obtain⟨e',en',rfl,_,_,h3⟩:=h;simp only[List.set_cons_zero,qU];exact⟨e,en',rfl,hk,hd,h3⟩
 |(k',d')::es,en,i+1,h=>by
  simp only[qU] at h;obtain⟨e',en',rfl,h1,h2,h3⟩:=h;simp only[List.set_cons_succ,qU];exact⟨e',_,rfl,h1,h2,zK7 hk hd i h3⟩
theorem zIg {k d:D} {e:MapEntry} (hk:rel M ρ k e.key) (hd:rel M ρ d e.val):∀ {es:List (D×D)} {en:List MapEntry},qU M ρ es en→qU M ρ (es++ [(k,d)]) (en++ [e])
 | [],en,h=>by simp only[qU] at h;subst h;simp only[List.nil_append,qU];exact⟨e,[],rfl,hk,hd,rfl⟩
 |(k',d')::es,en,h=>by
  simp only[qU] at h;obtain⟨e',en',rfl,h1,h2,h3⟩:=h;simp only[List.cons_append,qU];exact⟨e',_,rfl,h1,h2,zIg hk hd h3⟩
theorem zK8:∀ {es:List (D×D)} {en:List MapEntry},qU M ρ es en→∀ (i:Nat) (k d:D),es[i]? =some (k,d)→∃e,en[i]? =some e∧rel M ρ k e.key∧rel M ρ d e.val
 | [],_,_,i,k,d,hi=>by simp at hi
 |(k',d')::es,en,h,i,k,d,hi=>by
  simp only[qU] at h;obtain⟨e',en',rfl,h1,h2,h3⟩:=h;cases i with
  |zero=>simp at hi;obtain⟨rfl,rfl⟩:=hi;exact⟨e',rfl,h1,h2⟩
  |succ i=>simp at hi;simpa using zK8 h3 i k d hi
theorem zEC (hs:Sim w0 G M ρ h w) {t:TypeId} {m k v:D} {vm vk vv:Value} {h':Heap} (hm:rel M ρ m vm) (hk:rel M ρ k vk) (hvv:rel M ρ v vv) (hv:yU P t m k v h=some h'):
  ∃w',(Instr.mapUpdate t vm vk vv).run P w= .ok () w'∧Sim w0 G M ρ h' w':=by
 unfold yU at hv;split at hv
 ·cases hv
 ·rename_i kt e hmt;split at hv
  ·rename_i ag ks hkt;split at hv
   ·rename_i id;split at hv
    ·rename_i es hi;split at hv
     ·rename_i hc;simp only[Bool.and_eq_true] at hc;obtain⟨⟨⟨hks,hkd⟩,hall⟩,hmf⟩:=hc;have hall':∀e∈es,zT ag e.1=true:=fun e he=>List.all_eq_true.1 hall e he;split at hv
      ·rename_i es' hput;cases hv;simp only[rel] at hm;obtain⟨l,hl,rfl⟩:=hm;obtain⟨l',h1,hbase,en,cl,h2,h3⟩:=hs.live id _ hi;rw[hl] at h1;cases h1;obtain⟨h8,hag⟩:=zG0 hkt;have hck:=zCb (P:=P) (M:=M) (ρ:=ρ) (w:=w) false 9992 8 kt ks ag h8 hag k vk hks hk hkd;obtain⟨o,o1,o2⟩:=zFg (P:=P) (w:=w) hkt hk hks h3 hall' hmf;have hget:(getObj l.blk).run P w= .ok (.map en cl) w:=by simp[getObj,Sem.run,h2]
       have hset:∀ob:Go.Obj,(setObj l.blk ob).run P w= .ok () { w with heap:=w.heap.setIfInBounds l.blk ob } :=fun ob=>by simp[setObj,Sem.run,h2]
       have hput':∀ (en':Array MapEntry) (cl':Nat),qU M ρ es' en'.toList→Sim w0 G M ρ (h.set id (.map es')) { w with heap:=w.heap.setIfInBounds l.blk (.map en' cl') } :=by
        intro en' cl' hrel;have hlt:l.blk<w.heap.size:=(Array.getElem?_eq_some_iff.1 h2).1;refine hs.put hi hl rfl rfl rfl (by simp) (fun b hb=>by simp only[Array.getElem?_setIfInBounds];rw[if_neg (fun e=>hb e.symm)]) (fun o v e=> ?_) ⟨_,h2,fun d=>by simp⟩ ⟨en',cl',by simp[hlt],hrel⟩;have:=hs.imm _ _ _ e;simp[World.cell?,h2] at this
       rcases o2 with⟨rfl,_,f1⟩ | ⟨j,k',d',u,rfl,f2,f3,f4,_,f5⟩
       ·rw[f1] at hput;cases hput;refine⟨_,?_,hput' (en.push { key:=vk,val:=vv,born:=cl }) (cl+1) (by rw[Array.toList_push];exact zIg hk hvv h3)⟩;unfold Instr.mapUpdate;simp only[Sem.run_bind,run_underlying (zGs hmt),Result.andThen_ok,hget];rw[show(10000:Nat)=8+9992 from rfl,hck]
        simp only[Result.andThen_ok,o1,hset]
       ·rw[f5] at hput;cases hput;obtain⟨e0,e1,e2,e3⟩:=zK8 h3 j k' d' f2;have he1:en[j]? =some e0:=by simpa using e1
        have hkeep:(Instr.keyThatStays e0.key vk).run P w= .ok vk w:=by
         have hsb:Instr.sameBits 10000 e0.key vk=true:=by
          exact zXw 9999 e2 hk (hall' _ (List.mem_of_getElem? f2)) hks (zGQ f4)
         simp[Instr.keyThatStays,hsb]
        have hmod:(en.modify j fun e=> { e with key:=vk,val:=vv }).toList=en.toList.set j { e0 with key:=vk,val:=vv } :=by
         apply List.ext_getElem?;intro q;rw[Array.getElem?_toList,Array.getElem?_modify,List.getElem?_set];have hjl:j<en.toList.length:=(List.getElem?_eq_some_iff.1 e1).1;by_cases hq:j=q
         ·subst hq;rw[if_pos rfl,if_pos rfl,if_pos hjl,he1];rfl
         ·rw[if_neg hq,if_neg hq,Array.getElem?_toList]
        refine⟨_,?_,hput' (en.modify j fun e=> { e with key:=vk,val:=vv }) cl (by rw[hmod];exact zK7 hk hvv j h3)⟩;unfold Instr.mapUpdate;simp only[Sem.run_bind,run_underlying (zGs hmt),Result.andThen_ok,hget];rw[show(10000:Nat)=8+9992 from rfl,hck]
        simp only[Result.andThen_ok,o1,Nat.zero_add,he1,Option.map_some,Option.getD_some,Sem.run_bind,hkeep,hset]
      ·cases hv
     ·cases hv
    ·cases hv
   ·cases hv
  ·cases hv
theorem zMw (hs:Sim w0 G M ρ h w) (hn:ρ nid=none) {t:TypeId} :YV P w0 G M ρ nid w (Instr.makeMap t none) (.map nid) (h.new nid (.map [])):=by
 have k:=hs.allocObj hn (.map #[] 0) (.map []) ⟨w.heap.size,0,0⟩ rfl ⟨#[],0,by show(w.heap.push _)[w.heap.size]? =_;simp,by simp[qU]⟩;refine⟨.map (some w.heap.size),_,M,_,by simp[Instr.makeMap],MLe.refl _,yw hn,fun i hi=>by simp[zAE,zBk hi],k,?_⟩;simp only[rel];exact⟨_,by simp[zAE];rfl,rfl⟩
end
def zWN:Operand→Bool
 | .tmp _=>true
 | .const v=>zBh v
 | .global _=>false
 | .func _=>true
def zPi (o:Op):Bool:=o.operands.toList.all zWN
def YN (P:Program) (w0:Base) (G:List Nat) (M:Imm) (ρ:Ren) (nid:Nat) (w:World) (s:Sem Next) (d:D) (h':Heap):Prop:=
 ∃nx v w' M' ρ',s.run P w= .ok nx w'∧(nx= .value v∨(nx= .skip∧v=undef))∧MLe M M'∧RLe ρ ρ'∧(∀i,h'.next≤i∨i≠nid→ρ' i=ρ i)∧Sim w0 G M' ρ' h' w'∧rel M' ρ' d v
section
variable {P:Program} {w0:Base} {G:List Nat} {M:Imm} {ρ:Ren} {h:Heap} {w:World} {nid:Nat}
theorem YV.next {s:Sem Value} {d:D} {h':Heap} (k:YV P w0 G M ρ nid w s d h'):YN P w0 G M ρ nid w (do Pure.pure (Next.value (←s))) d h':=by
 obtain⟨v,w',M',ρ',k1,k2,k3,k4,k5,k6⟩:=k;exact⟨.value v,v,w',M',ρ',by simp[k1], .inl rfl,k2,k3,k4,k5,k6⟩
theorem zCc:rel M ρ wA undef:=by
 unfold wA undef;simp only[rel,zy];exact⟨#[],rfl,rfl⟩
theorem YN.skip {s:Sem Unit} {h':Heap} (k:∃w',s.run P w= .ok () w'∧Sim w0 G M ρ h' w'):YN P w0 G M ρ nid w (do s;pure Next.skip) wA h':=by
 obtain⟨w',k1,k2⟩:=k;exact⟨.skip,undef,w',M,ρ,by simp[k1], .inr ⟨rfl,rfl⟩,MLe.refl _,RLe.refl _,fun _ _=>rfl,k2,zCc⟩
theorem YN.still {s:Sem Next} {d:D} {v:Value} (hs:Sim w0 G M ρ h w) (hr:s.run P w= .ok (.value v) w) (hd:rel M ρ d v):YN P w0 G M ρ nid w s d h:=
 ⟨.value v,v,w,M,ρ,hr, .inl rfl,MLe.refl _,RLe.refl _,fun _ _=>rfl,hs,hd⟩
theorem zED {fr:Frm} {a:Act} (hf:zIb M ρ fr a.tmps):∀ {x:Operand},zWN x=true→rel M ρ (zz fr x) (a.eval x)
 | .tmp t,_=>hf t
 | .const v,h=>zMq v h
 | .global _,h=>by simp[zWN] at h
 | .func f,_=>by
  simp only[zz,Act.eval,rel,zy];exact⟨⟨f,rfl⟩,#[],#[],rfl,rfl,rfl⟩
theorem zCd {fr:Frm} {a:Act} (hf:zIb M ρ fr a.tmps):∀ {xs:List Operand},xs.all zWN=true→zy M ρ (xs.map (zz fr)) (xs.map a.eval)
 | [],_=>rfl
 |x::xs,h=>by
  simp only[List.all_cons,Bool.and_eq_true] at h;exact⟨_,_,rfl,zED hf h.1,zCd hf h.2⟩
theorem zQ5 (hs:Sim w0 G M ρ h w) (hn:ρ nid=none) {t:TypeId} {x d:D} {vx:Value} {h':Heap} (hx:rel M ρ x vx) (hv:zFb P nid t x h=some (d,h')):YV P w0 G M ρ nid w (Instr.range t vx) d h':=by
 unfold zFb at hv;split at hv
 ·rename_i s;split at hv
  ·rename_i hu;cases hv;simp only[rel] at hx;obtain⟨b,rfl,rfl,hlim⟩:=hx;have hS:=hs.allocObj hn (.stringIter b 0) (.siter b.data.toList 0) ⟨w.heap.size,0,0⟩ rfl ⟨b,by show(w.heap.push _)[w.heap.size]? =_;simp,rfl⟩;refine⟨.pointer (some ⟨w.heap.size,0,none⟩),_,M,_,?_,MLe.refl _,yw hn,fun i hi=>by simp[zAE,zBk hi],hS,?_⟩
   ·simp only[Instr.range,Sem.run_bind,run_underlying hu,Result.andThen_ok,Sem.run_pure,run_newObj,World.alloc_eq]
   ·simp only[rel];exact⟨_,by simp[zAE];rfl,rfl⟩
  ·cases hv
 ·cases hv
theorem zUQ (hs:Sim w0 G M ρ h w) {ty:TypeId} {x d:D} {isS:Bool} {vx:Value} {h':Heap} (hx:rel M ρ x vx) (hv:zIF x isS h=some (d,h')):YV P w0 G M ρ nid w (Instr.next vx isS ty) d h':=by
 unfold zIF at hv;split at hv
 ·rename_i id off;split at hv
  ·rename_i s pos hi;split at hv
   ·rename_i hc;simp only[Bool.and_eq_true,decide_eq_true_eq] at hc;obtain⟨rfl,rfl⟩:=hc;simp only[rel] at hx;obtain⟨l,hl,rfl⟩:=hx;obtain⟨l',h1,hbase,b,hw,hb⟩:=hs.live id _ hi;rw[hl] at h1;cases h1;have hsz:b.size=s.length:=by rw[←hb,Array.length_toList];rfl
    have hbs:(⟨s.toArray⟩:ByteArray)=b:=by rw[←hb]
    have hlt:l.blk<w.heap.size:=(Array.getElem?_eq_some_iff.1 hw).1;split at hv
    ·rename_i hp;split at hv
     ·rename_i hr;simp only[Bool.and_eq_true,decide_eq_true_eq,beq_iff_eq] at hr;cases hv;have hS:Sim w0 G M ρ (h.set id (.siter s (pos+(wC s pos).2))) { w with heap:=w.heap.setIfInBounds l.blk (.stringIter b (pos+(wC s pos).2)) } :=by
       refine hs.put hi hl rfl rfl rfl (by simp) (fun b' hb'=>by simp only[Array.getElem?_setIfInBounds];rw[if_neg (fun e=>hb' e.symm)]) (fun o v e=> ?_) ⟨_,hw,fun d=>by simp⟩ ⟨b,by simp[hlt],hb⟩;have:=hs.imm _ _ _ e;simp[World.cell?,hw] at this
      refine⟨.tuple #[.bool true, .int .i64 pos, .int .i32 (wC s pos).1],_,M,ρ,?_,MLe.refl _,RLe.refl _,fun _ _=>rfl,hS,?_⟩
      ·have hp':pos<b.size:=by omega
       have hd:Utf8.decode b pos=wC s pos:=by unfold wC;rw[hbs]
       simp only[Instr.next,getObj,Sem.run_bind,Sem.run,hw,Result.andThen_ok,hp',if_true,hd];simp[setObj,Sem.run,hw];rfl
      ·simp only[rel,zy];refine⟨_,rfl,_,_,rfl,rfl,_,_,rfl,⟨rfl,?_⟩,_,_,rfl,⟨rfl,hr.2⟩,rfl⟩;have:=zFf (n:=pos) (by omega);exact this
     ·cases hv
    ·rename_i hp;cases hv;have hp':¬pos<b.size:=by omega
     refine .pure hs (v:= .tuple #[.bool false]) ?_ ?_
     ·simp only[Instr.next,getObj,Sem.run_bind,Sem.run,hw,Result.andThen_ok,hp',if_false];rfl
     ·simp only[rel,zy];exact⟨_,rfl,_,_,rfl,rfl,rfl⟩
   ·cases hv
  ·cases hv
 ·cases hv
theorem yM {α β:Type} {o:Option α} {f:α→β} {b:β} (h:o.map f=some b):∃a,o=some a∧f a=b:=by simpa [Option.map_eq_some_iff] using h
theorem zMx (hs:Sim w0 G M ρ h w) (hn:ρ nid=none) {mu:Bool} {b:Builtin} {ats:Array TypeId} {ty:TypeId} {cs:Array Bool} {ds:List D} {vs:Array Value} {d:D} {h':Heap} (hr:zy M ρ ds vs.toList)
  (hv:zAT P mu nid b ats.toList ds h=some (d,h')):YN P w0 G M ρ nid w (builtin b ats ty cs vs) d h':=by
 obtain⟨ats⟩:=ats;obtain⟨vs⟩:=vs;simp only at hr hv;unfold zAT at hv;split at hv
 ·split at hv
  ·split at hv
   ·simp only[zy] at hr;obtain⟨v,_,rfl,hr,rfl⟩:=hr;obtain⟨e,h1,h2⟩:=yM hv;cases h2;exact(zXu hs hr h1).next
   ·cases hv
  ·cases hv
 ·split at hv
  ·split at hv
   ·rename_i t u s x;split at hv
    ·rename_i hsp;simp only[zy] at hr;obtain⟨v,_,rfl,hr,v',_,rfl,hr',rfl⟩:=hr;unfold zAf at hsp;split at hsp
     ·cases hsp
     ·rename_i ud hnot hu;exact(zMs hs hn hu (fun k e=>by subst e;first|exact hnot k rfl|exact hnot k hu) hr hr' hv).next
     ·cases hsp
    ·simp only[zy] at hr;obtain⟨v,_,rfl,hr,v',_,rfl,hr',rfl⟩:=hr;exact YV.next (s:=Builtin.append_ _ ty _) (zMv hs hn hr hr' hv)
   ·cases hv
  ·cases hv
 ·split at hv
  ·simp only[zy] at hr;obtain⟨v,_,rfl,hr,v',_,rfl,hr',rfl⟩:=hr;obtain⟨e,h1,h2⟩:=yM hv;cases h2;exact(zXv (t:=0) hs _ hr hr' h1).next
  ·cases hv
 ·split at hv
  ·rw[zy] at hr;obtain⟨v,vs,rfl,hr,hr'⟩:=hr;obtain⟨e,h1,h2⟩:=yM hv;cases h2;exact(zUO hs _ hr hr' h1).next
  ·cases hv
 ·split at hv
  ·split at hv
   ·split at hv
    ·rename_i x;simp only[zy] at hr;obtain⟨v,_,rfl,hr,rfl⟩:=hr;split at hv
     ·rename_i e hu;cases hv;simp only[rel] at hr;subst hr;refine YV.next (s:=Builtin.cap_ _ ty _) (.pure hs (v:= .int .i64 0) (by simp[Builtin.cap_,run_underlying hu,goInt]) (yg ?_));rw[wY];simp[IntKind.min,IntKind.max,IntKind.signed,IntKind.bits]
     ·cases hv
    ·cases hv
   ·cases hv
  ·cases hv
 ·split at hv
  ·split at hv
   ·split at hv
    ·rename_i x id sz off n;simp only[zy] at hr;obtain⟨v,_,rfl,hr,rfl⟩:=hr;split at hv
     ·cases hv
     ·rename_i n0 hn0;cases hv;simp only[rel] at hr;obtain⟨_,hxl,l,cap,o,hl,rfl,hcap,hlsz,ho0⟩:=hr;have hn1:n≠0:=fun q=>hn0 q;obtain rfl:o=0:=ho0.resolve_left (by omega);refine YV.next (s:=Builtin.unsafeSliceData_ _ ty _) (.pure hs (Go.Lib.run_unsafeSliceData_row w _ _ ⟨l.blk,0,none⟩ n cap (by omega)) ?_);simp only[rel];exact⟨l,hl,rfl⟩
     ·cases hv
    ·simp only[zy] at hr;obtain⟨v,_,rfl,hr,rfl⟩:=hr;cases hv;simp only[rel] at hr;subst hr;exact YV.next (s:=Builtin.unsafeSliceData_ _ ty _) (.pure hs rfl (by simp only[rel]))
    ·cases hv
   ·cases hv
  ·cases hv
 ·split at hv
  ·split at hv
   ·simp only[zy] at hr;obtain⟨v,_,rfl,hr,v',_,rfl,hr',rfl⟩:=hr;exact YV.next (s:=Builtin.unsafeString_ _ ty _) (zJl hs hr hr' hv)
   ·cases hv
  ·cases hv
 ·split at hv
  ·split at hv
   ·simp only[zy] at hr;obtain⟨v,_,rfl,hr,rfl⟩:=hr;obtain⟨e,h1,h2⟩:=yM hv;cases h2;obtain⟨w',k1,k2⟩:=zQ3 (ty:=ty) hs hr h1;refine YV.next (s:=Builtin.clear_ _ ty _) ⟨_,w',M,ρ,k1,MLe.refl _,RLe.refl _,fun _ _=>rfl,k2,zCc⟩
   ·cases hv
  ·cases hv
 ·cases hv
theorem zWO (hs:Sim w0 G M ρ h w) (hn:ρ nid=none) {mu:Bool} {fr:Frm} {a:Act} (hf:zIb M ρ fr a.tmps) {o:Oper} (hok:zPi o.op=true) {d:D} {h':Heap} (hv:vop P mu nid o.op (zz fr) h=some (d,h')):
  YN P w0 G M ρ nid w (execOp a.eval o) d h':=by
 obtain⟨dst,op,ty,pos,after,guard⟩:=o;have hop:∀x∈op.operands.toList,rel M ρ (zz fr x) (a.eval x):=fun x hx=>zED hf (List.all_eq_true.1 hok x hx);cases op<;>simp only[vop] at hv<;>(try (cases hv;done))<;>simp only[Op.operands] at hop<;>simp only[execOp]
 case move x=>cases hv;exact .still hs rfl (hop x (by simp))
 case assign x=>cases hv;exact .still hs rfl (hop x (by simp))
 case pick c x y=>
  have hc:=hop c (by simp);split at hv
  ·rename_i e;rw[e] at hc;simp only[rel] at hc;cases hv;exact .still hs (by simp[hc,asBool]) (hop x (by simp))
  ·rename_i e;rw[e] at hc;simp only[rel] at hc;cases hv;exact .still hs (by simp[hc,asBool]) (hop y (by simp))
  ·cases hv
 case alloc t=>
  split at hv
  ·rename_i z hz;split at hv
   ·rename_i ht;cases hv;exact(zQx hs hn hz ht).next
   ·cases hv
  ·cases hv
 case box t x=>
  split at hv
  ·rename_i ht;split at hv
   ·rename_i hm;cases hv;exact(zGv hs hn (hop x (by simp)) ht).next
   ·cases hv;exact(zMp hs (hop x (by simp)) ht).next
  ·cases hv
 case build t ps=>
  obtain⟨e,h1,h2⟩:=yM hv;cases h2;exact(zQ0 hs (zz fr) a.eval (fun p hp=>hop p.2 (by simp;exact⟨p.1,by simpa using hp⟩)) h1).next
 case buildSlice t n ps=>
  exact(zIH hs hn (zz fr) a.eval (fun p hp=>hop p.2 (by simp;exact⟨p.1,by simpa using hp⟩)) hv).next
 case load t x=>
  obtain⟨e,h1,h2⟩:=yM hv;cases h2;exact(zUJ hs (hop x (by simp)) h1).next
 case store t x y=>
  obtain⟨e,h1,h2⟩:=yM hv;cases h2;exact .skip (zQy hs (hop x (by simp)) (hop y (by simp)) h1)
 case nilCheck x=>
  obtain⟨e,h1,h2⟩:=yM hv;cases h2;have hx:=hop x (by simp);unfold zAY at h1;split at h1<;>(try (cases h1;done))<;>rename_i e<;>rw[e] at hx<;>cases h1
  ·have hx':=hx;simp only[rel] at hx';obtain⟨l,_,e⟩:=hx';rw[e] at hx⊢;exact .still hs rfl hx
  ·have hx':=hx;simp only[rel] at hx';obtain⟨b,p,e,_⟩:=hx';rw[e] at hx⊢;exact .still hs rfl hx
  ·have hx':=hx;simp only[rel] at hx';obtain⟨_,va,vc,e,_⟩:=hx';rw[e] at hx⊢;exact .still hs rfl hx
  ·have hx':=hx;simp only[rel] at hx';obtain⟨l,_,e⟩:=hx';rw[e] at hx⊢;exact .still hs rfl hx
 case binOp op t x y u=>
  obtain⟨e,h1,h2⟩:=yM hv;cases h2;exact(zXs hs x y (hop x (by simp)) (hop y (by simp)) h1).next
 case unOp op t x=>
  obtain⟨e,h1,h2⟩:=yM hv;cases h2;exact(zbN hs (hop x (by simp)) h1).next
 case convert s t x=>
  obtain⟨e,h1,h2⟩:=yM hv;cases h2;exact(zQ2 hs (hop x (by simp)) h1).next
 case makeInterface t x=>
  split at hv
  ·rename_i hc;cases hv;unfold zbM at hc;refine YV.next (YV.pure (s:=Instr.makeInterface t (a.eval x)) hs (v:= .iface t (a.eval x)) ?_ (by simp only[rel];exact⟨_,rfl,hop x (by simp)⟩));split at hc
   ·cases hc
   ·rename_i ud hnot hu;cases ud<;>first|(exact absurd rfl (hnot _);done)|(exact absurd hu (hnot _);done)|(simp only[Instr.makeInterface,Sem.run_bind,run_underlying hu,Result.andThen_ok];rfl)
   ·cases hc
  ·cases hv
 case makeFunc g x y=>
  split at hv
  ·rename_i f;cases hv;refine YV.next (YV.pure (s:=Instr.makeFunc (.func f) (x.map a.eval) (y.map a.eval)) hs (v:= .func (.func f) (x.map a.eval) (y.map a.eval)) (by simp[Instr.makeFunc]) ?_);simp only[rel];refine⟨⟨f,rfl⟩,_,_,rfl,?_,?_⟩
   ·rw[Array.toList_map];exact zCd hf (List.all_eq_true.2 fun z hz=>List.all_eq_true.1 hok z (by simp[Op.operands];exact .inl (by simpa using hz)))
   ·rw[Array.toList_map];exact zCd hf (List.all_eq_true.2 fun z hz=>List.all_eq_true.1 hok z (by simp[Op.operands];exact .inr (by simpa using hz)))
  ·cases hv
 case makeMap t r=>
  split at hv
  ·cases hv;exact(zMw hs hn).next
  ·cases hv
 case makeSlice t x y=>exact(zJm hs hn (hop x (by simp)) (hop y (by simp)) hv).next
 case slice t x lo hi mx=>
  obtain⟨e,h1,h2⟩:=yM hv;cases h2;unfold yZ at h1;split at h1
  ·rename_i na ea hta;cases mx with
   |some m=>cases h1
   |none=>
    refine(zPd (vlo:=lo.map a.eval) (vhi:=hi.map a.eval) hs hta (hop x (by simp)) ?_ ?_ ?_ ?_ h1).next
    ·intro d hd;cases lo with
     |none=>cases hd
     |some z=>cases hd;exact⟨_,rfl,hop z (by simp)⟩
    ·intro hd;cases lo with
     |none=>rfl
     |some z=>cases hd
    ·intro d hd;cases hi with
     |none=>cases hd
     |some z=>cases hd;exact⟨_,rfl,hop z (by simp)⟩
    ·intro hd;cases hi with
     |none=>rfl
     |some z=>cases hd
  cases mx with
  |some m=>
   cases hi with
   |none=>simp[zCN] at h1
   |some u=>
    refine(zPc (vlo:=lo.map a.eval) hs (hop x (by simp)) ?_ ?_ (hop u (by simp)) (hop m (by simp)) h1).next
    ·intro d hd;cases lo with
     |none=>cases hd
     |some z=>cases hd;exact⟨_,rfl,hop z (by simp)⟩
    ·intro hd;cases lo with
     |none=>rfl
     |some z=>cases hd
  |none=>
   refine(zQv (vlo:=lo.map a.eval) (vhi:=hi.map a.eval) hs (hop x (by simp)) ?_ ?_ ?_ ?_ h1).next
   ·intro d hd;cases lo with
    |none=>cases hd
    |some z=>cases hd;exact⟨_,rfl,hop z (by simp)⟩
   ·intro hd;cases lo with
    |none=>rfl
    |some z=>cases hd
   ·intro d hd;cases hi with
    |none=>cases hd
    |some z=>cases hd;exact⟨_,rfl,hop z (by simp)⟩
   ·intro hd;cases hi with
    |none=>rfl
    |some z=>cases hd
 case fieldAddr t x f=>
  obtain⟨e,h1,h2⟩:=yM hv;cases h2;exact(zJe hs (hop x (by simp)) h1).next
 case field t x f=>
  obtain⟨e,h1,h2⟩:=yM hv;cases h2;unfold zWL at h1;split at h1
  ·rename_i hft;split at h1
   ·rename_i cs ecs;split at h1
    ·rename_i hag;have hx:=hop x (by simp);rw[ecs] at hx;exact(zQu hs hx hft hag h1).next
    ·cases h1
   ·cases h1
  ·cases h1
 case indexAddr t x y=>
  obtain⟨e,h1,h2⟩:=yM hv;cases h2;exact(zJf hs (hop x (by simp)) (hop y (by simp)) h1).next
 case index t x y=>
  obtain⟨e,h1,h2⟩:=yM hv;cases h2;exact(zQt hs (hop x (by simp)) (hop y (by simp)) h1).next
 case lookup t x y ok=>
  obtain⟨e,h1,h2⟩:=yM hv;cases h2;exact(zPh hs (hop x (by simp)) (hop y (by simp)) h1).next
 case mapUpdate t x y z=>
  obtain⟨e,h1,h2⟩:=yM hv;cases h2;exact .skip (zEC hs (hop x (by simp)) (hop y (by simp)) (hop z (by simp)) h1)
 case insert t x y z=>
  obtain⟨e,h1,h2⟩:=yM hv;cases h2;exact .skip (zEC hs (hop x (by simp)) (hop y (by simp)) (hop z (by simp)) h1)
 case range t x=>exact(zQ5 hs hn (hop x (by simp)) hv).next
 case next x isS=>exact(zUQ hs (hop x (by simp)) hv).next
 case extract x i=>
  obtain⟨e,h1,h2⟩:=yM hv;cases h2;exact(zMo hs (hop x (by simp)) h1).next
 case call c=>
  split at hv
  ·rename_i b hb;have hr:zy M ρ (c.args.toList.map (zz fr)) (c.args.map a.eval).toList:=by
    rw[Array.toList_map];exact zCd hf (List.all_eq_true.2 fun z hz=>List.all_eq_true.1 hok z (by simp[Op.operands,Call.operands,hb];simpa using hz))
   have:=zMx (P:=P) (ty:=ty) (cs:=c.args.map fun| .const _=>true|_=>false) hs hn hr hv
   obtain⟨nx,v,w',M',ρ',k⟩:=this;refine⟨nx,v,w',M',ρ',?_,k.2⟩;rw[←k.1];simp only[resolve,hb,Sem.run_bind,Sem.run_pure,Result.andThen_ok,invoke];rfl
  ·cases hv
end
def zBn (ρ:Ren) (n:Nat):Prop:=∀i,n≤i→ρ i=none
def Ret (w0:Base) (G:List Nat) (M:Imm) (ρ:Ren) (Q:D→Heap→Prop) (e:Ending) (w':World):Prop:=
 ∃v M' ρ' d h',e= .returned v∧MLe M M'∧RLe ρ ρ'∧Sim w0 G M' ρ' h' w'∧zBn ρ' h'.next∧rel M' ρ' d v∧Q d h'
def qV (P:Program) (g:FuncId):Bool:=
 match P.funcs[g]? with
 |some fn=>fn.body.isSome&&fn.name != "runtime.NumGoroutine"
 |none=>false
noncomputable def zAG:String:=String.ofList [Char.ofNat 105,Char.ofNat 110,Char.ofNat 116,Char.ofNat 101,Char.ofNat 114,Char.ofNat 110,Char.ofNat 97,Char.ofNat 108,Char.ofNat 47,Char.ofNat 115,Char.ofNat 116,Char.ofNat 114,Char.ofNat 99,Char.ofNat 111,Char.ofNat 110,Char.ofNat 118,Char.ofNat 46,Char.ofNat 117,Char.ofNat 105,Char.ofNat 110,Char.ofNat 116,Char.ofNat 54,Char.ofNat 52,Char.ofNat 112,Char.ofNat 111,Char.ofNat 119,Char.ofNat 49,Char.ofNat 48]
noncomputable def zG3:String:=String.ofList [Char.ofNat 105,Char.ofNat 110,Char.ofNat 116,Char.ofNat 101,Char.ofNat 114,Char.ofNat 110,Char.ofNat 97,Char.ofNat 108,Char.ofNat 47,Char.ofNat 98,Char.ofNat 121,Char.ofNat 116,Char.ofNat 101,Char.ofNat 97,Char.ofNat 108,Char.ofNat 103,Char.ofNat 46,Char.ofNat 77,Char.ofNat 97,Char.ofNat 120,Char.ofNat 76,Char.ofNat 101,Char.ofNat 110]
def zMy (P:Program) (w:World):Prop:=(∀g,P.globalNamed zAG=some g→Lib.TabIs P w zAG .u64 Lib.pow10Tab)∧∀g,P.globalNamed zG3=some g→∃m,w.cell? ⟨g,0,none⟩ =some (.int .i64 m)
def zJn (P:Program) (w0:Base):Prop:=(∀g,P.globalNamed zAG=some g→w0.keep g∧Lib.TabIs P w0.toWorld zAG .u64 Lib.pow10Tab)∧∀g,P.globalNamed zG3=some g→w0.keep g∧∃m,w0.toWorld.cell? ⟨g,0,none⟩ =some (.int .i64 m)
theorem zJn.here {P:Program} {w0:Base} {w:World} (hg:zJn P w0) (hk:Kept w0 w) {g:Nat} (h:P.globalNamed zAG=some g):Lib.TabIs P w zAG .u64 Lib.pow10Tab:=by
 obtain⟨h1,h2⟩:=hg.1 g h;unfold Lib.TabIs World.var? at h2⊢;rw[h] at h2⊢;simp only[Option.bind_some] at h2⊢;rw[hk.block g h1];exact h2
theorem zJn.max {P:Program} {w0:Base} {w:World} (hg:zJn P w0) (hk:Kept w0 w) {g:Nat} (h:P.globalNamed zG3=some g):∃m,w.cell? ⟨g,0,none⟩ =some (.int .i64 m):=by
 obtain⟨h1,m,h2⟩:=hg.2 g h;refine⟨m,?_⟩;unfold World.cell? at h2⊢;rw[hk.block g h1];exact h2
theorem zJn.world {P:Program} {w0:Base} {w:World} (hg:zJn P w0) (hk:Kept w0 w):zMy P w:=by
 refine⟨fun g h=> ?_,fun g h=> ?_⟩
 ·exact hg.here hk h
 ·exact hg.max hk h
theorem zJn.base {P:Program} {w0:Base} {w:World} (hg:zJn P w0) (hk:Kept w0 w) {M:Imm} {K:Nat→Prop} {kept:∀b,K b→b<w.heap.size} (hK:∀b,w0.keep b→K b):zJn P ⟨w,M,K,kept⟩:=by
 refine⟨fun g h=> ?_,fun g h=> ?_⟩
 ·exact⟨hK g (hg.1 g h).1,hg.here hk h⟩
 ·exact⟨hK g (hg.2 g h).1,hg.max hk h⟩
theorem zJn.start {P:Program} {w:World} (h:zMy P w) {M:Imm} {kept:∀b,b<w.heap.size→b<w.heap.size} :zJn P ⟨w,M,fun b=>b<w.heap.size,kept⟩:=by
 refine⟨fun g hg=> ?_,fun g hg=> ?_⟩
 ·have ht:=h.1 g hg;refine⟨?_,ht⟩;unfold Lib.TabIs World.var? at ht;rw[hg] at ht;simp only[Option.bind_some] at ht;split at ht
  ·rename_i hh;exact(Array.getElem?_eq_some_iff.1 hh).1
  ·cases ht
 ·obtain⟨m,hm⟩:=h.2 g hg;refine⟨?_,m,hm⟩;unfold World.cell? at hm;simp only at hm;split at hm
  ·rename_i hh;exact(Array.getElem?_eq_some_iff.1 hh).1
  ·cases hm
def zA (P:Program) (g:FuncId) (args:List D) (h:Heap) (Q:D→Heap→Prop):Prop:=
 qV P g=true∧∀w0 G M ρ w va,zJn P w0→Sim w0 G M ρ h w→zBn ρ h.next→zy M ρ args va.toList→Calls P g va w (Ret w0 G M ρ Q)
def qp (P:Program) (id:Nat) (args:List D) (h:Heap) (Q:D→Heap→Prop):Prop:=
 ∀w0 G M ρ w va l,zJn P w0→Sim w0 G M ρ h w→zBn ρ h.next→zy M ρ args va.toList→ρ id=some l→
  ∃f tmps as body,(Instr.yield l.blk va).run P w= .ok (.round l.blk f tmps as body) w∧RoundIn Fence.wide 0 P l.blk f tmps as body w (Ret w0 G M ρ Q)
def zIJ (P:Program) (f:D) (args:List D) (h:Heap) (Q:D→Heap→Prop):Prop:=
 match f with
 | .fn g first cap=>match g with
  | .func g=>zA P g (first++args++cap) h Q
  |_=>False
 | .yld id=>qp P id args h Q
 |_=>False
theorem Ret.mono {w0:Base} {G:List Nat} {M:Imm} {ρ:Ren} {Q Q':D→Heap→Prop} {e:Ending} {w':World} (hq:∀d h,Q d h→Q' d h):Ret w0 G M ρ Q e w'→Ret w0 G M ρ Q' e w'
 | ⟨v,M',ρ',d,h',k1,k2,k3,k4,k5,k6,k7⟩=>⟨v,M',ρ',d,h',k1,k2,k3,k4,k5,k6,hq _ _ k7⟩
theorem zA.mono {P:Program} {g:FuncId} {args:List D} {h:Heap} {Q Q':D→Heap→Prop} (k:zA P g args h Q) (hq:∀d h,Q d h→Q' d h):zA P g args h Q':=
 ⟨k.1,fun w0 G M ρ w va h0 h1 h2 h3=>(k.2 w0 G M ρ w va h0 h1 h2 h3).mono fun _ _=>Ret.mono hq⟩
theorem qp.mono {P:Program} {g:Nat} {args:List D} {h:Heap} {Q Q':D→Heap→Prop} (k:qp P g args h Q) (hq:∀d h,Q d h→Q' d h):qp P g args h Q':=
 fun w0 G M ρ w va l h0 h1 h2 h3 h4=>let ⟨f,t,a,b,k1,k2⟩:=k w0 G M ρ w va l h0 h1 h2 h3 h4;⟨f,t,a,b,k1,k2.mono fun _ _=>Ret.mono hq⟩
theorem zIJ.mono {P:Program} {f:D} {args:List D} {h:Heap} {Q Q':D→Heap→Prop} (hq:∀d h,Q d h→Q' d h) (k:zIJ P f args h Q):zIJ P f args h Q':=by
 cases f<;>simp only[zIJ] at k⊢
 case fn g first cap=>
  cases g<;>simp only at k⊢;exact zA.mono k hq
 case yld id=>exact qp.mono k hq
def qK (o:Op):Option (Operand×List Operand):=
 match o with
 | .call c=>match c.callee with
  | .value f=>some (f,c.args.toList)
  |_=>none
 |_=>none
def qn (P:Program) (mu:Bool) (nid:Nat) (o:Op) (ev:Operand→D) (h:Heap) (K:D→Heap→Prop):Prop:=
 match qK o with
 |some (f,args)=>zIJ P (ev f) (args.map ev) h K
 |none=>match vop P mu nid o ev h with
  |some (d,h')=>K d h'
  |none=>False
def y9 (ops:Array Oper) (fr:Frm) (g:Option (Nat×Bool)):Bool:=
 match g with
 |none=>true
 |some (j,want)=>match(ops[j]?).bind (·.dst) with
  |some t=>match fr t with
   | .bool b=>b==want
   |_=>false
  |none=>false
def zAe (fr:Frm) (dst:Option Tmp) (d:D):Frm:=
 match dst with
 |some t=>fun i=>if i=t then d else fr i
 |none=>fr
def zFh (mu:Tmp→Bool):Option Tmp→Bool
 |some t=>mu t
 |none=>false
def HLe (h h':Heap):Prop:=∀i ob,h.at' i=some ob→h'.at' i=some ob
def zWP (P:Program) (h0:Heap) (o:Op) (ev:Operand→D) (d:D):Prop:=∀h',HLe h0 h'→qn P false h'.next o ev h' fun d' h''=>d'=d∧h''=h'
inductive Fl where
 |no|st|qu|al (k:Nat)
def Fl.isSt:Fl→Bool
 | .st=>true
 |_=>false
def Fl.isQu:Fl→Bool
 | .qu=>true
 |_=>false
def Fl.isNo:Fl→Bool
 | .no=>true
 |_=>false
def Fl.isAl:Fl→Bool
 | .al _=>true
 |_=>false
def ux (P:Program) (mu:Tmp→Bool) (h0:Heap) (st:Fl) (ops:Array Oper) (o:Oper) (fr:Frm) (h:Heap) (k:D→Heap→Prop):Prop:=
 match y9 ops fr o.guard with
 |false=>k wA h
 |true=>match st with
  | .st=>∃d,zWP P h0 o.op (zz fr) d∧k d h
  | .no=>qn P (zFh mu o.dst) h.next o.op (zz fr) h k
  | .qu=>qn P (zFh mu o.dst) h.next o.op (zz fr) h fun d h'=>h'=h∧k d h
  | .al i=>qn P (zFh mu o.dst) (h0.next+i) o.op (zz fr) h k
def zH9 (P:Program) (mu:Tmp→Bool) (ops:Array Oper):List Oper→(Frm→Heap→Prop)→Frm→Heap→Prop
 | [],K,fr,h=>K fr h
 |o::rest,K,fr,h=>
  match y9 ops fr o.guard with
  |true=>qn P (zFh mu o.dst) h.next o.op (zz fr) h fun d h'=>zH9 P mu ops rest K (zAe fr o.dst d) h'
  |false=>zH9 P mu ops rest K (zAe fr o.dst wA) h
def zAa (P:Program) (mu:Tmp→Bool) (h0:Heap) (bk:Nat→Bool) (ops:Array Oper):Bool→List (Nat×Fl)→(Frm→Heap→Prop)→Frm→Heap→Prop
 |_,[],K,fr,h=>K fr h
 |fl,(i,st)::rest,K,fr,h=>
  match ops[i]? with
  |none=>False
  |some o=>ux P mu h0 st ops o fr h fun d h'=>((fl&& !bk i)=true→HLe h0 h')∧zAa P mu h0 bk ops (fl&& !bk i) rest K (zAe fr o.dst d) h'
def alN:List (Nat×Fl)→Nat
 | []=>0
 |x::rest=>match x.2 with
  | .al k=>max (k+1) (alN rest)
  |_=>alN rest
def Heap.bump (h:Heap) (m:Nat):Heap:= { next:=h.next+m,at':=h.at' }
def zDN (P:Program) (mu:Tmp→Bool) (h0:Heap) (bk:Nat→Bool) (ops:Array Oper) (fl:Bool) (l:List (Nat×Fl)) (K:Frm→Heap→Prop) (fr:Frm) (h:Heap):Prop:=
 match alN l with
 |0=>zAa P mu h0 bk ops fl l K fr h
 |m+1=>h0.next=h.next∧zAa P mu h0 bk ops fl l K fr (h.bump (m+1))
theorem zEE {P:Program} {mu:Tmp→Bool} {h0:Heap} {bk:Nat→Bool} {ops:Array Oper} {fl:Bool} {l:List (Nat×Fl)} {K:Frm→Heap→Prop} {fr:Frm} {h:Heap} (hl:alN l=0):zDN P mu h0 bk ops fl l K fr h=zAa P mu h0 bk ops fl l K fr h:=by
 unfold zDN;rw[hl]
theorem zQ6 {P:Program} {mu:Tmp→Bool} {h0:Heap} {bk:Nat→Bool} {ops:Array Oper} {fl:Bool} {l:List (Nat×Fl)} {K:Frm→Heap→Prop} {fr:Frm} {h:Heap} {m:Nat} (hl:alN l=m+1):zDN P mu h0 bk ops fl l K fr h=(h0.next=h.next∧zAa P mu h0 bk ops fl l K fr (h.bump (m+1))):=by
 unfold zDN;rw[hl]
section
variable {P:Program} {mu:Tmp→Bool} {h0:Heap} {ops:Array Oper}
theorem zA7 {m:Bool} {nid:Nat} {o:Op} {ev:Operand→D} {h:Heap} {K K':D→Heap→Prop} (hk:∀d h,K d h→K' d h) (k:qn P m nid o ev h K):qn P m nid o ev h K':=by
 unfold qn at k⊢;split at k
 ·exact zIJ.mono hk k
 ·split at k
  ·exact hk _ _ k
  ·exact k
theorem zE1 {st:Fl} {o:Oper} {fr:Frm} {h:Heap} {K K':D→Heap→Prop} (hk:∀d h,K d h→K' d h) (k:ux P mu h0 st ops o fr h K):ux P mu h0 st ops o fr h K':=by
 unfold ux at k⊢;split at k
 ·exact hk _ _ k
 ·split at k
  ·obtain⟨d,k1,k2⟩:=k;exact⟨d,k1,hk _ _ k2⟩
  ·exact zA7 hk k
  ·exact zA7 (fun d h' hx=>⟨hx.1,hk _ _ hx.2⟩) k
  ·exact zA7 hk k
theorem zQ7 {m:Bool} {nid:Nat} {o:Op} {ev ev':Operand→D} {h:Heap} (he:∀x∈o.operands.toList,ev x=ev' x):vop P m nid o ev h=vop P m nid o ev' h:=by
 have pairs:∀ps:Array (Nat×Operand),(∀p∈ps.toList,ev p.2=ev' p.2)→(ps.toList.map fun p=>(p.1,ev p.2))=(ps.toList.map fun p=>(p.1,ev' p.2)):=fun ps hp=>
  List.map_congr_left fun p hm=>by rw[hp p hm]
 cases o<;>simp only[Op.operands] at he<;>simp only[vop]
 case build t ps=>rw[pairs ps fun p hp=>he p.2 (by simp;exact⟨p.1,by simpa using hp⟩)]
 case buildSlice t n ps=>rw[pairs ps fun p hp=>he p.2 (by simp;exact⟨p.1,by simpa using hp⟩)]
 case makeFunc g x y=>
  rw[List.map_congr_left (l:=x.toList) fun z hz=>he z (by simp;exact .inl (by simpa using hz)),List.map_congr_left (l:=y.toList) fun z hz=>he z (by simp;exact .inr (by simpa using hz))]
 case call c=>
  split
  ·rename_i b hb;rw[List.map_congr_left (l:=c.args.toList) fun z hz=>he z (by simp[Call.operands,hb];simpa using hz)]
  ·rfl
 case slice t x lo hi mx=>cases lo<;>cases hi<;>cases mx<;>simp_all
 all_goals(first|rfl|(simp_all;done)|(simp only[List.mem_cons,List.not_mem_nil,or_false,forall_eq_or_imp,forall_eq] at he;simp_all;done))
theorem zIh {m:Bool} {nid:Nat} {o:Op} {ev ev':Operand→D} {h:Heap} {K:D→Heap→Prop} (he:∀x∈o.operands.toList,ev x=ev' x):qn P m nid o ev h K=qn P m nid o ev' h K:=by
 unfold qn;rw[zQ7 he];split
 ·rename_i f args hc;unfold qK at hc;split at hc
  ·rename_i c;split at hc
   ·rename_i g hg;cases hc;rw[he f (by simp[Op.operands,Call.operands,hg]),List.map_congr_left (l:=c.args.toList) fun z hz=>he z (by simp[Op.operands,Call.operands,hg];first|exact .inl (by simpa using hz)|exact .inr (by simpa using hz))]
   ·cases hc
  ·cases hc
 ·rfl
theorem zUR {fr:Frm} {dst:Option Tmp} {d:D} {x:Operand} (h:∀t,dst=some t→x≠ .tmp t):zz (zAe fr dst d) x=zz fr x:=by
 cases dst with
 |none=>rfl
 |some t=>
  cases x with
  |tmp u=>
   have:u≠t:=fun e=>h t rfl (e▸rfl);simp[zz,zAe,this]
  |_=>rfl
theorem zMz {fr:Frm} {dst:Option Tmp} {d:D} {o:Oper} (h:∀t,dst=some t→t∉o.looksAt ops):y9 ops (zAe fr dst d) o.guard=y9 ops fr o.guard:=by
 cases dst with
 |none=>rfl
 |some t=>
  unfold y9;cases hg:o.guard with
  |none=>rfl
  |some gw=>
   obtain⟨g,want⟩:=gw;simp only;cases ht:(ops[g]?).bind (·.dst) with
   |none=>rfl
   |some u=>
    have hne:u≠t:=fun e=>h t rfl (by subst e;simp[Oper.looksAt,hg,ht]);simp[zAe,hne]
theorem zWQ {fr:Frm} {dst:Option Tmp} {d:D} {o:Oper} (h:∀t,dst=some t→t∉o.looksAt ops):∀x∈o.op.operands.toList,zz (zAe fr dst d) x=zz fr x:=fun x hx=>
 zUR fun t ht hxt=>h t ht (by
  subst hxt;exact List.mem_append_left _ (List.mem_filterMap.2 ⟨.tmp t,by simpa using hx,rfl⟩))
theorem zPj {o:Op} {ev ev':Operand→D} {d:D} (he:∀x∈o.operands.toList,ev x=ev' x):zWP P h0 o ev d=zWP P h0 o ev' d:=by
 unfold zWP;simp only[zIh he]
theorem zDO {st:Fl} {o:Oper} {fr:Frm} {h:Heap} {dst:Option Tmp} {d:D} {K:D→Heap→Prop} (hl:∀t,dst=some t→t∉o.looksAt ops):ux P mu h0 st ops o (zAe fr dst d) h K=ux P mu h0 st ops o fr h K:=by
 unfold ux;rw[zMz hl];simp only[zPj (zWQ hl),zIh (zWQ hl)]
theorem zQ8 {fr:Frm} {x y:Option Tmp} {d e:D} (h:∀t,x=some t→y≠some t):zAe (zAe fr x d) y e=zAe (zAe fr y e) x d:=by
 cases x with
 |none=>rfl
 |some t=>
  cases y with
  |none=>rfl
  |some u=>
   have hne:t≠u:=fun he=>h t rfl (he▸rfl)
   funext i
   simp only[zAe];by_cases h1:i=t
   ·have h2:i≠u:=fun e=>hne (h1.symm.trans e);rw[if_pos h1,if_neg h2,if_pos h1]
   ·rw[if_neg h1,if_neg h1]
def wG (P:Program) (m:Bool) (o:Op):Bool:=
 match o with
 | .move _| .assign _| .pick _ _ _| .build _ _| .nilCheck _| .binOp _ _ _ _ _| .unOp _ _ _| .makeFunc _ _ _| .fieldAddr _ _ _| .field _ _ _| .indexAddr _ _ _| .index _ _ _| .extract _ _| .makeInterface _ _=>true
 | .convert s _ _=> !zeD P s
 | .box _ _| .buildSlice _ _ _| .makeSlice _ _ _=> !m
 | .slice t _ _ _ _=>(zKx P t).isNone
 | .call c=>match c.callee with
  | .builtin .len| .builtin .min| .builtin .max| .builtin .unsafeSliceData=>true
  |_=>false
 |_=>false
def zAl (P:Program) (o:Op):Bool:=
 match o with
 | .load _ _| .lookup _ _ _ _| .slice _ _ _ _ _=>true
 |_=>false
theorem zK9 {P:Program} {s d:TypeId} {x:D} (hp:zeD P s=false):∃r:Option D,∀h,zD3 P s d x h=r:=by
 cases x with
 |ptr id off=>
  refine⟨none,fun h=> ?_⟩;unfold zD3;simp only;split
  ·unfold zQo;split
   ·split
    ·split
     ·rename_i t hs;simp[zeD,hs] at hp
     ·rename_i hs;simp[zeD,hs] at hp
     ·rfl
    ·rfl
   ·rfl
  ·rfl
 |_=>exact⟨_,fun _=>rfl⟩
theorem zAw {m:Bool} {o:Op} {ev:Operand→D} (hs:wG P m o=true):∃r:Option D,∀nid h,vop P m nid o ev h=r.map (·,h):=by
 have ite:∀ (c:Prop) [Decidable c] (d:D),∃r:Option D,∀ (nid:Nat) (h:Heap),(if c then some (d,h) else none)=r.map (·,h):=fun c _ d=>by
  by_cases hc:c
  ·exact⟨some d,fun _ h=>by rw[if_pos hc];rfl⟩
  ·exact⟨none,fun _ h=>by rw[if_neg hc];rfl⟩
 cases o<;>simp only[wG] at hs<;>(try (cases hs;done))<;>simp only[vop]
 case move x=>exact⟨some (ev x),fun _ _=>rfl⟩
 case assign x=>exact⟨some (ev x),fun _ _=>rfl⟩
 case pick c a b=>
  split
  ·exact⟨some _,fun _ _=>rfl⟩
  ·exact⟨some _,fun _ _=>rfl⟩
  ·exact⟨none,fun _ _=>rfl⟩
 case convert s d x=>
  obtain⟨r,hr⟩:=zK9 (P:=P) (s:=s) (d:=d) (x:=ev x) (by simpa using hs);exact⟨r,fun _ h=>by rw[hr]⟩
 case box t x=>
  cases m with
  |true=>cases hs
  |false=>simpa using ite _ _
 case buildSlice t n ps=>
  cases m with
  |true=>cases hs
  |false=>
   unfold zS;split
   ·exact⟨none,fun _ _=>rfl⟩
   ·split
    ·exact⟨none,fun _ _=>rfl⟩
    ·dsimp only
     split
     ·split
      ·exact⟨none,fun _ _=>rfl⟩
      ·exact⟨some _,fun _ _=>rfl⟩
     ·exact⟨none,fun _ _=>rfl⟩
 case makeSlice t l c=>
  cases m with
  |true=>cases hs
  |false=>
   unfold wL;split
   ·split
    ·dsimp only
     split
     ·exact⟨some _,fun _ _=>rfl⟩
     ·exact⟨none,fun _ _=>rfl⟩
    ·exact⟨none,fun _ _=>rfl⟩
   ·exact⟨none,fun _ _=>rfl⟩
 case makeFunc g x y=>
  split
  ·exact⟨some _,fun _ _=>rfl⟩
  ·exact⟨none,fun _ _=>rfl⟩
 case makeInterface t x=>exact ite _ _
 case slice t x lo hi mx=>
  have hn:zKx P t=none:=by simpa using hs
  exact⟨_,fun _ _=>by rw[yZ,hn]⟩
 case call c=>
  split
  ·rename_i b hb;rw[hb] at hs;unfold zAT;cases b<;>simp only at hs<;>(try (cases hs;done))
   ·dsimp only
    split
    ·split
     ·exact⟨_,fun _ _=>rfl⟩
     ·exact⟨none,fun _ _=>rfl⟩
    ·exact⟨none,fun _ _=>rfl⟩
   ·dsimp only
    split
    ·exact⟨_,fun _ _=>rfl⟩
    ·exact⟨none,fun _ _=>rfl⟩
   ·dsimp only
    split
    ·exact⟨_,fun _ _=>rfl⟩
    ·exact⟨none,fun _ _=>rfl⟩
   ·dsimp only
    split
    ·split
     ·split
      ·split
       ·exact⟨none,fun _ _=>rfl⟩
       ·exact⟨some _,fun _ _=>rfl⟩
       ·exact⟨none,fun _ _=>rfl⟩
      ·exact⟨some _,fun _ _=>rfl⟩
      ·exact⟨none,fun _ _=>rfl⟩
     ·exact⟨none,fun _ _=>rfl⟩
    ·exact⟨none,fun _ _=>rfl⟩
  ·exact⟨none,fun _ _=>rfl⟩
 all_goals exact⟨_,fun _ _=>rfl⟩
theorem zG4 {m:Bool} {o:Op} {ev:Operand→D} (hs:zAl P o=true):∃r:Heap→Option D,∀nid h,vop P m nid o ev h=(r h).map (·,h):=by
 cases o<;>simp only[zAl] at hs<;>(try (cases hs;done))<;>simp only[vop]
 ·exact⟨fun h=>_,fun _ _=>rfl⟩
 ·exact⟨fun h=>_,fun _ _=>rfl⟩
 ·exact⟨fun h=>_,fun _ _=>rfl⟩
theorem zCe {m:Bool} {o:Op} (hs:wG P m o=true):qK o=none:=by
 cases o<;>simp only[wG] at hs<;>(try (cases hs;done))<;>simp only[qK]
 rename_i c;split
 ·rename_i f hf;rw[hf] at hs;cases hs
 ·rfl
theorem zG5 {o:Op} (hs:zAl P o=true):qK o=none:=by
 cases o<;>simp only[zAl] at hs<;>(try (cases hs;done))<;>rfl
end
section
variable {P:Program} {mu:Tmp→Bool} {h0:Heap} {ops:Array Oper}
def clo (ops:Array Oper):Nat→Nat→Nat→Bool
 |0,_,_=>false
 |n+1,i,j=>match ops[i]? with
  |none=>false
  |some o=>o.after.any fun e=>Region.binds .any e&&(e.on==j||clo ops n e.on j)
def zJo:Op→Bool
 | .alloc _=>true
 |_=>false
def zLA (P:Program) (mu:Tmp→Bool) (j i:Fl) (oj oi:Oper):Bool:=
 match j with
 | .al k=>zJo oj.op&&(i.isSt||wG P (zFh mu oi.dst) oi.op||(match i with
  | .al k'=>zJo oi.op&&k !=k'
  |_=>false))
 |_=>false
def zDP (P:Program) (mu:Tmp→Bool) (ops:Array Oper) (j i:Nat×Fl):Bool:=
 match ops[j.1]?,ops[i.1]? with
 |some oj,some oi=>oj.apart ops oi&&(j.2.isSt||wG P (zFh mu oj.dst) oj.op||(j.2.isNo&&zAl P oj.op&&(i.2.isSt||i.2.isQu||wG P (zFh mu oi.dst) oi.op||zAl P oi.op))||zLA P mu j.2 i.2 oj oi)
 |_,_=>false
def zJp (P:Program) (mu:Tmp→Bool) (ops:Array Oper):List (Nat×Fl)→Bool
 | []=>true
 |j::rest=>rest.all (fun i=>clo ops ops.size i.1 j.1||zDP P mu ops j i)&&zJp P mu ops rest
def zJq (ops:Array Oper):List (Nat×Fl)→Bool
 | []=>true
 |j::rest=>(match ops[j.1]? with
  |none=>false
  |some o=>o.after.all fun e=> !Region.binds .any e||(decide (e.on<ops.size)&&e.on !=j.1&&rest.all fun i=>e.on !=i.1))&&zJq ops rest
def zQ9 (ms:List Nat) (i:Nat) (o:Oper):Nat:=o.after.toList.foldl (fun a e=>if Region.binds .any e&&decide (e.on<i) then a |||(ms.getD (i-1-e.on) 0 |||2^e.on) else a) 0
def zF5:List Oper→Nat→List Nat→List Nat
 | [],_,ms=>ms
 |o::rest,i,ms=>zF5 rest (i+1) (zQ9 ms i o::ms)
def zLB (P:Program) (ms:List Nat) (n:Nat) (mu:Tmp→Bool) (ops:Array Oper):List (Nat×Fl)→Bool
 | []=>true
 |j::rest=>rest.all (fun i=>(decide (i.1<n)&&Nat.testBit (ms.getD (n-1-i.1) 0) j.1)||zDP P mu ops j i)&&zLB P ms n mu ops rest
def zUB (P:Program) (mu:Tmp→Bool) (ops:Array Oper) (l:List (Nat×Fl)) (ms:List Nat) (i:Nat):Bool:=
 match ops[i]? with
 |none=>false
 |some o=> !wG P (zFh mu o.dst) o.op&& !zAl P o.op&&l.all fun j=>(!j.2.isSt||(j.1 !=i&&(decide (i<ops.size)&&Nat.testBit (ms.getD (ops.size-1-i) 0) j.1)))&&(j.1 !=i|| !j.2.isAl)
def zfE (ops:Array Oper) (l:List (Nat×Fl)):Bool:=
 match alN l with
 |0=>true
 |_+1=>ops.toList.all (fun o=>(qK o.op).isNone)&&l.all fun x=>l.all fun y=>match x.2 with
  | .al k=>match y.2 with
   | .al k'=>k !=k'||x.1==y.1
   |_=>true
  |_=>true
def zRA (P:Program) (mu:Tmp→Bool) (ops:Array Oper) (l:List (Nat×Fl)):Bool:=
 (List.range ops.size).all (fun i=>(l.map (·.1)).contains i)&&l.length==ops.size&&decide ((l.map (·.1)).Nodup)&&zLB P (zF5 ops.toList 0 []) ops.size mu ops l&&zJq ops l&&zfE ops l
theorem zGR:∀ {n m i j:Nat},n≤m→clo ops n i j=true→clo ops m i j=true
 |0,_,_,_,_,h=>by simp[clo] at h
 |n+1,0,_,_,hm,_=>by omega
 |n+1,m+1,i,j,hm,h=>by
  simp only[clo] at h⊢;split at h
  ·cases h
  ·simp only[Array.any_eq_true',Bool.and_eq_true,Bool.or_eq_true] at h⊢;obtain⟨e,he,hb,h⟩:=h;exact⟨e,he,hb,h.imp id (zGR (by omega))⟩
theorem zLC {α:Type} {c:α→Bool} {f:α→Nat} {j:Nat} :∀ (l:List α) (a:Nat),Nat.testBit (l.foldl (fun a e=>if c e then a |||f e else a) a) j=true→Nat.testBit a j=true∨∃e∈l,c e=true∧Nat.testBit (f e) j=true
 | [],a,h=> .inl h
 |e::l,a,h=>by
  rw[List.foldl_cons] at h;rcases zLC l _ h with h| ⟨e',h1,h2⟩
  ·split at h
   ·rename_i hc;rw[Nat.testBit_or,Bool.or_eq_true] at h;rcases h with h|h
    ·exact .inl h
    ·exact .inr ⟨e,by simp,hc,h⟩
   ·exact .inl h
  ·exact .inr ⟨e',by simp[h1],h2⟩
theorem zE2:∀ (rest pre:List Oper) (ms:List Nat),ops.toList=pre++rest→ms.length=pre.length→(∀k,k<pre.length→∀j,Nat.testBit (ms.getD (pre.length-1-k) 0) j=true→clo ops (k+1) k j=true)→
  ∀k,k<ops.size→∀j,Nat.testBit ((zF5 rest pre.length ms).getD (ops.size-1-k) 0) j=true→clo ops (k+1) k j=true
 | [],pre,ms,hp,hl,hms,k,hk,j,h=>by
  have hs:ops.size=pre.length:=by rw[←Array.length_toList,hp];simp
  rw[hs] at h hk;exact hms k hk j h
 |o::rest,pre,ms,hp,hl,hms,k,hk,j,h=>by
  have ho:ops[pre.length]? =some o:=by rw[←Array.getElem?_toList,hp];simp
  simp only[zF5] at h;have hpl:(pre++ [o]).length=pre.length+1:=by simp
  refine zE2 rest (pre++ [o]) (zQ9 ms pre.length o::ms) (by rw[hp];simp) (by rw[hpl,List.length_cons,hl]) (fun k' hk' j' h'=> ?_) k hk j (by rw[hpl];exact h);rw[hpl] at hk' h';by_cases hkk:k'=pre.length
  ·subst hkk;rw[show pre.length+1-1-pre.length=0 by omega,List.getD_cons_zero,zQ9] at h';rcases zLC (c:=fun e=>Region.binds .any e&&decide (e.on<pre.length)) (f:=fun e=>ms.getD (pre.length-1-e.on) 0 |||2^e.on) (j:=j') o.after.toList 0 h' with h'| ⟨e,h1,h2,h3⟩
   ·simp at h'
   ·simp only[Bool.and_eq_true,decide_eq_true_eq] at h2;simp only[clo,ho,Array.any_eq_true',Bool.and_eq_true,Bool.or_eq_true,beq_iff_eq];refine⟨e,by simpa using h1,h2.1,?_⟩;rw[Nat.testBit_or,Bool.or_eq_true] at h3;rcases h3 with h3|h3
    ·exact .inr (zGR (by omega) (hms e.on h2.2 j' h3))
    ·rw[Nat.testBit_two_pow] at h3;exact .inl (by simpa using h3)
  ·rw[show pre.length+1-1-k'=(pre.length-1-k')+1 by omega,List.getD_cons_succ] at h';exact hms k' (by omega) j' h'
theorem zIi {ms:List Nat} (hms:∀k,k<ops.size→∀j,Nat.testBit (ms.getD (ops.size-1-k) 0) j=true→clo ops (k+1) k j=true):∀ (l:List (Nat×Fl)),zLB P ms ops.size mu ops l=true→zJp P mu ops l=true
 | [],_=>rfl
 |j::rest,h=>by
  simp only[zLB,zJp,Bool.and_eq_true,List.all_eq_true,Bool.or_eq_true,decide_eq_true_eq] at h⊢;refine⟨fun i hi=> ?_,zIi hms rest h.2⟩;rcases h.1 i hi with⟨h1,h2⟩ |h1
  ·exact .inl (zGR (by omega) (hms i.1 h1 j.1 h2))
  ·exact .inr h1
theorem zPk {l:List (Nat×Fl)} (h:zLB P (zF5 ops.toList 0 []) ops.size mu ops l=true):zJp P mu ops l=true:=
 zIi (fun k hk j hb=>zE2 ops.toList [] [] rfl rfl (fun k hk=>by simp at hk) k hk j hb) l h
theorem zJr {st:Fl} {o:Oper} {fr:Frm} {h:Heap} {k:D→Heap→Prop} (hs:(st.isSt||wG P (zFh mu o.dst) o.op)=true) (hu:ux P mu h0 st ops o fr h k):
  ∃d,k d h∧∀ (h':Heap) (k':D→Heap→Prop),k' d h'→ux P mu h0 st ops o fr h' k':=by
 unfold ux at hu⊢;split at hu
 ·exact⟨_,hu,fun h' k' hk=>by simpa using hk⟩
 ·cases st with
  |st=>
   obtain⟨d,k1,k2⟩:=hu;exact⟨d,k2,fun h' k' hk=>⟨d,k1,hk⟩⟩
  |no=>
   simp only[Fl.isSt,Bool.false_or] at hs;simp only at hu⊢;unfold qn at hu⊢;rw[zCe hs] at hu⊢;obtain⟨r,hr⟩:=zAw (P:=P) (ev:=zz fr) hs;simp only[hr] at hu⊢;cases r with
   |none=>exact hu.elim
   |some d=>exact⟨d,hu,fun h' k' hk=>hk⟩
  |qu=>
   simp only[Fl.isSt,Bool.false_or] at hs;simp only at hu⊢;unfold qn at hu⊢;rw[zCe hs] at hu⊢;obtain⟨r,hr⟩:=zAw (P:=P) (ev:=zz fr) hs;simp only[hr] at hu⊢;cases r with
   |none=>exact hu.elim
   |some d=>exact⟨d,hu.2,fun h' k' hk=>⟨rfl,hk⟩⟩
  |al i=>
   simp only[Fl.isSt,Bool.false_or] at hs;simp only at hu⊢;unfold qn at hu⊢;rw[zCe hs] at hu⊢;obtain⟨r,hr⟩:=zAw (P:=P) (ev:=zz fr) hs;simp only[hr] at hu⊢;cases r with
   |none=>exact hu.elim
   |some d=>exact⟨d,hu,fun h' k' hk=>hk⟩
def zUC (i:Nat):Option Obj→Heap→Heap
 |none,h=>h
 |some o,h=>h.new i o
theorem zRB {i j:Nat} (hne:i≠j) (x y:Option Obj) (h:Heap):zUC i x (zUC j y h)=zUC j y (zUC i x h):=by
 cases x with
 |none=>rfl
 |some a=>
  cases y with
  |none=>rfl
  |some b=>
   simp only[zUC,Heap.new,Heap.mk.injEq];refine⟨by omega,?_⟩
   funext k
   by_cases h1:k=i
   ·by_cases h2:k=j
    ·exact absurd (h1.symm.trans h2) hne
    ·simp[h1,hne]
   ·simp[h1]
theorem HLe.newO {i:Nat} {x:Option Obj} {h0 h:Heap} (hz:h0.at' i=none) (hl:HLe h0 h):HLe h0 (zUC i x h):=by
 intro k ob hk;cases x with
 |none=>exact hl k ob hk
 |some a=>
  have hne:k≠i:=fun e=>by rw[e,hz] at hk;cases hk
  simp only[V.zUC,Heap.new,hne,if_false];exact hl k ob hk
theorem HLe.of_newO {i:Nat} {x:Option Obj} {h0 h:Heap} (hz:h0.at' i=none) (hl:HLe h0 (V.zUC i x h)):HLe h0 h:=by
 intro k ob hk;have:=hl k ob hk;cases x with
 |none=>exact this
 |some a=>
  have hne:k≠i:=fun e=>by rw[e,hz] at hk;cases hk
  simpa only[V.zUC,Heap.new,hne,if_false] using this
theorem zbO {i:Nat} {o:Oper} {fr:Frm} {h:Heap} {k:D→Heap→Prop} (hs:zJo o.op=true) (hu:ux P mu h0 (.al i) ops o fr h k):
  ∃d x,k d (zUC (h0.next+i) x h)∧∀ (h':Heap) (k':D→Heap→Prop),k' d (zUC (h0.next+i) x h')→ux P mu h0 (.al i) ops o fr h' k':=by
 unfold ux at hu⊢;split at hu
 ·exact⟨_,none,hu,fun h' k' hk=>by simpa [zUC] using hk⟩
 ·simp only at hu⊢;unfold qn at hu⊢;obtain⟨dst,op,ty,pos,after,gd⟩:=o;cases op<;>simp only[zJo] at hs<;>(try (cases hs;done))
  simp only[qK,vop] at hu⊢;cases hz:qS P _ with
  |none=>rw[hz] at hu;exact hu.elim
  |some z=>
   rw[hz] at hu;simp only at hu⊢;cases hb:z.notTuple with
   |false=>rw[hb] at hu;exact hu.elim
   |true=>
    rw[hb] at hu;exact⟨_,some (zD4 _ z.cells),hu,fun h' k' hk=>by simpa [zUC] using hk⟩
theorem zfF {o:Oper} {fr:Frm} {h:Heap} {k k':D→Heap→Prop} (hk:∀d,k d h→k' d h) (hu:ux P mu h0 .qu ops o fr h k):ux P mu h0 .qu ops o fr h k':=by
 unfold ux at hu⊢;split at hu
 ·exact hk _ hu
 ·exact zA7 (fun d h' hx=>⟨hx.1,hk _ hx.2⟩) hu
theorem zRC {o:Oper} {fr:Frm} {h:Heap} {k:D→Heap→Prop} (hs:zAl P o.op=true) (hu:ux P mu h0 .no ops o fr h k):
  ∃d,k d h∧∀ (k':D→Heap→Prop),k' d h→ux P mu h0 .no ops o fr h k':=by
 unfold ux at hu⊢;split at hu
 ·exact⟨_,hu,fun k' hk=>by simpa using hk⟩
 ·simp only at hu⊢;unfold qn at hu⊢;rw[zG5 hs] at hu⊢;obtain⟨r,hr⟩:=zG4 (P:=P) (m:=zFh mu o.dst) (ev:=zz fr) hs;simp only[hr] at hu⊢;cases hq:r h with
  |none=>rw[hq] at hu;exact hu.elim
  |some d=>rw[hq] at hu;exact⟨d,hu,fun k' hk=>hk⟩
theorem zPl {i:Nat} {o:Oper} {fr:Frm} {h:Heap} {k:D→Heap→Prop} (hs:zAl P o.op=true) (hu:ux P mu h0 (.al i) ops o fr h k):
  ∃d,k d h∧∀ (k':D→Heap→Prop),k' d h→ux P mu h0 (.al i) ops o fr h k':=by
 unfold ux at hu⊢;split at hu
 ·exact⟨_,hu,fun k' hk=>by simpa using hk⟩
 ·simp only at hu⊢;unfold qn at hu⊢;rw[zG5 hs] at hu⊢;obtain⟨r,hr⟩:=zG4 (P:=P) (m:=zFh mu o.dst) (ev:=zz fr) hs;simp only[hr] at hu⊢;cases hq:r h with
  |none=>rw[hq] at hu;exact hu.elim
  |some d=>rw[hq] at hu;exact⟨d,hu,fun k' hk=>hk⟩
theorem zXx {fl1 fl2:Bool} (hfl:fl2=true→fl1=true) {j i:Nat×Fl} (hz:j.2.isAl=true→∀k,h0.at' (h0.next+k)=none) {oj oi:Oper} (hj:ops[j.1]? =some oj) (hi:ops[i.1]? =some oi) (hs:zDP P mu ops j i=true) {fr:Frm} {h:Heap} {X:Frm→Heap→Prop}
  (hu:ux P mu h0 j.2 ops oj fr h fun e h'=>(fl1=true→HLe h0 h')∧ux P mu h0 i.2 ops oi (zAe fr oj.dst e) h' fun d h''=>(fl2=true→HLe h0 h'')∧X (zAe (zAe fr oj.dst e) oi.dst d) h''):
  ux P mu h0 i.2 ops oi fr h fun d h'=>(fl2=true→HLe h0 h')∧ux P mu h0 j.2 ops oj (zAe fr oi.dst d) h' fun e h''=>(fl2=true→HLe h0 h'')∧X (zAe (zAe fr oi.dst d) oj.dst e) h'':=by
 unfold zDP at hs;rw[hj,hi] at hs;simp only[Bool.and_eq_true] at hs;obtain⟨hap,hs⟩:=hs;obtain⟨a1,a2,a3⟩:=Oper.apart_spec hap;have a2':∀t,oj.dst=some t→oi.dst≠some t:=a2;have go:∀d e h'',((fl2=true→HLe h0 h'')∧X (zAe (zAe fr oj.dst e) oi.dst d) h'')→(fl2=true→HLe h0 h'')∧X (zAe (zAe fr oi.dst d) oj.dst e) h'':=fun d e h'' hx=>by
  rw[zQ8 a2'] at hx;exact hx
 by_cases hq:(j.2.isSt||wG P (zFh mu oj.dst) oj.op)=true
 ·obtain⟨e,⟨k1,k2⟩,k3⟩:=zJr hq hu;rw[zDO a1] at k2;refine zE1 (fun d h' hx=>⟨hx.1,?_⟩) k2;rw[zDO a3];exact k3 _ _ (go _ _ _ hx)
 ·by_cases hap2:zLA P mu j.2 i.2 oj oi=true
  ·obtain⟨jn,jf⟩:=j;obtain⟨inn,jg⟩:=i;unfold zLA at hap2;cases jf<;>simp only at hap2<;>(try (cases hap2;done))
   rename_i kj;simp only[Bool.and_eq_true] at hap2;obtain⟨p1,p2⟩:=hap2;have hz':=hz rfl;obtain⟨e,x,⟨k1,k2⟩,k3⟩:=zbO p1 hu;rw[zDO a1] at k2;by_cases hq2:(jg.isSt||wG P (zFh mu oi.dst) oi.op)=true
   ·obtain⟨d,k4,k5⟩:=zJr hq2 k2;refine k5 h _ ⟨fun e=>HLe.of_newO (hz' _) (k4.1 e),?_⟩;rw[zDO a3];exact k3 _ _ (go _ _ _ k4)
   ·rw[Bool.or_eq_true] at p2;have p3:=p2.resolve_left hq2;cases jg<;>simp only at p3<;>(try (cases p3;done))
    rename_i ki;simp only[Bool.and_eq_true,bne_iff_ne,ne_eq] at p3;obtain⟨d,y,k4,k5⟩:=zbO p3.1 k2;rw[zRB (fun e=>p3.2 (by omega))] at k4;refine k5 h _ ⟨fun e=>HLe.newO (hz' _) (HLe.of_newO (hz' _) (k1 (hfl e))),?_⟩;rw[zDO a3];exact k3 _ _ (go _ _ _ k4)
  have hs':(j.2.isNo&&zAl P oj.op&&(i.2.isSt||i.2.isQu||wG P (zFh mu oi.dst) oi.op||zAl P oi.op))=true:=by
   rw[Bool.or_eq_true,Bool.or_eq_true] at hs;exact(hs.resolve_right hap2).resolve_left hq
  simp only[Bool.and_eq_true] at hs';obtain⟨⟨hj2',hjr⟩,hs'⟩:=hs';have hj2:j.2= .no:=by
   cases h2:j.2 with
   |no=>rfl
   |st=>rw[h2] at hj2';cases hj2'
   |qu=>rw[h2] at hj2';cases hj2'
   |al k=>rw[h2] at hj2';cases hj2'
  rw[hj2] at hu⊢;obtain⟨e,⟨k1,k2⟩,k3⟩:=zRC hjr hu;rw[zDO a1] at k2;by_cases hq2:(i.2.isSt||wG P (zFh mu oi.dst) oi.op)=true
  ·obtain⟨d,k4,k5⟩:=zJr hq2 k2;refine k5 h _ ⟨fun e=>k1 (hfl e),?_⟩;rw[zDO a3];exact k3 _ (go _ _ _ k4)
  ·cases h2:i.2 with
   |st=>rw[h2] at hq2;exact absurd rfl hq2
   |qu=>
    rw[h2] at k2;refine zfF (fun d hx=>⟨hx.1,?_⟩) k2;rw[zDO a3];exact k3 _ (go _ _ _ hx)
   |no=>
    rw[h2] at k2;have hr:zAl P oi.op=true:=by
     rw[h2] at hs' hq2;simp only[Fl.isSt,Fl.isQu,Bool.false_or,Bool.or_eq_true] at hs' hq2;exact hs'.resolve_left hq2
    obtain⟨d,k4,k5⟩:=zRC hr k2;refine k5 _ ⟨fun e=>k1 (hfl e),?_⟩;rw[zDO a3];exact k3 _ (go _ _ _ k4)
   |al ki=>
    rw[h2] at hs' hq2;simp only[Fl.isSt,Fl.isQu,Bool.false_or,Bool.or_eq_true] at hs' hq2;have hr:=hs'.resolve_left hq2;rw[h2] at k2;obtain⟨d,k4,k5⟩:=zPl hr k2;refine k5 _ ⟨fun e=>k1 (hfl e),?_⟩;rw[zDO a3];exact k3 _ (go _ _ _ k4)
theorem zRD {l:List (Nat×Fl)} {ms:List Nat} {y:Nat×Fl} (hy:y∈l) (hb:zUB P mu ops l ms y.1=true) (x:Nat×Fl):zDP P mu ops y x=false:=by
 unfold zUB at hb;unfold zDP;cases ho:ops[y.1]? with
 |none=>rfl
 |some o=>
  rw[ho] at hb;simp only[Bool.and_eq_true,Bool.not_eq_true',List.all_eq_true,Bool.or_eq_true,bne_iff_ne,ne_eq,decide_eq_true_eq] at hb;obtain⟨⟨b1,b2⟩,b3⟩:=hb;have b4:y.2.isSt=false:=by
   rcases(b3 y hy).1 with b|b
   ·exact b
   ·exact absurd rfl b.1
  have b5:y.2.isAl=false:=by
   rcases(b3 y hy).2 with b|b
   ·exact absurd rfl b
   ·exact b
  cases ops[x.1]? with
  |none=>rfl
  |some o'=>
   have b6:zLA P mu y.2 x.2 o o'=false:=by
    unfold zLA;cases hy2:y.2<;>simp only;rw[hy2] at b5;cases b5
   simp[b1,b2,b4,b6]
theorem zUS {l:List (Nat×Fl)} {i:Nat} {z:Nat×Fl} (hb:zUB P mu ops l (zF5 ops.toList 0 []) i=true) (hz:z∈l) (hst:z.2.isSt=true):clo ops ops.size i z.1=true:=by
 unfold zUB at hb;split at hb
 ·cases hb
 ·simp only[Bool.and_eq_true,Bool.not_eq_true',List.all_eq_true,Bool.or_eq_true,bne_iff_ne,ne_eq,decide_eq_true_eq] at hb;rcases(hb.2 z hz).1 with b|b
  ·rw[hst] at b;cases b
  ·exact zGR (by omega) (zE2 ops.toList [] [] rfl rfl (fun k hk=>by simp at hk) i b.2.1 z.1 b.2.2)
theorem zWR {bk:Nat→Bool} {i:Nat×Fl} {oi:Oper} {l2:List (Nat×Fl)} {K:Frm→Heap→Prop} (hi:ops[i.1]? =some oi):∀ (fl:Bool) (l1:List (Nat×Fl)) (fr:Frm) (h:Heap),(∀j∈l1,zDP P mu ops j i=true∧bk j.1=false∧(j.2.isAl=true→∀k,h0.at' (h0.next+k)=none))→
  zAa P mu h0 bk ops fl (l1++i::l2) K fr h→ux P mu h0 i.2 ops oi fr h fun d h'=>((fl&& !bk i.1)=true→HLe h0 h')∧zAa P mu h0 bk ops (fl&& !bk i.1) (l1++l2) K (zAe fr oi.dst d) h'
 |fl,[],fr,h,_,hv=>by
  obtain⟨i,s⟩:=i;simp only[List.nil_append,zAa] at hv;rw[hi] at hv;exact hv
 |fl,(j,s)::l1,fr,h,hs,hv=>by
  simp only[List.cons_append,zAa] at hv;cases hj:ops[j]? with
  |none=>rw[hj] at hv;exact hv.elim
  |some oj=>
   rw[hj] at hv;have hbk:bk j=false:=(hs (j,s) (by simp)).2.1;simp only[hbk,Bool.not_false,Bool.and_true] at hv;have h1:=zE1 (fun e h' hx=>And.intro hx.1 (zWR hi fl l1 (zAe fr oj.dst e) h' (fun k hk=>hs k (by simp[hk])) hx.2)) hv;have h2:=zXx (fl2:=fl&& !bk i.1) (fun e=>by simp only[Bool.and_eq_true] at e;exact e.1) (j:=(j,s)) (hs (j,s) (by simp)).2.2 hj hi (hs (j,s) (by simp)).1 h1;refine zE1 (fun d h' hx=>⟨hx.1,?_⟩) h2;simp only[List.cons_append,zAa,hj,hbk,Bool.not_false,Bool.and_true];exact hx.2
theorem zIj {listed:Array Bool} (hdown:∀k o,ops[k]? =some o→listed.getD k true=true→∀e∈o.after,Region.binds .any e=true→listed.getD e.on false=true):
  ∀ (n i j:Nat) (o:Oper),ops[i]? =some o→(∀e∈o.after,Region.binds .any e=true→listed.getD e.on false=true)→clo ops n i j=true→listed.getD j false=true
 |0,_,_,_,_,_,h=>by simp[clo] at h
 |n+1,i,j,o,ho,hp,h=>by
  simp only[clo,ho,Array.any_eq_true',Bool.and_eq_true,Bool.or_eq_true,beq_iff_eq] at h;obtain⟨e,he,hb,h⟩:=h;have h1:=hp e (by simpa using he) hb;rcases h with h|h
  ·rw[←h];exact h1
  ·cases ho':ops[e.on]? with
   |none=>
    cases n with
    |zero=>simp[clo] at h
    |succ n=>simp[clo,ho'] at h
   |some o'=>
    have h2:listed.getD e.on true=true:=by
     by_cases hlt:e.on<listed.size
     ·simpa [hlt] using h1
     ·simp[hlt]
    exact zIj hdown n e.on j o' ho' (hdown e.on o' ho' h2) h
end
theorem qd (h:Heap) (i:Nat) (o:Obj):h.next≤(h.new i o).next:=Nat.le_max_left _ _
theorem zJs {P:Program} {m:Bool} {nid sz k:Nat} {e:TypeId} {s d:D} {ys:List D} {h h':Heap} (hv:yk P m nid e sz k s ys h=some (d,h')):h.next≤h'.next:=by
 unfold yk at hv;split at hv
 ·split at hv
  ·cases hv;exact Nat.le_refl _
  ·split at hv
   ·split at hv<;>(cases hv;exact qd _ _ _)
   ·cases hv
 ·split at hv
  ·split at hv
   ·cases hv
   ·split at hv
    ·cases hv;exact Nat.le_refl _
    ·split at hv<;>(cases hv;exact qd _ _ _)
   ·split at hv
    ·split at hv
     ·cases hv
     ·cases hv;exact qd (h.del _) _ _
    ·cases hv
  ·cases hv
 ·split at hv
  ·split at hv
   ·split at hv
    ·cases hv;exact qd (h.del _) _ _
    ·cases hv
   ·split at hv
    ·cases hv
    ·split at hv
     ·cases hv;exact qd (h.del _) _ _
     ·cases hv
   ·cases hv
  ·cases hv
 ·cases hv
theorem zFi {P:Program} {m:Bool} {nid:Nat} {t:TypeId} {s x d:D} {h h':Heap} (hv:zZ P m nid t s x h=some (d,h')):h.next≤h'.next:=by
 unfold zZ at hv;split at hv
 ·cases hv
 ·split at hv
  ·split at hv
   ·cases hv
   ·exact zJs hv
  ·cases hv
theorem zLD (s x:D) (h:Heap):(yv s x h).next=h.next:=by
 unfold yv;split
 ·split
  ·rfl
  ·split
   ·split<;>rfl
   ·rfl
 ·rfl
theorem zJt {P:Program} {m:Bool} {nid:Nat} {t:TypeId} {s x d:D} {h h':Heap} (hv:zAn P m nid t s x h=some (d,h')):h.next≤h'.next:=by
 unfold zAn at hv;split at hv
 ·rw[←zLD s x h];exact zFi hv
 ·exact zFi hv
theorem zG6 {P:Program} {m:Bool} {nid:Nat} {t u:TypeId} {s x d:D} {h h':Heap} (hv:wn P m nid t u s x h=some (d,h')):∃o,h'=h.new nid o:=by
 unfold wn at hv;split at hv
 ·split at hv
  ·split at hv
   ·split at hv
    ·split at hv
     ·split at hv
      ·split at hv
       ·cases hv;exact⟨_,rfl⟩
       ·cases hv
      ·cases hv
     ·cases hv
    ·cases hv
   ·cases hv
  ·cases hv
 ·cases hv
theorem zJu {P:Program} {m:Bool} {nid:Nat} {t u:TypeId} {s x d:D} {h h':Heap} (hv:wn P m nid t u s x h=some (d,h')):h.next≤h'.next:=by
 obtain⟨o,rfl⟩:=zG6 hv;exact qd _ _ _
theorem zEF {P:Program} {t:TypeId} {x y d:D} {h h':Heap} (hv:qt P t x y h=some (d,h')):(∃id,x= .ptr id 0∧h'=h.del id)∨(x= .nilptr∧h'=h):=by
 unfold qt at hv;split at hv
 ·split at hv
  ·split at hv
   ·split at hv
    ·split at hv
     ·unfold zD5 at hv;split at hv
      ·split at hv
       ·split at hv
        ·cases hv;exact .inl ⟨_,rfl,rfl⟩
        ·cases hv
       ·cases hv
      ·cases hv
     ·cases hv
    ·cases hv
   ·split at hv
    ·split at hv
     ·cases hv;exact .inr ⟨rfl,rfl⟩
     ·cases hv
    ·cases hv
   ·cases hv
  ·cases hv
 ·cases hv
theorem zCf {P:Program} {t:TypeId} {x y z:D} {h h':Heap} (hv:yU P t x y z h=some h'):h.next≤h'.next:=by
 unfold yU at hv;split at hv
 ·cases hv
 ·split at hv
  ·split at hv
   ·split at hv
    ·split at hv
     ·split at hv
      ·cases hv;exact Nat.le_refl _
      ·cases hv
     ·cases hv
    ·cases hv
   ·cases hv
  ·cases hv
theorem zLE {P:Program} {t:TypeId} {x:D} {h h':Heap} (hv:zBj P t x h=some h'):h'=h∨(∃id sz off n cs,x= .rs id sz off n∧h'=h.set id (.row cs))∨∃id,x= .map id∧h'=h.set id (.map []):=by
 unfold zBj at hv;split at hv
 ·split at hv<;>cases hv;exact .inl rfl
 ·split at hv
  ·split at hv<;>cases hv;exact .inl rfl
  ·cases hv
 ·split at hv
  ·cases hv
  ·split at hv
   ·cases hv
   ·split at hv
    ·cases hv;exact .inl rfl
    ·split at hv
     ·split at hv
      ·split at hv
       ·cases hv;exact .inr (.inl ⟨_,_,_,_,_,rfl,rfl⟩)
       ·cases hv
      ·cases hv
     ·cases hv
 ·split at hv
  ·split at hv
   ·cases hv;exact .inr (.inr ⟨_,rfl,rfl⟩)
   ·cases hv
  ·cases hv
 ·cases hv
theorem zM0 {P:Program} {t:TypeId} {x:D} {h h':Heap} (hv:zBj P t x h=some h'):h.next≤h'.next:=by
 rcases zLE hv with rfl| ⟨_,_,_,_,_,_,rfl⟩ | ⟨_,_,rfl⟩ <;>exact Nat.le_refl _
theorem zOC {x d:D} {b:Bool} {h h':Heap} (hv:zIF x b h=some (d,h')):h'=h∨∃id off o,x= .ptr id off∧h'=h.set id o:=by
 unfold zIF at hv;split at hv
 ·split at hv
  ·split at hv
   ·split at hv
    ·split at hv
     ·cases hv;exact .inr ⟨_,_,_,rfl,rfl⟩
     ·cases hv
    ·cases hv;exact .inl rfl
   ·cases hv
  ·cases hv
 ·cases hv
theorem zLF {P:Program} {nid:Nat} {t:TypeId} {x d:D} {h h':Heap} (hv:zFb P nid t x h=some (d,h')):∃o,h'=h.new nid o:=by
 unfold zFb at hv;split at hv
 ·split at hv
  ·cases hv;exact⟨_,rfl⟩
  ·cases hv
 ·cases hv
theorem zOD {P:Program} {m:Bool} {nid:Nat} {o:Op} {ev:Operand→D} {h h':Heap} {d:D} (hv:vop P m nid o ev h=some (d,h')):h.next≤h'.next:=by
 by_cases hs:wG P m o=true
 ·obtain⟨r,hr⟩:=zAw (P:=P) (ev:=ev) hs;rw[hr] at hv;obtain⟨e,_,h2⟩:=yM hv;cases h2;exact Nat.le_refl _
 ·by_cases hs2:zAl P o=true
  ·obtain⟨r,hr⟩:=zG4 (P:=P) (m:=m) (ev:=ev) hs2;rw[hr] at hv;obtain⟨e,_,h2⟩:=yM hv;cases h2;exact Nat.le_refl _
  ·cases o<;>simp only[wG,zAl] at hs hs2<;>simp only[vop] at hv<;>(try (exact absurd rfl hs;done))<;>(try (exact absurd trivial hs;done))<;>(try (exact absurd rfl hs2;done))<;>(try (exact absurd trivial hs2;done))<;>(try (cases hv;done))
   case convert s d x=>
    obtain⟨e,_,h2⟩:=yM hv;cases h2;exact Nat.le_refl _
   case alloc t=>
    split at hv
    ·split at hv
     ·cases hv;exact qd _ _ _
     ·cases hv
    ·cases hv
   case box t x=>
    split at hv
    ·split at hv
     ·cases hv;exact qd _ _ _
     ·cases hv;exact Nat.le_refl _
    ·cases hv
   case buildSlice t n ps=>
    unfold zS at hv;split at hv
    ·cases hv
    ·split at hv
     ·cases hv
     ·dsimp only at hv
      split at hv
      ·split at hv
       ·cases hv
       ·split at hv
        ·cases hv;exact qd _ _ _
        ·cases hv;exact Nat.le_refl _
      ·cases hv
   case store t x y=>
    obtain⟨e,h1,h2⟩:=yM hv;cases h2;unfold zW at h1;split at h1
    ·split at h1
     ·split at h1
      ·cases h1;exact Nat.le_refl _
      ·cases h1
     ·split at h1
      ·cases h1;exact Nat.le_refl _
      ·cases h1
     ·cases h1
    ·cases h1
   case range t x=>obtain⟨o,rfl⟩:=zLF hv;exact qd _ _ _
   case next x b=>rcases zOC hv with rfl| ⟨_,_,_,_,rfl⟩ <;>exact Nat.le_refl _
   case makeMap t r=>
    split at hv
    ·cases hv;exact qd _ _ _
    ·cases hv
   case makeSlice t x y=>
    unfold wL at hv;split at hv
    ·split at hv
     ·dsimp only at hv
      split at hv
      ·split at hv
       ·cases hv;exact qd _ _ _
       ·cases hv;exact Nat.le_refl _
      ·cases hv
     ·cases hv
    ·cases hv
   case mapUpdate t x y z=>
    obtain⟨e,h1,h2⟩:=yM hv;cases h2;exact zCf h1
   case insert t x y z=>
    obtain⟨e,h1,h2⟩:=yM hv;cases h2;exact zCf h1
   case call c=>
    split at hv
    ·rename_i b hb;unfold zAT at hv;cases b<;>simp only at hv<;>(try (cases hv;done))
     all_goals(try (rw[hb] at hs;exact absurd rfl hs))
     ·split at hv
      ·split at hv
       ·split at hv
        ·exact zJt hv
        ·exact zJu hv
       ·cases hv
      ·cases hv
     ·split at hv
      ·split at hv
       ·split at hv
        ·split at hv
         ·cases hv;exact Nat.le_refl _
         ·cases hv
        ·cases hv
       ·cases hv
      ·cases hv
     ·split at hv
      ·split at hv
       ·obtain⟨e,h1,h2⟩:=yM hv;cases h2;exact zM0 h1
       ·cases hv
      ·cases hv
     ·split at hv
      ·split at hv
       ·rcases zEF hv with⟨_,_,rfl⟩ | ⟨_,rfl⟩ <;>exact Nat.le_refl _
       ·cases hv
      ·cases hv
    ·cases hv
def Fr (ro:Option Nat):Fence:= { fn:=fun _=>True,depth:=none,alive:=false,round:=ro }
structure Ctx (P:Program) where
 w0:Base
 G:List Nat
 M:Imm
 ρ:Ren
 good:zJn P w0
def zLG (b:Nat):Deferred:= { target:= .collected b,args:= #[] }
def St {P:Program} (c:Ctx P) (ms:List Nat) (n:Nat) (fr:Frm) (h:Heap) (a:Act) (w:World):Prop:=
 ∃M ρ,MLe c.M M∧RLe c.ρ ρ∧Sim c.w0 (ms++c.G) M ρ h w∧zBn ρ h.next∧zIb M ρ fr a.tmps∧a.defers=ms.map zLG∧a.tmps.size=n
def zIK (n:Nat):Option Tmp→Bool
 |some t=>decide (t<n)
 |none=>true
section
variable {P:Program} {mu:Tmp→Bool} {c:Ctx P} {ms:List Nat} {n:Nat} {fr:Frm} {h:Heap} {a:Act} {w:World} {Q:Exit→Act→World→Prop} {ro:Option Nat} {ops:Array Oper}
theorem zGS {M:Imm} {ρ:Ren} {tmps:Array Value} {t:Tmp} {d:D} {v:Value} (hf:zIb M ρ fr tmps) (hr:rel M ρ d v) (ht:t<tmps.size):zIb M ρ (zAe fr (some t) d) (tmps.setIfInBounds t v):=by
 intro i;have hi:=hf i;simp only[zAe];by_cases h:i=t
 ·subst h;simp only[if_true]
  have:(tmps.setIfInBounds i v).getD i undef=v:=by simp[Array.getD,ht]
  rw[this];exact hr
 ·simp only[h,if_false]
  have:(tmps.setIfInBounds t v).getD i undef=tmps.getD i undef:=by
   simp only[Array.getD_eq_getD_getElem?,Array.getElem?_setIfInBounds_ne (Ne.symm h)]
  rw[this];exact hi
theorem zBo {M M':Imm} {ρ ρ':Ren} {tmps:Array Value} (hM:MLe M M') (hr:RLe ρ ρ') (hf:zIb M ρ fr tmps):zIb M' ρ' fr tmps:=fun i=>qE hM hr _ _ (hf i)
theorem St.put {M:Imm} {ρ:Ren} {dst:Option Tmp} {d:D} {v:Value} {h':Heap} {w':World} (hd:zIK n dst=true) (h1:MLe c.M M) (h2:RLe c.ρ ρ) (h3:Sim c.w0 (ms++c.G) M ρ h' w') (h4:zBn ρ h'.next) (h5:zIb M ρ fr a.tmps)
  (h6:a.defers=ms.map zLG) (h7:a.tmps.size=n) (hr:rel M ρ d v):St c ms n (zAe fr dst d) h' (a.put dst v) w':=by
 refine⟨M,ρ,h1,h2,h3,h4,?_,?_,?_⟩
 ·cases dst with
  |none=>exact h5
  |some t=>exact zGS h5 hr (by simpa [zIK,h7] using hd)
 ·cases dst<;>exact h6
 ·cases dst with
  |none=>exact h7
  |some t=>simpa [Act.put] using h7
theorem zM1 {M:Imm} {ρ:Ren} {d:D} {b:Bool} (hr:rel M ρ d (.bool b)):d= .bool b:=by
 cases d<;>simp only[rel] at hr
 case bool=>cases hr;rfl
 all_goals first
  |(cases hr;done)
  |(obtain⟨hr,_⟩:=hr;cases hr;done)
  |(obtain⟨_,hr,_⟩:=hr;cases hr;done)
  |(obtain⟨_,_,hr⟩:=hr;cases hr;done)
  |(obtain⟨_,_,hr,_⟩:=hr;cases hr;done)
  |(obtain⟨_,_,_,hr,_⟩:=hr;cases hr;done)
  |(obtain⟨_,_,_,_,_,⟨_,hr,_⟩,_⟩:=hr;cases hr;done)
  |(obtain⟨_,_,_,_,_,hr,_⟩:=hr;cases hr;done)
  |(obtain⟨_,_,_,_,_,_,hr,_⟩:=hr;cases hr;done)
theorem zPm {M:Imm} {ρ:Ren} {o:Oper} (hf:zIb M ρ fr a.tmps):Region.wanted o (yielded ops a.tmps)=y9 ops fr o.guard:=by
 unfold Region.wanted y9;cases o.guard with
 |none=>rfl
 |some gw=>
  obtain⟨g,want⟩:=gw;simp only;unfold yielded;cases hg:(ops[g]?).bind (·.dst) with
  |none=>rfl
  |some t=>
   simp only[Option.bind_some];have ht:=hf t;rw[Array.getD_eq_getD_getElem?] at ht;cases hv:a.tmps[t]? with
   |none=>
    rw[hv] at ht;simp only[Option.getD_none] at ht;cases hd:fr t with
    |bool b=>rw[hd] at ht;simp only[rel,undef] at ht;cases ht
    |_=>rfl
   |some v=>
    rw[hv] at ht;simp only[Option.getD_some] at ht;cases v with
    |bool b=>rw[zM1 ht];simp[eq_comm]
    |_=>
     cases hd:fr t with
     |bool b=>rw[hd] at ht;simp only[rel] at ht;cases ht
     |_=>rfl
theorem zLH {g:FuncId} (he:qV P g=true):∃fn,P.funcs[g]? =some fn∧fn.body.isSome=true∧(fn.name== "runtime.NumGoroutine")=false:=by
 unfold qV at he;split at he
 ·rename_i fn hfn;simp only[Bool.and_eq_true,bne,Bool.not_eq_true'] at he;exact⟨fn,hfn,he.1,he.2⟩
 ·cases he
theorem zFj {g:FuncId} (he:qV P g=true) (args:Array Value) (w:World):(callFunc g args).run P w= .ok (.enter g args) w:=by
 obtain⟨fn,h1,h2,h3⟩:=zLH he;have hp:(program).run P w= .ok P w:=rfl;have h4:fn.body.isNone=false:=by cases hb:fn.body<;>simp[hb] at h2⊢
 simp only[callFunc,Sem.run_bind,hp,Result.andThen_ok,h1,h3,h4,Bool.false_eq_true,if_false,Sem.run_pure]
theorem St.op {m:Bool} {o:Oper} {k:D→Heap→Prop} {KC:Act→World→Prop} (hs:St c ms n fr h a w) (hok:zPi o.op=true) (hd:zIK n o.dst=true) (hv:qn P m h.next o.op (zz fr) h k)
  (hk:∀d h' a' w',St c ms n (zAe fr o.dst d) h' a' w'→k d h'→KC a' w'):o.wpIn (Fr ro) 0 P a w KC Q:=by
 obtain⟨M,ρ,h1,h2,h3,h4,h5,h6,h7⟩:=hs;refine⟨fun _ _=>trivial,?_⟩;have hnd:∀c,o.op≠ .defer c:=by
  intro c e;unfold qn at hv;rw[e] at hv;simp[qK,vop] at hv
 rw[Oper.semAt_eq _ _ _ hnd];unfold qn at hv;split at hv
 ·rename_i f args hc;unfold qK at hc;split at hc
  ·rename_i cl hop;split at hc
   ·rename_i f' hf';cases hc;have hokf:zWN f=true∧cl.args.toList.all zWN=true:=by
     unfold zPi at hok;rw[hop] at hok;simp only[Op.operands,Call.operands,hf'] at hok;constructor
     ·exact List.all_eq_true.1 hok f (by simp)
     ·exact List.all_eq_true.2 fun z hz=>List.all_eq_true.1 hok z (by simp;first|exact .inl (by simpa using hz)|exact .inr (by simpa using hz))
    have rf:=zED h5 hokf.1;have ra:zy M ρ (cl.args.toList.map (zz fr)) (cl.args.map a.eval).toList:=by rw[Array.toList_map];exact zCd h5 hokf.2
    have post:∀e w',Ret c.w0 (ms++c.G) M ρ k e w'→∃v,e= .returned v∧KC (a.put o.dst v) w':=by
     rintro e w' ⟨v,M',ρ',d,h',rfl,q1,q2,q3,q4,q5,q6⟩;exact⟨v,rfl,hk d h' _ _ (St.put hd (h1.trans q1) (h2.trans q2) q3 q4 (zBo q1 q2 h5) h6 h7 q5) q6⟩
    cases hfr:zz fr f<;>rw[hfr] at hv rf<;>simp only[zIJ] at hv
    ·rename_i g first cap
     cases g<;>simp only at hv;rename_i g;simp only[rel] at rf;obtain⟨_,va,vc,ef,rva,rvc⟩:=rf;have hrun:(execOp a.eval o).run P w= .ok (.enter g (va++cl.args.map a.eval++vc)) w:=by
      simp only[execOp,hop,resolve,hf',ef,Deferred.ofValue,Sem.run_bind,Sem.run_pure,Result.andThen_ok,invoke,zFj hv.1]
     rw[hrun];refine⟨fun e=>(by cases e),?_⟩;have hcall:=hv.2 c.w0 (ms++c.G) M ρ w (va++cl.args.map a.eval++vc) c.good h3 h4 (by simp only[Array.toList_append];exact yt (yt rva ra) rvc);refine CallsIn.mono (F:=Fr ro) (n:=0-1) (callsIn_wide.2 hcall) fun e w' he=> ?_;obtain⟨v,rfl,hkc⟩:=post e w' he;exact hkc
    ·rename_i id;simp only[rel] at rf;obtain⟨l,hl,ef⟩:=rf;obtain⟨g,tmps,as,body,y1,y2⟩:=hv c.w0 (ms++c.G) M ρ w (cl.args.map a.eval) l c.good h3 h4 ra hl;have hrun:(execOp a.eval o).run P w= .ok (.round l.blk g tmps as body) w:=by
      simp only[execOp,hop,resolve,hf',ef,Deferred.ofValue,Sem.run_bind,Sem.run_pure,Result.andThen_ok,invoke];simpa using y1
     rw[hrun];refine⟨fun e=>(by cases e),?_⟩;refine RoundIn.mono (F:=Fr ro) (n:=0-1) y2 fun e w' he=> ?_;obtain⟨v,rfl,hkc⟩:=post e w' he;exact hkc
   ·cases hc
  ·cases hc
 ·split at hv
  ·rename_i d h' hvop;obtain⟨nx,v,w',M',ρ',k1,k2,k3,k4,k5,k6,k7⟩:=zWO h3 (h4 h.next (Nat.le_refl _)) h5 hok hvop;have hst:St c ms n (zAe fr o.dst d) h' (a.put o.dst v) w':=by
    refine St.put hd (h1.trans k3) (h2.trans k4) k6 (fun i hi=> ?_) (zBo k3 k4 h5) h6 h7 k7;rw[k5 i (.inl hi)];exact h4 i (Nat.le_trans (zOD hvop) hi)
   rw[k1];rcases k2 with rfl| ⟨rfl,rfl⟩
   ·exact hk d h' _ _ hst hv
   ·exact hk d h' _ _ hst hv
  ·exact hv.elim
end
def zPn (n:Nat) (ops:Array Oper):Bool:=ops.toList.all fun o=>zPi o.op&&zIK n o.dst
section
variable {P:Program} {mu:Tmp→Bool} {c:Ctx P} {ms:List Nat} {n:Nat} {fr:Frm} {h h0:Heap} {a:Act} {w:World} {Q:Exit→Act→World→Prop} {ro:Option Nat} {ops:Array Oper} {fl:Bool} {K:Frm→Heap→Prop}
theorem zG7 (hreg:zPn n ops=true) {i:Nat} {o:Oper} (hi:ops[i]? =some o):zPi o.op=true∧zIK n o.dst=true:=by
 have:=List.all_eq_true.1 hreg o (by rw[←Array.getElem?_toList] at hi;exact List.mem_of_getElem? hi);simpa using this
theorem St.skip {dst:Option Tmp} (hd:zIK n dst=true) (hs:St c ms n fr h a w):St c ms n (zAe fr dst wA) h (a.put dst undef) w:=by
 obtain⟨M,ρ,h1,h2,h3,h4,h5,h6,h7⟩:=hs;exact St.put hd h1 h2 h3 h4 h5 h6 h7 zCc
theorem St.wanted {o:Oper} (hs:St c ms n fr h a w):Region.wanted o (yielded ops a.tmps)=y9 ops fr o.guard:=by
 obtain⟨M,ρ,h1,h2,h3,h4,h5,h6,h7⟩:=hs;exact zPm h5
theorem zIk (hreg : zPn n ops = true) (hK : ∀ fr h a w, St c ms n fr h a w → K fr h → Q .normal a w) : ∀ (rest pre : List Oper), ops.toList = pre ++ rest → ∀ fr h a w, St c ms n fr h a w → zH9 P mu ops rest K fr h →
      wpOpsIn (Fr ro) 0 P ops Q (List.range' pre.length rest.length) a w
  | [], pre, _, fr, h, a, w, hs, hv => by
    simp only [List.length_nil, List.range'_zero, wpOpsIn];exact hK _ _ _ _ hs hv
  | o :: rest, pre, he, fr, h, a, w, hs, hv => by
    have ho : ops[pre.length]? = some o := by rw [← Array.getElem?_toList, he]; simp
    obtain ⟨k1, k2⟩ := zG7 hreg ho;have ih := zIk hreg hK rest (pre ++ [o]) (by simp [he]);rw [List.length_append, List.length_singleton] at ih;rw [List.length_cons, List.range'_succ];simp only [wpOpsIn, ho, hs.wanted];simp only [zH9] at hv;cases hg : y9 ops fr o.guard with
    | true =>
      rw [hg] at hv;simp only [if_true];exact St.op hs k1 k2 hv fun d h' a' w' hs' hk => ih _ _ _ _ hs' hk
    | false =>
      rw [hg] at hv;simp only [Bool.false_eq_true, if_false];exact ⟨fun _ _ => trivial, ih _ _ _ _ (hs.skip k2) hv⟩
def StU {P:Program} (c:Ctx P) (U:Nat→Prop) (ms:List Nat) (n:Nat) (fr:Frm) (h:Heap) (a:Act) (w:World):Prop:=
 ∃M ρ,MLe c.M M∧RLe c.ρ ρ∧Sim c.w0 (ms++c.G) M ρ h w∧zBn ρ h.next∧zIb M ρ fr a.tmps∧a.defers=ms.map zLG∧a.tmps.size=n∧∀i,U i→i<h.next∧ρ i=none
theorem StU.st {U:Nat→Prop} (hs:StU c U ms n fr h a w):St c ms n fr h a w:=
 let ⟨M,ρ,h1,h2,h3,h4,h5,h6,h7,_⟩:=hs
 ⟨M,ρ,h1,h2,h3,h4,h5,h6,h7⟩
theorem St.stu {U:Nat→Prop} (hU:∀i,¬U i) (hs:St c ms n fr h a w):StU c U ms n fr h a w:=
 let ⟨M,ρ,h1,h2,h3,h4,h5,h6,h7⟩:=hs
 ⟨M,ρ,h1,h2,h3,h4,h5,h6,h7,fun i hi=>(hU i hi).elim⟩
theorem StU.less {U U':Nat→Prop} (hU:∀i,U' i→U i) (hs:StU c U ms n fr h a w):StU c U' ms n fr h a w:=
 let ⟨M,ρ,h1,h2,h3,h4,h5,h6,h7,h8⟩:=hs
 ⟨M,ρ,h1,h2,h3,h4,h5,h6,h7,fun i hi=>h8 i (hU i hi)⟩
theorem StU.skip {U:Nat→Prop} {dst:Option Tmp} (hd:zIK n dst=true) (hs:StU c U ms n fr h a w):StU c U ms n (zAe fr dst wA) h (a.put dst undef) w:=by
 obtain⟨M,ρ,h1,h2,h3,h4,h5,h6,h7,h8⟩:=hs;refine⟨M,ρ,h1,h2,h3,h4,?_,?_,?_,h8⟩
 ·cases dst with
  |none=>exact h5
  |some t=>exact zGS h5 zCc (by simpa [zIK,h7] using hd)
 ·cases dst<;>exact h6
 ·cases dst with
  |none=>exact h7
  |some t=>simpa [Act.put] using h7
theorem StU.op {U:Nat→Prop} {m:Bool} {nid:Nat} {o:Oper} {k:D→Heap→Prop} {KC:Act→World→Prop} (hs:StU c U ms n fr h a w) (hok:zPi o.op=true) (hd:zIK n o.dst=true) (hc:qK o.op=none) (hnid:nid=h.next∨U nid) (hv:qn P m nid o.op (zz fr) h k)
  (hk:∀d h' a' w',StU c (fun i=>U i∧i≠nid) ms n (zAe fr o.dst d) h' a' w'→k d h'→KC a' w'):o.wpIn (Fr ro) 0 P a w KC Q:=by
 obtain⟨M,ρ,h1,h2,h3,h4,h5,h6,h7,h8⟩:=hs;refine⟨fun _ _=>trivial,?_⟩;have hnd:∀c,o.op≠ .defer c:=by
  intro c e;unfold qn at hv;rw[e] at hv;simp[qK,vop] at hv
 rw[Oper.semAt_eq _ _ _ hnd];unfold qn at hv;rw[hc] at hv;simp only at hv;split at hv
 ·rename_i d h' hvop;have hρ:ρ nid=none:=by
   rcases hnid with rfl|hu
   ·exact h4 _ (Nat.le_refl _)
   ·exact(h8 _ hu).2
  obtain⟨nx,v,w',M',ρ',k1,k2,k3,k4,k5,k6,k7⟩:=zWO h3 hρ h5 hok hvop;have hnx:=zOD hvop;have hst:StU c (fun i=>U i∧i≠nid) ms n (zAe fr o.dst d) h' (a.put o.dst v) w':=by
   refine⟨M',ρ',h1.trans k3,h2.trans k4,k6,fun i hi=> ?_,?_,?_,?_,fun i hi=>⟨Nat.lt_of_lt_of_le (h8 i hi.1).1 hnx,?_⟩⟩
   ·rw[k5 i (.inl hi)];exact h4 i (Nat.le_trans hnx hi)
   ·cases ho:o.dst with
    |none=>exact zBo k3 k4 h5
    |some t=>exact zGS (zBo k3 k4 h5) k7 (by rw[ho] at hd;simpa [zIK,h7] using hd)
   ·cases o.dst<;>exact h6
   ·cases o.dst with
    |none=>exact h7
    |some t=>simpa [Act.put] using h7
   ·rw[k5 i (.inr hi.2)];exact(h8 i hi.1).2
  rw[k1];rcases k2 with rfl| ⟨rfl,rfl⟩
  ·exact hk d h' _ _ hst hv
  ·exact hk d h' _ _ hst hv
 ·exact hv.elim
def zXy (b:Nat) (l:List (Nat×Fl)) (i:Nat):Prop:=∃x∈l,∃k,x.2= .al k∧i=b+k
theorem StU.ux {U:Nat→Prop} {st:Fl} {i:Nat} {o:Oper} {k:D→Heap→Prop} {KC:Act→World→Prop} (hs:StU c U ms n fr h a w) (hi:ops[i]? =some o) (hreg:zPn n ops=true) (hl:st.isSt=true→HLe h0 h) (hc:qK o.op=none) (hal:∀k,st= .al k→U (h0.next+k)) (hu:ux P mu h0 st ops o fr h k)
  (hk:∀d h' a' w',StU c (fun i=>U i∧∀k,st= .al k→i≠h0.next+k) ms n (zAe fr o.dst d) h' a' w'→k d h'→KC a' w'):wpOpIn (Fr ro) 0 P ops Q i KC a w:=by
 obtain⟨k1,k2⟩:=zG7 hreg hi;have hlt:∀i,U i→i<h.next:=fun i hi=>let ⟨_,_,_,_,_,_,_,_,_,h8⟩:=hs;(h8 i hi).1
 unfold wpOpIn;simp only[hi,hs.st.wanted];unfold V.ux at hu;cases hg:y9 ops fr o.guard with
 |false=>
  rw[hg] at hu;simp only[Bool.false_eq_true,if_false];exact⟨fun _ _=>trivial,hk _ _ _ _ ((hs.skip k2).less fun i hi=>hi.1) hu⟩
 |true=>
  rw[hg] at hu;simp only[if_true];cases st with
  |no=>exact hs.op k1 k2 hc (.inl rfl) hu fun d h' a' w' hs' hq=>hk d h' a' w' (hs'.less fun i hi=>⟨hi.1,fun e=>Nat.ne_of_lt (hlt i hi.1) e⟩) hq
  |qu=>
   refine hs.op k1 k2 hc (.inl rfl) hu fun d' h' a' w' hs' hq=> ?_;obtain⟨rfl,hq⟩:=hq;exact hk _ _ _ _ (hs'.less fun i hi=>⟨hi.1,fun e=>Nat.ne_of_lt (hlt i hi.1) e⟩) hq
  |st=>
   obtain⟨d,d1,d2⟩:=hu;refine hs.op k1 k2 hc (.inl rfl) (d1 h (hl rfl)) fun d' h' a' w' hs' hq=> ?_;obtain⟨rfl,rfl⟩:=hq;exact hk _ _ _ _ (hs'.less fun i hi=>⟨hi.1,fun e=>Nat.ne_of_lt (hlt i hi.1) e⟩) d2
  |al j=>
   exact hs.op k1 k2 hc (.inr (hal j rfl)) hu fun d h' a' w' hs' hq=>hk d h' a' w' (hs'.less fun i hi=>⟨hi.1,hi.2 j rfl⟩) hq
theorem St.ux {st:Fl} {i:Nat} {o:Oper} {k:D→Heap→Prop} {KC:Act→World→Prop} (hs:St c ms n fr h a w) (hna:st.isAl=false) (hi:ops[i]? =some o) (hreg:zPn n ops=true) (hl:st.isSt=true→HLe h0 h) (hu:ux P mu h0 st ops o fr h k)
  (hk:∀d h' a' w',St c ms n (zAe fr o.dst d) h' a' w'→k d h'→KC a' w'):wpOpIn (Fr ro) 0 P ops Q i KC a w:=by
 obtain⟨k1,k2⟩:=zG7 hreg hi;unfold wpOpIn;simp only[hi,hs.wanted];unfold V.ux at hu;cases hg:y9 ops fr o.guard with
 |false=>
  rw[hg] at hu;simp only[Bool.false_eq_true,if_false];exact⟨fun _ _=>trivial,hk _ _ _ _ (hs.skip k2) hu⟩
 |true=>
  rw[hg] at hu;simp only[if_true];cases st with
  |no=>exact St.op hs k1 k2 hu hk
  |qu=>
   refine St.op hs k1 k2 hu fun d' h' a' w' hs' hq=> ?_;obtain⟨rfl,hq⟩:=hq;exact hk _ _ _ _ hs' hq
  |st=>
   obtain⟨d,d1,d2⟩:=hu;refine St.op hs k1 k2 (d1 h (hl rfl)) fun d' h' a' w' hs' hq=> ?_;obtain⟨rfl,rfl⟩:=hq;exact hk _ _ _ _ hs' d2
  |al j=>cases hna
theorem zLI {i:Nat×Fl} {l2:List (Nat×Fl)} :∀ {l1:List (Nat×Fl)},zJp P mu ops (l1++i::l2)=true→zJp P mu ops (l1++l2)=true∧∀j∈l1,(clo ops ops.size i.1 j.1||zDP P mu ops j i)=true
 | [],hv=>by
  simp only[List.nil_append,zJp,Bool.and_eq_true] at hv;exact⟨hv.2,fun j hj=>by cases hj⟩
 |j::l1,hv=>by
  simp only[List.cons_append,zJp,Bool.and_eq_true,List.all_append,List.all_cons] at hv⊢;obtain⟨⟨h1,h2,h3⟩,h4⟩:=hv;obtain⟨g1,g2⟩:=zLI h4;exact⟨⟨⟨h1,h3⟩,g1⟩,fun k hk=>by
   rcases List.mem_cons.1 hk with rfl|hk
   ·exact h2
   ·exact g2 k hk⟩
theorem zLJ {i:Nat×Fl} {l2:List (Nat×Fl)} :∀ {l1:List (Nat×Fl)},zJq ops (l1++i::l2)=true→zJq ops (l1++l2)=true
 | [],hv=>by
  simp only[List.nil_append,zJq,Bool.and_eq_true] at hv;exact hv.2
 |j::l1,hv=>by
  simp only[List.cons_append,zJq,Bool.and_eq_true] at hv⊢;refine⟨?_,zLJ hv.2⟩;have h1:=hv.1;cases hj:ops[j.1]? with
  |none=>rw[hj] at h1;cases h1
  |some o=>
   rw[hj] at h1;simp only[Array.all_eq_true',Bool.or_eq_true,Bool.and_eq_true,List.all_append,List.all_cons] at h1⊢;intro e he;rcases h1 e he with g| ⟨⟨g1,g2⟩,g3,_,g4⟩
   ·exact .inl g
   ·exact .inr ⟨⟨g1,g2⟩,g3,g4⟩
def zbP (h0:Heap) (ops:Array Oper) (l:List (Nat×Fl)):Prop:=
 (∀x∈l,x.2.isAl=false)∨((∀ (i:Nat) (o:Oper),ops[i]? =some o→qK o.op=none)∧(∀x∈l,∀y∈l,∀k,x.2= .al k→y.2= .al k→x.1=y.1)∧∀k,h0.at' (h0.next+k)=none)
theorem zbP.less {l l':List (Nat×Fl)} (hl:∀x∈l',x∈l):zbP h0 ops l→zbP h0 ops l'
 | .inl h=> .inl fun x hx=>h x (hl x hx)
 | .inr ⟨h1,h2,h3⟩=> .inr ⟨h1,fun x hx y hy=>h2 x (hl x hx) y (hl y hy),h3⟩
theorem zM2 {bk : Nat → Bool} (hreg : zPn n ops = true) (hK : ∀ fr h a w, St c ms n fr h a w → K fr h → Q .normal a w) : ∀ (fuel : Nat) (fl : Bool) (l : List (Nat × Fl)) (listed : Array Bool) (fr : Frm) (h : Heap) (a : Act) (w : World),
      l.length ≤ fuel → (l.map (·.1)).Nodup → (∀ i, i < ops.size → (listed.getD i true = false ↔ i ∈ l.map (·.1))) → listed.size = ops.size →
      (∀ k o, ops[k]? = some o → listed.getD k true = true → ∀ e ∈ o.after, Region.binds .any e = true → listed.getD e.on false = true) →
      zJp P mu ops l = true → zJq ops l = true → (fl = true → HLe h0 h) → (∀ x ∈ l, x.2.isSt = true → fl = true) → (∀ y ∈ l, bk y.1 = true → ∀ x, zDP P mu ops y x = false) → (∀ x ∈ l, bk x.1 = true → ∀ z ∈ l, z.2.isSt = true → clo ops ops.size x.1 z.1 = true) → zbP h0 ops l → StU c (zXy h0.next l) ms n fr h a w → zAa P mu h0 bk ops fl l K fr h →
      wpAnyIn (Fr ro) 0 P .any ops Q fuel listed a w := by
  have headReady : ∀ (l : List (Nat × Fl)) (listed : Array Bool) (j : Nat × Fl) (l' : List (Nat × Fl)), l = j :: l' → (∀ i, i < ops.size → (listed.getD i true = false ↔ i ∈ l.map (·.1))) → listed.size = ops.size → zJq ops l = true → j.1 ∈ Region.ready .any ops listed := by
    intro l listed j l' hl hiff hsz htop;subst hl;simp only [zJq, Bool.and_eq_true] at htop;have h1 := htop.1;cases hj : ops[j.1]? with
    | none => rw [hj] at h1; cases h1
    | some o =>
      rw [hj] at h1;have hlt : j.1 < ops.size := (Array.getElem?_eq_some_iff.1 hj).1;refine mem_ready.2 ⟨(hiff j.1 hlt).2 (by simp), o, hj, fun e he hb => ?_⟩;simp only [Array.all_eq_true', Bool.or_eq_true, Bool.not_eq_true', Bool.and_eq_true, decide_eq_true_eq] at h1;rcases h1 e he with g | ⟨⟨g1, g2⟩, g3⟩
      · rw [hb] at g; cases g
      · have hn : ¬ (listed.getD e.on true = false) := fun hf => by
          have hm := (hiff e.on g1).1 hf;simp only [List.map_cons, List.mem_cons, List.mem_map] at hm;rcases hm with hm | ⟨x, hx, hm⟩
          · rw [hm] at g2; simp at g2
          · have := List.all_eq_true.1 g3 x hx
            rw [hm] at this; simp at this
        have hlt' : e.on < listed.size := by omega
        simp [hlt'] at hn ⊢;exact hn
  intro fuel
  induction fuel with
  | zero =>
    intro fl l listed fr h a w hlen hnd hiff hsz hdown hord htop hle hfl hb1 hb2 hmo hs hv
    have : l = [] := List.length_eq_zero_iff.1 (by omega);subst this;refine ⟨?_, hK _ _ _ _ hs.st hv⟩;cases hr : Region.ready .any ops listed with
    | nil => rfl
    | cons i rs =>
      have hi : i ∈ Region.ready .any ops listed := by rw [hr]; simp
      obtain ⟨h1, o, h2, _⟩ := mem_ready.1 hi;have := (hiff i (Array.getElem?_eq_some_iff.1 h2).1).1 h1;simp at this
  | succ fuel ih =>
    intro fl l listed fr h a w hlen hnd hiff hsz hdown hord htop hle hfl hb1 hb2 hmo hs hv;refine ⟨fun hr => ?_, fun i hi => ?_⟩
    · cases l with
      | nil => exact hK _ _ _ _ hs.st hv
      | cons j l' =>
        have := headReady _ listed j l' rfl hiff hsz htop;rw [hr] at this; cases this
    · obtain ⟨h1, o, h2, h3⟩ := mem_ready.1 hi
      have hlt := (Array.getElem?_eq_some_iff.1 h2).1;have hm := (hiff i hlt).1 h1;obtain ⟨x, hx, rfl⟩ := List.mem_map.1 hm;obtain ⟨l1, l2, rfl⟩ := List.append_of_mem hx;obtain ⟨o1, o2⟩ := zLI hord;have hnot : ∀ j : Nat × Fl, j ∈ l1 ++ x :: l2 → clo ops ops.size x.1 j.1 = true → False := fun j hj g => by
        have hl := zIj hdown ops.size x.1 j.1 o h2 h3 g;have hjl : j.1 < listed.size := by
          by_cases hb : j.1 < listed.size
          · exact hb
          · simp [hb] at hl
        have hf := (hiff j.1 (by omega)).2 (List.mem_map.2 ⟨j, hj, rfl⟩);simp [hjl] at hl hf;rw [hl] at hf; cases hf
      have hsw : ∀ j ∈ l1, zDP P mu ops j x = true ∧ bk j.1 = false ∧ (j.2.isAl = true → ∀ k, h0.at' (h0.next + k) = none) := fun j hj => by
        have hjl : j ∈ l1 ++ x :: l2 := by simp [hj]
        rcases Bool.or_eq_true _ _ ▸ o2 j hj with g | g
        · exact (hnot j hjl g).elim
        · refine ⟨g, ?_⟩
          refine ⟨?_, fun ha => ?_⟩
          · cases hbk : bk j.1 with
            | false => rfl
            | true => rw [hb1 j hjl hbk x] at g; cases g
          · rcases hmo with hmo | hmo
            · rw [hmo j hjl] at ha; cases ha
            · exact hmo.2.2
      have hb := zWR h2 fl l1 fr h hsw hv;have hnd' : ((l1 ++ l2).map (·.1)).Nodup ∧ x.1 ∉ (l1 ++ l2).map (·.1) := by
        simp only [List.map_append, List.map_cons] at hnd ⊢;have := (List.perm_middle (a := x.1) (l₁ := l1.map (·.1)) (l₂ := l2.map (·.1))).nodup_iff.1 hnd;exact ⟨(List.nodup_cons.1 this).2, (List.nodup_cons.1 this).1⟩
      have hsub : ∀ y, y ∈ l1 ++ l2 → y ∈ l1 ++ x :: l2 := fun y hy => by simp at hy ⊢; rcases hy with hy | hy <;> simp [hy]
      have pick : ∀ {KC : Act → World → Prop}, (∀ d h' a' w', StU c (zXy h0.next (l1 ++ l2)) ms n (zAe fr o.dst d) h' a' w' → (((fl && !bk x.1) = true → HLe h0 h') ∧ zAa P mu h0 bk ops (fl && !bk x.1) (l1 ++ l2) K (zAe fr o.dst d) h') → KC a' w') → wpOpIn (Fr ro) 0 P ops Q x.1 KC a w := fun hk => by
        rcases hmo with hmo | ⟨m1, m2, m3⟩
        · exact St.ux hs.st (hmo x hx) h2 hreg (fun e => hle (hfl x hx e)) hb fun d h' a' w' hs' hq => hk d h' a' w' (hs'.stu fun i hi => by
            obtain ⟨y, hy, k, hk, _⟩ := hi;have := hmo y (hsub y hy);rw [hk] at this; cases this) hq
        · exact StU.ux hs h2 hreg (fun e => hle (hfl x hx e)) (m1 _ _ h2) (fun k hk => ⟨x, hx, k, hk, rfl⟩) hb fun d h' a' w' hs' hq => hk d h' a' w' (hs'.less fun i hi => by
            obtain ⟨y, hy, k, hk, rfl⟩ := hi;refine ⟨⟨y, hsub y hy, k, hk, rfl⟩, fun k' hk' e => ?_⟩;have hkk : k = k' := by omega
            subst hkk;exact hnd'.2 (List.mem_map.2 ⟨y, hy, m2 y (hsub y hy) x hx k hk hk'⟩)) hq
      refine pick fun d h' a' w' hs' hq => ?_;refine ih _ (l1 ++ l2) _ _ _ _ _ (by simp at hlen ⊢; omega) hnd'.1 (fun k hk => ?_) (by simpa using hsz) (fun k ok hok hkl e he hbb => ?_) o1 (zLJ htop) hq.1 (fun y hy hst => ?_) (fun y hy => hb1 y (hsub y hy)) (fun y hy hbk z hz => hb2 y (hsub y hy) hbk z (hsub z hz)) (hmo.less hsub) hs' hq.2
      · by_cases hkx : k = x.1
        · subst hkx
          have : (listed.setIfInBounds x.1 true).getD x.1 true = true := by simp [hsz, hlt]
          rw [this];constructor
          · intro e; cases e
          · intro e; exact absurd e hnd'.2
        · rw [getD_set_ne true (Ne.symm hkx), hiff k hk]
          simp only [List.map_append, List.map_cons, List.mem_append, List.mem_cons];constructor
          · rintro (g | g | g)
            · exact .inl g
            · exact absurd g hkx
            · exact .inr g
          · rintro (g | g)
            · exact .inl g
            · exact .inr (.inr g)
      · have keep : ∀ q, listed.getD q false = true → (listed.setIfInBounds x.1 true).getD q false = true := fun q hq' => by
          by_cases hqx : q = x.1
          · subst hqx; simp [hsz, hlt]
          · rw [getD_set_ne false (Ne.symm hqx)]; exact hq'
        by_cases hkx : k = x.1
        · subst hkx
          rw [h2] at hok; cases hok;exact keep _ (h3 e he hbb)
        · rw [getD_set_ne true (Ne.symm hkx)] at hkl
          exact keep _ (hdown k ok hok hkl e he hbb)
      · have hft := hfl y (hsub y hy) hst
        cases hbk : bk x.1 with
        | false => simp [hft]
        | true => exact (hnot y (hsub y hy) (hb2 x hx hbk y (hsub y hy) hst)).elim
end
structure Cfg where
 mu:Tmp→Bool
 dr:Nat→List (Nat×Fl)
def zDf (K:Frm→Heap→Prop) (Q:Exit→Frm→Heap→Prop) (e:Exit) (fr:Frm) (h:Heap):Prop:=
 match e with
 | .normal=>K fr h
 |e=>Q e fr h
def zEG (id:Nat) (Q:Exit→Frm→Heap→Prop) (e:Exit) (fr:Frm) (h:Heap):Prop:=
 match e with
 | .exit i=>if i=id then Q .normal fr h else Q (.exit i) fr h
 |e=>Q e fr h
def zbQ (Q:Exit→Frm→Heap→Prop) (e:Exit) (fr:Frm) (h:Heap):Prop:=
 match e with
 | .goto _=>False
 |e=>Q e fr h
def zLK (p:Option Code) (Q:Exit→Frm→Heap→Prop) (fr:Frm) (h:Heap):Prop:=
 match p with
 |none=>Q .normal fr h
 |some c=>match c with
  | .ret=>Q .ret fr h
  | .exit i=>Q (.exit i) fr h
  |_=>False
def VFn (P:Program) (f:D) (args:List D) (h:Heap) (Q:D→Heap→Prop):Prop:=
 match f with
 | .fn g first cap=>match g with
  | .func g=>zA P g (first++args++cap) h Q
  |_=>False
 |_=>False
def vwp (P : Program) (g : Cfg) (n : Nat) (ro : Option Nat) : Code → (Exit → Frm → Heap → Prop) → Frm → Heap → Prop
  | .skip, Q, fr, h => Q .normal fr h
  | .region id ops draw, Q, fr, h => match draw with
    | false => zH9 P g.mu ops ops.toList (Q .normal) fr h
    | true => ∃ h0, HLe h0 h ∧ zDN P g.mu h0 (zUB P g.mu ops (g.dr id) (zF5 ops.toList 0 [])) ops ((g.dr id).any (·.2.isSt)) (g.dr id) (Q .normal) fr h
  | .seq a b, Q, fr, h => vwp P g n ro a (zDf (vwp P g n ro b Q) Q) fr h
  | .cond c a b, Q, fr, h => match zz fr c with
    | .bool b' => match b' with
      | true => vwp P g n ro a Q fr h
      | false => vwp P g n ro b Q fr h
    | _ => False
  | .block id c, Q, fr, h => vwp P g n ro c (zEG id Q) fr h
  | .exit id, Q, fr, h => Q (.exit id) fr h
  | .ret, Q, fr, h => Q .ret fr h
  | .label _, Q, fr, h => Q .normal fr h
  | .scope c, Q, fr, h => vwp P g n ro c (zbQ Q) fr h
  | .loop c, Q, fr, h => ∃ I : Nat → Frm → Heap → Prop, (∃ k, I k fr h) ∧ ∀ k fr h, I k fr h → vwp P g n ro c (zDf (fun fr h => ∃ m, m < k ∧ I m fr h) Q) fr h
  | .rangeFunc f ps as body, Q, fr, h =>
    (match ro with
     | none => True
     | some id => ∃ r, h.at' id = some (.loop r)) ∧
    VFn P (zz fr f) [.yld h.next] (h.new h.next (.loop ⟨.ready, none, fr, ps, as, body, n⟩)) fun _ h' =>
      ∃ r, h'.at' h.next = some (.loop r) ∧ r.st ≠ .busy ∧ zLK r.pending Q fr (h'.del h.next)
  | _, _, _, _ => False
def qi (P:Program) (g:Cfg) (n:Nat):Code→Bool
 | .skip=>true
 | .region id ops draw=>zPn n ops&&(!draw||zRA P g.mu ops (g.dr id))
 | .seq a b=>qi P g n a&&qi P g n b
 | .cond c a b=>zWN c&&qi P g n a&&qi P g n b
 | .block _ c=>qi P g n c
 | .exit _=>true
 | .ret=>true
 | .loop c=>qi P g n c
 | .rangeFunc f ps as body=>zWN f&&ps.toList.all (fun t=>decide (t<n))&&qi P g n as&&qi P g n body
 | .refuse .. =>true
 | .label _=>true
 | .scope c=>qi P g n c
 |_=>false
def StM {P:Program} (c:Ctx P) (ms:List Nat) (n:Nat) (fr:Frm) (h:Heap) (a:Act) (w:World):Prop:=St c ms n fr h a w∧ms.Nodup∧∀b∈ms,b∉c.G
def zhd {P:Program} (c:Ctx P):Option Nat→Option Nat→Prop
 |none,none=>True
 |some id,some b=>∃l,c.ρ id=some l∧l.blk=b
 |_,_=>False
def zbR {P:Program} (c:Ctx P) (n:Nat) (Q:Exit→Frm→Heap→Prop) (e:Exit) (a:Act) (w:World):Prop:=∃ms fr h,StM c ms n fr h a w∧Q e fr h
section
variable {P:Program} {g:Cfg} {c:Ctx P} {ms:List Nat} {n:Nat} {fr:Frm} {h:Heap} {a:Act} {w:World} {ro rb:Option Nat}
theorem zLL (h:Heap) (i:Nat) (o:Obj):(h.set i o).del i=h.del i:=by
 unfold Heap.set Heap.del;simp only[Heap.mk.injEq,true_and]
 funext j
 by_cases hj:j=i<;>simp[hj]
theorem Sim.mark {w0:Base} {G:List Nat} {M:Imm} {ρ:Ren} (hs:Sim w0 G M ρ h w):Sim w0 (w.heap.size::G) M ρ h (w.alloc (.deferred (some []))):=by
 have ha:=hs.alloc (.deferred (some []));refine { below:=ha.below,imm:=ha.imm,live:=ha.live,apart:=ha.apart,gdef:=fun b hb=> ?_,old:=ha.old };rcases List.mem_cons.1 hb with rfl|hb
 ·refine⟨hs.nokeep (Nat.le_refl _),?_⟩;show(w.heap.push _)[w.heap.size]? =_;simp
 ·exact ha.gdef b hb
theorem Sim.gdef_lt {w0:Base} {G:List Nat} {M:Imm} {ρ:Ren} (hs:Sim w0 G M ρ h w) {b:Nat} (hb:b∈G):b<w.heap.size:=(Array.getElem?_eq_some_iff.1 (hs.gdef b hb).2).1
theorem zBn.upd {ρ:Ren} {l:Loc} {o:Obj} (hf:zBn ρ h.next):zBn (zAE ρ h.next l) (h.new h.next o).next:=fun i hi=>by
 simp only[Heap.new] at hi
 have:i≠h.next:=by omega
 simp only[zAE,this,if_false];exact hf i (by omega)
theorem Sim.loop {w0:Base} {G:List Nat} {M:Imm} {ρ:Ren} (hs:Sim w0 G M ρ h w) (hf:zBn ρ h.next) (L:Go.Loop) (r:LRec) (e1:L.state=r.st) (e2:L.pending=r.pending) (e3:L.params=r.params) (e4:L.assign=r.assign) (e5:L.body=r.body)
  (e6:L.tmps.size=r.n) (e7:zIb M ρ r.fr L.tmps):Sim w0 G M (zAE ρ h.next ⟨w.heap.size,0,0⟩) (h.new h.next (.loop r)) (w.alloc (.loop L)):=by
 refine hs.allocObj (hf _ (Nat.le_refl _)) (.loop L) (.loop r) ⟨w.heap.size,0,0⟩ rfl ⟨L,?_,e1,e2,e3,e4,e5,e6,zBo (MLe.refl _) (yw (hf _ (Nat.le_refl _))) e7⟩;show(w.heap.push _)[w.heap.size]? =_;simp
theorem Sim.setLoop {w0:Base} {G:List Nat} {M:Imm} {ρ:Ren} (hs:Sim w0 G M ρ h w) {id:Nat} {r:LRec} {l:Loc} (hi:h.at' id=some (.loop r)) (hl:ρ id=some l) (st:LoopState) (p:Option Code):
  ∃L:Go.Loop,w.heap[l.blk]? =some (.loop L)∧L.state=r.st∧L.pending=r.pending∧L.params=r.params∧L.assign=r.assign∧L.body=r.body∧L.tmps.size=r.n∧zIb M ρ r.fr L.tmps∧
   Sim w0 G M ρ (h.set id (.loop { r with st:=st,pending:=p })) { w with heap:=w.heap.setIfInBounds l.blk (.loop { L with state:=st,pending:=p }) } :=by
 obtain⟨l',h1,hbase,L,h2,k1,k2,k3,k4,k5,k6,k7⟩:=hs.live id _ hi;rw[hl] at h1;cases h1;have hlt:l.blk<w.heap.size:=(Array.getElem?_eq_some_iff.1 h2).1;refine⟨L,h2,k1,k2,k3,k4,k5,k6,k7,?_⟩;refine hs.put hi hl rfl rfl rfl (by simp) (fun b hb=>by simp only[Array.getElem?_setIfInBounds];rw[if_neg (fun e=>hb e.symm)]) (fun o v e=> ?_) ⟨_,h2,fun d=>by simp⟩ ⟨{ L with state:=st,pending:=p },by simp[hlt],rfl,rfl,k3,k4,k5,k6,k7⟩;have:=hs.imm _ _ _ e;simp[World.cell?,h2] at this
theorem zA8 {b:Nat} {L:Go.Loop} (h:w.heap[b]? =some (.loop L)):(Instr.getLoop b).run P w= .ok L w:=by
 simp[Instr.getLoop,getObj,Sem.run,h]
theorem zDg {b:Nat} {L:Go.Loop} {o':Go.Obj} (h:w.heap[b]? =some (.loop L)):(setObj b o').run P w= .ok () { w with heap:=w.heap.setIfInBounds b o' } :=by
 simp[setObj,Sem.run,h]
theorem zfG {J:Nat→Prop} :∀k,J k→∃k,J k∧∀m,J m→k≤m:=by
 intro k
 induction k using Nat.strongRecOn with
 |_ k ih=>
  intro hk;by_cases hm:∃m,m<k∧J m
  ·obtain⟨m,h1,h2⟩:=hm;exact ih m h1 h2
  ·refine⟨k,hk,fun m hj=> ?_⟩;by_cases hlt:m<k
   ·exact absurd ⟨m,hlt,hj⟩ hm
   ·omega
theorem zOE:∀ {l:List (Nat×Fl)},alN l=0→∀x∈l,x.2.isAl=false
 | [],_,x,hx=>by cases hx
 |y::l,h,x,hx=>by
  simp only[alN] at h;split at h
  ·omega
  ·rename_i hne;rcases List.mem_cons.1 hx with rfl|hx
   ·unfold Fl.isAl;split
    ·rename_i k hk;exact absurd hk (hne k)
    ·rfl
   ·exact zOE h x hx
theorem zWS:∀ {l:List (Nat×Fl)} {x:Nat×Fl} {k:Nat},x∈l→x.2= .al k→k<alN l
 | [],x,k,hx,_=>by cases hx
 |y::l,x,k,hx,hk=>by
  simp only[alN];rcases List.mem_cons.1 hx with rfl|hx
  ·rw[hk];simp only;omega
  ·have:=zWS hx hk;split<;>omega
theorem zRE {ops:Array Oper} {l:List (Nat×Fl)} {m:Nat} (hm:alN l=m+1) (h:zfE ops l=true):(∀ (i:Nat) (o:Oper),ops[i]? =some o→qK o.op=none)∧∀x∈l,∀y∈l,∀k,x.2= .al k→y.2= .al k→x.1=y.1:=by
 unfold zfE at h;rw[hm] at h;simp only[Bool.and_eq_true,List.all_eq_true] at h;refine⟨fun i o ho=> ?_,fun x hx y hy k hk hk'=> ?_⟩
 ·have:=h.1 o (by rw[←Array.getElem?_toList] at ho;exact List.mem_of_getElem? ho);simpa using this
 ·have:=h.2 x hx y hy;rw[hk,hk'] at this;simpa using this
theorem Sim.bump {w0:Base} {G:List Nat} {M:Imm} {ρ:Ren} (hs:Sim w0 G M ρ h w) (m:Nat):Sim w0 G M ρ (h.bump m) w:=
 { below:=hs.below,imm:=hs.imm,live:=hs.live,apart:=hs.apart,gdef:=hs.gdef,old:=hs.old }
section
variable {b:Frame} {k:List Item} {cs:List Frame} {F:Fence} {P:Program} {a:Act} {w:World} {n:Nat} {Q:Exit→Act→World→Prop}
theorem zAH {c:Code} :step P (lone (b.atR a (.code (.scope c)::k)) cs w)= .next (lone (b.atR a (.code c:: .inScope c::k)) cs w):=
 step_lone_go (by simp[stepG,stepG.exec,Frame.atR])
theorem zJv {c:Code} :step P (lone (b.atR a (.inScope c::k)) cs w)= .next (lone (b.atR a k) cs w):=
 step_lone_go (by simp[stepG,stepG.exec,Frame.atR])
theorem zPo {c:Code} (h:c.wpIn F n P (Exit.noGoto Q) a w):(Code.scope c).wpIn F n P Q a w:=by
 intro b k cs hro hb hr;have h0:(lone (b.atR a (.code (.scope c)::k)) cs w).fenced P F:=fenced_calm hb hr rfl;obtain⟨e,a1,w1,hq,harr⟩:=h b (.inScope c::k) cs hro hb hr;cases e with
 |normal=>exact⟨.normal,a1,w1,hq, .head h0 zAH (StepsIn.trans harr (.one (fenced_calm hb hr rfl) zJv))⟩
 |exit id=>
  have hx:exitTo id (.inScope c::k)=exitTo id k:=by simp[exitTo]
  exact⟨.exit id,a1,w1,hq,fun k' hk=> .head h0 zAH (harr.1 k' (by rw[hx];exact hk)),fun hr' hk=>let ⟨k1,h1,h2⟩:=harr.2 hr' (by rw[hx];exact hk);⟨k1,h1, .head h0 zAH h2⟩⟩
 |goto l=>exact hq.elim
 |ret=>exact⟨.ret,a1,w1,hq, .of_steps (.one h0 zAH) harr⟩
 |panic ch=>exact⟨.panic ch,a1,w1,hq, .of_steps (.one h0 zAH) harr⟩
 |outgrown=>exact⟨.outgrown,a1,w1,hq, .of_steps (.one h0 zAH) harr⟩
end
theorem wU (hmix:P.follows .mixedOrders=true):∀ (co:Code) (c:Ctx P) (Q:Exit→Frm→Heap→Prop) (ms:List Nat) (fr:Frm) (h:Heap) (a:Act) (w:World),qi P g n co=true→zhd c ro rb→StM c ms n fr h a w→vwp P g n ro co Q fr h→
  co.wpIn (Fr rb) 0 P (zbR c n Q) a w
 | .skip,c,Q,ms,fr,h,a,w,hok,hro,hs,hv=>wpIn_skip ⟨ms,fr,h,hs,hv⟩
 | .exit id,c,Q,ms,fr,h,a,w,hok,hro,hs,hv=>wpIn_exit ⟨ms,fr,h,hs,hv⟩
 | .ret,c,Q,ms,fr,h,a,w,hok,hro,hs,hv=>wpIn_ret ⟨ms,fr,h,hs,hv⟩
 | .seq x y,c,Q,ms,fr,h,a,w,hok,hro,hs,hv=>by
  simp only[qi,Bool.and_eq_true] at hok;simp only[vwp] at hv;refine wpIn_seq (wpIn_mono (wU hmix x c _ ms fr h a w hok.1 hro hs hv) fun e a' w' hq=> ?_);obtain⟨ms',fr',h',hs',hq⟩:=hq;cases e with
  |normal=>exact wU hmix y c Q ms' fr' h' a' w' hok.2 hro hs' hq
  |_=>exact⟨ms',fr',h',hs',hq⟩
 | .block id x,c,Q,ms,fr,h,a,w,hok,hro,hs,hv=>by
  simp only[qi] at hok;simp only[vwp] at hv;refine wpIn_block (wpIn_mono (wU hmix x c _ ms fr h a w hok hro hs hv) fun e a' w' hq=> ?_);obtain⟨ms',fr',h',hs',hq⟩:=hq;cases e with
  |exit i=>
   simp only[zEG] at hq;simp only[Exit.inBlock];split at hq
   ·rename_i hi;rw[if_pos hi];exact⟨ms',fr',h',hs',hq⟩
   ·rename_i hi;rw[if_neg hi];exact⟨ms',fr',h',hs',hq⟩
  |_=>exact⟨ms',fr',h',hs',hq⟩
 | .cond x y z,c,Q,ms,fr,h,a,w,hok,hro,hs,hv=>by
  simp only[qi,Bool.and_eq_true] at hok;simp only[vwp] at hv;obtain⟨M,ρ,h1,h2,h3,h4,h5,h6,h7⟩:=hs.1;have hx:=zED h5 hok.1.1;split at hv
  ·rename_i b hb;rw[hb] at hx;simp only[rel] at hx;refine wpIn_cond (t:=b) hx ?_;cases b with
   |true=>exact wU hmix y c Q ms fr h a w hok.1.2 hro hs hv
   |false=>exact wU hmix z c Q ms fr h a w hok.2 hro hs hv
  ·exact hv.elim
 | .region id ops draw,c,Q,ms,fr,h,a,w,hok,hro,hs,hv=>by
  simp only[qi,Bool.and_eq_true] at hok;simp only[vwp] at hv;obtain⟨hst,hm1,hm2⟩:=hs;have hK:∀fr h a w,St c ms n fr h a w→Q .normal fr h→zbR c n Q .normal a w:=fun fr h a w k1 k2=>⟨ms,fr,h,⟨k1,hm1,hm2⟩,k2⟩;cases draw with
  |false=>
   refine wpIn_region ?_;have:=zIk (ro:=rb) hok.1 hK ops.toList [] rfl fr h a w hst hv;simpa [List.range_eq_range'] using this
  |true=>
   have hd:zRA P g.mu ops (g.dr id)=true:=by simpa using hok.2
   unfold zRA at hd;simp only[Bool.and_eq_true,beq_iff_eq] at hd;obtain⟨⟨⟨⟨⟨d1,d2⟩,d5⟩,d3'⟩,d4⟩,d6⟩:=hd;have d3:=zPk d3';have hall:∀i,i<ops.size→i∈(g.dr id).map (·.1):=fun i hi=>by
    have:=List.all_eq_true.1 d1 i (List.mem_range.2 hi);simpa using this
   obtain⟨h0,hle0,hv⟩:=hv;obtain⟨hh,hbb,hst',hmo,hv⟩:∃hh,HLe h0 hh∧StU c (zXy h0.next (g.dr id)) ms n fr hh a { w with drawn:=w.drawn+1 } ∧zbP h0 ops (g.dr id)∧zAa P g.mu h0 (zUB P g.mu ops (g.dr id) (zF5 ops.toList 0 [])) ops ((g.dr id).any (·.2.isSt)) (g.dr id) (Q .normal) fr hh:=by
    have hst':St c ms n fr h a { w with drawn:=w.drawn+1 } :=by
     obtain⟨M,ρ,h1,h2,h3,h4⟩:=hst;exact⟨M,ρ,h1,h2,h3.drew,h4⟩
    cases hal:alN (g.dr id) with
    |zero=>
     rw[zEE hal] at hv;have hno:=zOE hal;refine⟨h,hle0,hst'.stu fun i hi=> ?_, .inl hno,hv⟩;obtain⟨x,hx,k,hk,_⟩:=hi;have:=hno x hx;rw[hk] at this;cases this
    |succ m=>
     rw[zQ6 hal] at hv;obtain⟨hnx,hv⟩:=hv;obtain⟨c1,c2⟩:=zRE hal d6;obtain⟨M,ρ,h1,h2,h3,h4,h5,h6,h7⟩:=hst';refine⟨h.bump (m+1),hle0,⟨M,ρ,h1,h2,h3.bump _,fun i hi=>h4 i ?_,h5,h6,h7,fun i hi=> ?_⟩, .inr ⟨c1,c2,fun k=> ?_⟩,hv⟩
     ·simp only[Heap.bump] at hi;omega
     ·obtain⟨x,hx,k,hk,rfl⟩:=hi;have:=zWS hx hk;refine⟨?_,h4 _ (by omega)⟩;simp only[Heap.bump];omega
     ·cases hz:h0.at' (h0.next+k) with
      |none=>rfl
      |some ob=>
       obtain⟨l,hl,_⟩:=h3.live _ _ (hle0 _ _ hz);rw[h4 _ (by omega)] at hl;cases hl
   have hnd:((g.dr id).map (·.1)).Nodup:=by simpa using d5
   refine wpIn_region_any hmix (zM2 (ro:=rb) (h0:=h0) hok.1 hK ops.size ((g.dr id).any (·.2.isSt)) (g.dr id) _ fr hh a _ (by omega) hnd (fun i hi=> ?_) (by simp) (fun k o hk hl=> ?_) d3 d4 (fun _=>hbb) (fun x hx hx2=>List.any_eq_true.2 ⟨x,hx,hx2⟩) (fun y hy hb x=>zRD hy hb x) (fun x hx hb z hz hst=>zUS hb hz hst) hmo hst' hv)
   ·simp[hi,hall i hi]
   ·have:=(Array.getElem?_eq_some_iff.1 hk).1;simp[this] at hl
 | .loop x,c,Q,ms,fr,h,a,w,hok,hro,hs,hv=>by
  simp only[qi] at hok;simp only[vwp] at hv;obtain⟨I,⟨k,hI⟩,hround⟩:=hv
  classical
  let J:Nat→Act→World→Prop:=fun k a w=>∃ms fr h,StM c ms n fr h a w∧I k fr h
  have hleast:∀a w,∃m,(∃k,J k a w)→J m a w∧∀k,J k a w→m≤k:=fun a w=>by
   by_cases hx:∃k,J k a w
   ·obtain⟨k,hk⟩:=hx;obtain⟨m,h1,h2⟩:=zfG (J:=fun k=>J k a w) k hk;exact⟨m,fun _=>⟨h1,h2⟩⟩
   ·exact⟨0,fun h=>absurd h hx⟩
  let μ:Act→World→Nat:=fun a w=>Classical.choose (hleast a w)
  have hμ:∀a w,(∃k,J k a w)→J (μ a w) a w∧∀k,J k a w→μ a w≤k:=fun a w=>Classical.choose_spec (hleast a w);refine wpIn_loop (fun a w=>∃k,J k a w) μ ⟨k,ms,fr,h,hs,hI⟩ fun a w hx=> ?_;obtain⟨⟨ms',fr',h',hs',hI'⟩,_⟩:=hμ a w hx;refine wpIn_mono (wU hmix x c _ ms' fr' h' a w hok hro hs' (hround _ _ _ hI')) fun e a' w' hq=> ?_;obtain⟨ms2,fr2,h2,hs2,hq⟩:=hq;cases e with
  |normal=>
   obtain⟨m,hlt,hI2⟩:=hq;have hx2:∃k,J k a' w':=⟨m,ms2,fr2,h2,hs2,hI2⟩;exact⟨hx2,Nat.lt_of_le_of_lt ((hμ a' w' hx2).2 m ⟨ms2,fr2,h2,hs2,hI2⟩) hlt⟩
  |_=>exact⟨ms2,fr2,h2,hs2,hq⟩
 | .rangeFunc f ps as body,c,Q,ms,fr,h,a,w,hok,hro,hs,hv=>by
  simp only[qi,Bool.and_eq_true] at hok;obtain⟨⟨⟨o1,o2⟩,o3⟩,o4⟩:=hok;simp only[vwp] at hv;obtain⟨hv1,hv2⟩:=hv;obtain⟨⟨M,ρ,h1,h2,h3,h4,h5,h6,h7⟩,hm1,hm2⟩:=hs;have rf:=zED h5 o1;generalize hD:zz fr f=D0 at hv2 rf;cases D0<;>simp only[VFn] at hv2;rename_i g0 first cap
  cases g0<;>simp only at hv2;rename_i g1;simp only[rel] at rf;obtain⟨_,va,vc,ef,rva,rvc⟩:=rf;refine wpIn_rangeFunc fun fn _=> ?_;obtain⟨ms1,L,u,henter,hsu,hnd,hng,l1,l2,l3,l4,l5,l6⟩:∃ (ms1:List Nat) (L:Go.Loop) (u:World),(Instr.enterLoop fn a.tmps ps as body rb).run P w= .ok (u.heap.size,ms1.map zLG) (u.alloc (.loop L))∧
    Sim c.w0 (ms1++ms++c.G) M ρ h u∧(ms1++ms).Nodup∧(∀b∈ms1++ms,b∉c.G)∧L.state= .ready∧L.pending=none∧L.tmps=a.tmps∧L.params=ps∧L.assign=as∧L.body=body:=by
   cases rb with
   |none=>
    refine⟨[w.heap.size],{ state:= .ready,pending:=none,fn:=fn,tmps:=a.tmps,params:=ps,assign:=as,body:=body,defers:=w.heap.size },w.alloc (.deferred (some [])),?_,h3.mark,?_,?_,rfl,rfl,rfl,rfl,rfl,rfl⟩
    ·simp[Instr.enterLoop,zLG]
    ·rw[List.singleton_append,List.nodup_cons];exact⟨fun hb=>Nat.lt_irrefl _ (h3.gdef_lt (List.mem_append_left _ hb)),hm1⟩
    ·intro b hb hg;rcases List.mem_cons.1 hb with rfl|hb
     ·exact Nat.lt_irrefl _ (h3.gdef_lt (List.mem_append_right _ hg))
     ·exact hm2 b hb hg
   |some b=>
    cases ro with
    |none=>exact hro.elim
    |some id=>
     obtain⟨l,hl1,hl2⟩:=hro;obtain⟨r,hr⟩:=hv1;obtain⟨l',g1,_,L0,g2,_⟩:=h3.live id _ hr;rw[h2 _ _ hl1] at g1;cases g1;rw[hl2] at g2;refine⟨[],{ state:= .ready,pending:=none,fn:=fn,tmps:=a.tmps,params:=ps,assign:=as,body:=body,defers:=L0.defers },w,?_,h3,hm1,hm2,rfl,rfl,rfl,rfl,rfl,rfl⟩;simp[Instr.enterLoop,zA8 g2]
  have hsL:=hsu.loop h4 L ⟨.ready,none,fr,ps,as,body,n⟩ l1 l2 l4 l5 l6 (by rw[l3];exact h7) (by rw[l3];exact h5);have hup:RLe ρ (zAE ρ h.next ⟨u.heap.size,0,0⟩):=yw (h4 _ (Nat.le_refl _));refine⟨u.heap.size,ms1.map zLG,u.alloc (.loop L),{ target:= .fn (.func g1) vc,args:=va++ #[.func (.yield u.heap.size) #[] #[]] },u.alloc (.loop L),g1,va++ #[.func (.yield u.heap.size) #[] #[]]++vc,u.alloc (.loop L),henter,?_,fun _ _=>trivial,?_,fun e=>(by cases e),?_⟩
  ·simp only[resolve,rangeCall,ef,Deferred.ofValue];simp[Act.eval]
  ·exact zFj hv2.1 _ _
  ·have hcall:=hv2.2 c.w0 (ms1++ms++c.G) M _ _ (va++ #[.func (.yield u.heap.size) #[] #[]]++vc) c.good hsL (zBn.upd h4) (by
    simp only[Array.toList_append];refine yt (yt (wD (MLe.refl _) hup _ _ rva) ?_) (wD (MLe.refl _) hup _ _ rvc);simp only[zy,rel];exact⟨_,[],rfl,⟨_,by simp[zAE];rfl,rfl⟩,rfl⟩)
   refine CallsIn.mono (F:=Fr rb) (n:=0-1) (callsIn_wide.2 hcall) fun e w3 he=> ?_;obtain⟨v,M',ρ',d',h',rfl,q1,q2,q3,q4,q5,r,r1,r2,r3⟩:=he;have hl:ρ' h.next=some ⟨u.heap.size,0,0⟩:=q2 _ _ (by simp[zAE]);obtain⟨L3,e1,e2,e3,_,_,_,_,_,hS⟩:=q3.setLoop r1 hl .exhausted r.pending;have hLeq:({ L3 with state:= .exhausted,pending:=r.pending } :Go.Loop)= { L3 with state:= .exhausted } :=by rw[←e3]
   rw[hLeq] at hS;have hS:=hS.del h.next;rw[zLL] at hS;have hbusy:(L3.state==LoopState.busy)=false:=by rw[e2];simpa using r2
   refine⟨r.pending,{ w3 with heap:=w3.heap.setIfInBounds u.heap.size (.loop { L3 with state:= .exhausted }) },?_,?_⟩
   ·simp only[Instr.endLoop,Sem.run_bind,zA8 e1,Result.andThen_ok,hbusy,Bool.false_eq_true,if_false,zDg e1,Sem.run_pure,e3]
   ·have hst:StM c (ms1++ms) n fr (h'.del h.next) { a with defers:=ms1.map zLG++a.defers } { w3 with heap:=w3.heap.setIfInBounds u.heap.size (.loop { L3 with state:= .exhausted }) } :=
     ⟨⟨M',ρ',h1.trans q1,(h2.trans hup).trans q2,hS,q4,zBo q1 (hup.trans q2) h5,by simp[h6],h7⟩,hnd,hng⟩
    cases hp:r.pending with
    |none=>rw[hp] at r3;exact⟨_,_,_,hst,r3⟩
    |some cc=>
     rw[hp] at r3;cases cc<;>simp only[zLK] at r3
     ·exact wpIn_exit ⟨_,_,_,hst,r3⟩
     ·exact wpIn_ret ⟨_,_,_,hst,r3⟩
 | .label _,c,Q,ms,fr,h,a,w,hok,hro,hs,hv=>wpIn_label ⟨ms,fr,h,hs,hv⟩
 | .goto _,_,_,_,_,_,_,_,hok,_,_,_=>by simp[qi] at hok
 | .scope x,c,Q,ms,fr,h,a,w,hok,hro,hs,hv=>by
  simp only[qi] at hok;simp only[vwp] at hv;refine zPo (wpIn_mono (wU hmix x c _ ms fr h a w hok hro hs hv) fun e a' w' hq=> ?_);obtain⟨ms',fr',h',hs',hq⟩:=hq;cases e with
  |goto l=>exact hq.elim
  |_=>exact⟨ms',fr',h',hs',hq⟩
 | .refuse ..,_,_,_,_,_,_,_,_,_,_,hv=>by simp[vwp] at hv
end
def zE3 (fr:Frm):List Tmp→List D→Frm
 |t::ts,d::ds=>zE3 (zAe fr (some t) d) ts ds
 |_,_=>fr
def zJw (Q:D→Heap→Prop) (id:Nat) (L:LRec) (e:Exit) (h:Heap):Prop:=
 match e with
 | .normal=>Q (.bool true) (h.set id (.loop { L with st:= .ready,pending:=none }))
 | .ret=>Q (.bool false) (h.set id (.loop { L with st:= .done,pending:=some .ret }))
 | .exit i=>Q (.bool false) (h.set id (.loop { L with st:= .done,pending:=some (.exit i) }))
 |_=>False
def zRF (P:Program) (fr:Frm) (h:Heap):ResultVar→Option D
 | .tmp t=>some (fr t)
 | .cell a t=>zBi P t (fr a) h
def zA9 (P:Program) (fr:Frm) (h:Heap):List ResultVar→Option (List D)
 | []=>some []
 |r::rs=>match zRF P fr h r with
  |none=>none
  |some d=>match zA9 P fr h rs with
   |none=>none
   |some ds=>some (d::ds)
def zE4 (ds:List D):D:=
 match ds with
 | [d]=>d
 |ds=> .tuple ds
def zJx (args:List D):Frm:=fun i=>match args[i]? with
 |some d=>d
 |none=>wA
def zWT (P : Program) (rs : List ResultVar) (Q : D → Heap → Prop) (e : Exit) (fr : Frm) (h : Heap) : Prop :=
  (match e with
   | .normal => True
   | .ret => True
   | _ => False) ∧
  match zA9 P fr h rs with
  | some ds => Q (zE4 ds) h
  | none => False
section
variable {P:Program} {g:Cfg} {c:Ctx P} {ms:List Nat} {n:Nat} {fr:Frm} {h:Heap} {a:Act} {w:World} {ro rb:Option Nat} {M:Imm} {ρ:Ren} {w0:Base} {G:List Nat}
def zIl (tmps:Array Value):ResultVar→Sem Value
 | .tmp t=>pure (tmps.getD t undef)
 | .cell a t=>do loadVar t (←asAddr (tmps.getD a undef))
theorem zUT (hs:Sim w0 G M ρ h w) {tmps:Array Value} (hf:zIb M ρ fr tmps) {r:ResultVar} {d:D} (hr:zRF P fr h r=some d):
  ∃v,(zIl tmps r).run P w= .ok v w∧rel M ρ d v:=by
 cases r with
 |tmp t=>cases hr;exact⟨_,rfl,hf t⟩
 |cell b t=>
  simp only[zRF] at hr;have hb:=hf b;unfold zBi at hr;split at hr
  ·cases hr
  ·rename_i ag hag;split at hr
   ·rename_i cs off hfr;rw[hfr] at hb;simp only[rel] at hb;obtain⟨b',p,e,hc⟩:=hb;obtain⟨v,h1,h2⟩:=(hs.holds hc).loadVar hag hr;exact⟨v,by simp[zIl,e,asAddr,h1],h2⟩
   ·rename_i id off hfr;rw[hfr] at hb;simp only[rel] at hb;obtain⟨l,hl,e⟩:=hb;split at hr
    ·rename_i cs hi;obtain⟨v,h1,h2⟩:=(hs.row hi hl).loadVar hag hr;rw[Nat.zero_add] at h1;exact⟨v,by simp[zIl,e,asAddr,h1],h2⟩
    ·rename_i u full cs hi;obtain⟨v,h1,h2⟩:=(hs.trow hi hl).loadVar hag hr;rw[Nat.zero_add] at h1;exact⟨v,by simp[zIl,e,asAddr,h1],h2⟩
    ·cases hr
   ·cases hr
theorem zOF (hs:Sim w0 G M ρ h w) {tmps:Array Value} (hf:zIb M ρ fr tmps):∀ {rs:List ResultVar} {ds:List D},zA9 P fr h rs=some ds→
  ∃vs,(rs.mapM (zIl tmps)).run P w= .ok vs w∧zy M ρ ds vs
 | [],ds,hr=>by cases hr;exact⟨[],rfl,rfl⟩
 |r::rs,ds,hr=>by
  simp only[zA9] at hr;split at hr
  ·cases hr
  ·rename_i d hd;split at hr
   ·cases hr
   ·rename_i ds' hds;cases hr;obtain⟨v,v1,v2⟩:=zUT (P:=P) hs hf hd;obtain⟨vs,s1,s2⟩:=zOF hs hf hds;refine⟨v::vs,?_,⟨v,vs,rfl,v2,s2⟩⟩;rw[List.mapM_cons];simp only[Sem.run_bind,v1,Result.andThen_ok,s1,Sem.run_pure]
theorem zM3 (hs:Sim w0 G M ρ h w) {tmps:Array Value} (hf:zIb M ρ fr tmps) {fn:Func} {ds:List D} (hr:zA9 P fr h fn.results.toList=some ds):
  ∃v,(results fn tmps).run P w= .ok v w∧rel M ρ (zE4 ds) v:=by
 obtain⟨vs,s1,s2⟩:=zOF (P:=P) hs hf hr;have hl:=zU s2;refine⟨if h:vs.toArray.size=1 then vs.toArray[0] else .tuple vs.toArray,?_,?_⟩
 ·unfold results;rw[Array.mapM_eq_mapM_toList];change (do
   let vs←Functor.map List.toArray (List.mapM (zIl tmps) fn.results.toList)
   pure (if h:vs.size=1 then vs[0] else .tuple vs):Sem Value).run P w=_
  simp only[Sem.run_bind,Sem.run_map,s1,Result.andThen_ok,Sem.run_pure]
 ·match ds,vs,hl,s2 with
  | [],[],_,_=>simp only[zE4,rel,zy];exact⟨#[],rfl,rfl⟩
  | [d],[v],_,s2=>
   simp only[zy] at s2;obtain⟨_,_,e,h1,_⟩:=s2;cases e;simpa [zE4] using h1
  |d::d'::ds,v::v'::vs,_,s2=>
   simp only[zE4,rel];exact⟨_,by simp;rfl,by simpa using s2⟩
theorem zIm {fn:Func} {tmps:Array Value} {R:Ending→World→Prop} {F:Fence} {k:Nat} :∀ (ms:List Nat) (w:World),Sim w0 (ms++G) M ρ h w→ms.Nodup→(∀b∈ms,b∉G)→
  (∀w',Sim w0 G M ρ h w'→∃v,(results fn tmps).run P w'= .ok v w'∧R (.returned v) w')→LeavesInM F k P fn tmps R (ms.map zLG) .returning w
 | [],w,hs,_,_,hR=>by
  simp only[List.map_nil,LeavesInM,LeavesIn];exact hR w hs
 |b::ms,w,hs,hnd,hng,hR=>by
  simp only[List.map_cons,LeavesInM];obtain⟨h1,h2⟩:=hs.gdef b (by simp);have hlt:=(Array.getElem?_eq_some_iff.1 h2).1;refine⟨by simp, .inl ⟨b,{ w with heap:=w.heap.setIfInBounds b (.deferred none) },rfl,?_,?_⟩⟩
  ·simp[Instr.takeDeferred,getObj,setObj,Sem.run,h2]
  ·refine zIm ms _ ?_ (List.nodup_cons.1 hnd).2 (fun x hx=>hng x (by simp[hx])) hR;have hk:∀b',b'≠b→(w.heap.setIfInBounds b (.deferred none))[b']? =w.heap[b']? :=fun b' hb=>by
    rw[Array.getElem?_setIfInBounds];rw[if_neg (fun e=>hb e.symm)]
   refine { below:=⟨hs.below.os,hs.below.tape,hs.below.output,by simpa using hs.below.size,fun q hq=> ?_,hs.below.drawn⟩,imm:=fun b' o v e=> ?_,live:=fun i ob e=> ?_,apart:=hs.apart,gdef:=fun b' hb=> ?_,old:=hs.old }
   ·rw[hk q (fun e=>h1 (e▸hq))];exact hs.below.block q hq
   ·have:=hs.imm b' o v e;have hne:b'≠b:=by
     intro e';subst e';simp[World.cell?,h2] at this
    rw[←this];exact World.cell?_of_block (w:=w) (hk b' hne)
   ·obtain⟨l,g1,g2,g3⟩:=hs.live i ob e;refine⟨l,g1,g2,qh (hk _ fun e'=> ?_) g3⟩;rw[←e'] at h2;cases ob with
    |row _=>obtain⟨_,_,_,g,_⟩:=g3;rw[h2] at g;cases g
    |tok=>obtain⟨_,_,_,_,g,_⟩:=g3;rw[h2] at g;cases g
    |map _=>obtain⟨_,_,g,_⟩:=g3;rw[h2] at g;cases g
    |loop _=>obtain⟨_,g,_⟩:=g3;rw[h2] at g;cases g
    |siter _ _=>obtain⟨_,g,_⟩:=g3;rw[h2] at g;cases g
    |trow _ _ _=>obtain⟨_,_,_,g,_⟩:=g3;rw[h2] at g;cases g
   ·have hne:b'≠b:=by
     intro e';subst e';rcases List.mem_append.1 hb with hb|hb
     ·exact(List.nodup_cons.1 hnd).1 hb
     ·exact hng b' (by simp) hb
    obtain⟨g1,g2⟩:=hs.gdef b' (by simp only[List.cons_append,List.mem_cons];exact .inr hb);exact⟨g1,by rw[←g2];exact hk b' hne⟩
theorem zPp {args:List D} {va:Array Value} (hr:zy M ρ args va.toList) (k:Nat):zIb M ρ (zJx args) (va++Array.replicate k undef):=by
 intro i;have hl:=zU hr;rw[Array.length_toList] at hl;unfold zJx;cases hi:args[i]? with
 |some d=>
  obtain⟨v,h1,h2⟩:=yq hr i d hi;have hlt:i<va.size:=by have:=(List.getElem?_eq_some_iff.1 hi).1;omega
  have:(va++Array.replicate k undef).getD i undef=v:=by
   rw[Array.getD_eq_getD_getElem?,Array.getElem?_append_left hlt,←Array.getElem?_toList,h1];rfl
  rw[this];exact h2
 |none=>
  have hge:va.size≤i:=by have:=List.getElem?_eq_none_iff.1 hi;omega
  have:(va++Array.replicate k undef).getD i undef=undef:=by
   rw[Array.getD_eq_getD_getElem?,Array.getElem?_append_right hge];by_cases hk:i-va.size<k
   ·simp[hk]
   ·simp[hk]
  rw[this];exact zCc
theorem zA.of_body (hmix:P.follows .mixedOrders=true) {f:FuncId} {fn:Func} {co:Code} {args:List D} {Q:D→Heap→Prop} (hf:P.funcs[f]? =some fn) (hb:fn.body=some co) (hn:(fn.name== "runtime.NumGoroutine")=false) (hok:qi P g fn.ntmps co=true)
  (hl:args.length≤fn.ntmps) (hv:vwp P g fn.ntmps none co (zWT P fn.results.toList Q) (zJx args) h):zA P f args h Q:=by
 refine⟨by simp[qV,hf,hb,bne,hn],fun w0 G M ρ w va hg0 hs hfr hr=> ?_⟩;have hsz:=zU hr;rw[Array.length_toList] at hsz;refine callsIn_wide.1 (callsIn_of_wp_marks (F:=Fence.wide) (n:=0) hf hb trivial ?_);have hst:StM ⟨w0,G,M,ρ,hg0⟩ [] fn.ntmps (zJx args) h { tmps:=va++Array.replicate (fn.ntmps-va.size) undef,defers:=[] } w:=
  ⟨⟨M,ρ,MLe.refl _,RLe.refl _,hs,hfr,zPp hr _,rfl,by simp;omega⟩,List.nodup_nil,fun b hb=>by cases hb⟩
 refine wpIn_mono (wU (ro:=none) (rb:=none) hmix co ⟨w0,G,M,ρ,hg0⟩ _ [] _ _ _ _ hok trivial hst hv) fun e a' w' hq=> ?_;obtain⟨ms,fr',h',⟨⟨M',ρ',k1,k2,k3,k4,k5,k6,k7⟩,k8,k9⟩,hq⟩:=hq;have fin:∀ds,zA9 P fr' h' fn.results.toList=some ds→Q (zE4 ds) h'→LeavesInM Fence.wide 0 P fn a'.tmps (Ret w0 G M ρ Q) a'.defers .returning w':=fun ds hds hQ=>by
  rw[k6];refine zIm ms w' k3 k8 k9 fun w2 hs2=> ?_;obtain⟨v,r1,r2⟩:=zM3 (P:=P) hs2 k5 hds;exact⟨v,r1,v,M',ρ',_,h',rfl,k1,k2,hs2,k4,r2,hQ⟩
 unfold zWT at hq;obtain⟨he,hq⟩:=hq;split at hq
 ·rename_i ds hds;cases e with
  |normal=>exact fin ds hds hq
  |ret=>exact fin ds hds hq
  |_=>exact he.elim
 ·exact hq.elim
theorem Sim.fewer {G':List Nat} (hs:Sim w0 G M ρ h w) (hg:∀x∈G',x∈G):Sim w0 G' M ρ h w:=
 { below:=hs.below,imm:=hs.imm,live:=hs.live,apart:=hs.apart,gdef:=fun b hb=>hs.gdef b (hg b hb),old:=hs.old }
theorem zIn:∀ (ts:List Tmp) (ds:List D) (vs:List Value) (fr:Frm) (tmps:Array Value),zIb M ρ fr tmps→zy M ρ ds vs→(∀t∈ts,t<tmps.size)→ts.length=ds.length→
  zIb M ρ (zE3 fr ts ds) ((ts.zip vs).foldl (fun tmps p=>tmps.setIfInBounds p.1 p.2) tmps)∧((ts.zip vs).foldl (fun tmps p=>tmps.setIfInBounds p.1 p.2) tmps).size=tmps.size
 | [],[],vs,fr,tmps,hf,hr,ht,hl=>by
  simp only[zy] at hr;subst hr;exact⟨hf,rfl⟩
 |t::ts,d::ds,vs,fr,tmps,hf,hr,ht,hl=>by
  simp only[zy] at hr;obtain⟨v,vs',rfl,h1,h2⟩:=hr;simp only[List.zip_cons_cons,List.foldl_cons,zE3];have:=zIn ts ds vs' (zAe fr (some t) d) (tmps.setIfInBounds t v) (zGS hf h1 (ht t (by simp))) h2 (fun u hu=>by simpa using ht u (by simp[hu])) (by simpa using hl);exact⟨this.1,by rw[this.2];simp⟩
 | [],_::_,_,_,_,_,_,_,hl=>by simp at hl
 |_::_,[],_,_,_,_,_,_,hl=>by simp at hl
theorem qp.of_round (hmix:P.follows .mixedOrders=true) {id:Nat} {args:List D} {Q:D→Heap→Prop} {L:LRec} (hL:h.at' id=some (.loop L)) (hlen:args.length=L.params.size) (hps:L.params.toList.all (fun t=>decide (t<L.n))=true)
  (ok1:qi P g L.n L.assign=true) (ok2:qi P g L.n L.body=true)
  (hv:vwp P g L.n (some id) L.assign (fun e fr1 h1=>match e with
   | .normal=>∃L1,h1.at' id=some (.loop L1)∧L1.st= .ready∧vwp P g L.n (some id) L.body (fun e _ h2=>∃L2,h2.at' id=some (.loop L2)∧zJw Q id L2 e h2) fr1 (h1.set id (.loop { L1 with st:= .busy }))
   |_=>False) (zE3 L.fr L.params.toList args) h):qp P id args h Q:=by
 intro w0 G M ρ w va l hg0 hs hfr hr hl;obtain⟨l',h1,hbase,Lc,g1,g2,g3,g4,g5,g6,g7,g8⟩:=hs.live id _ hL;rw[hl] at h1;cases h1;have hsz:=zU hr;rw[Array.length_toList] at hsz;have hps':∀t∈L.params.toList,t<Lc.tmps.size:=fun t ht=>by
  have:=List.all_eq_true.1 hps t ht;rw[g7];simpa using this
 obtain⟨p1,p2⟩:=zIn L.params.toList args va.toList L.fr Lc.tmps g8 hr hps' (by rw[Array.length_toList];exact hlen.symm);have hzip:((L.params.zip va).foldl (fun tmps x=>match x with|(t,a)=>tmps.setIfInBounds t a) Lc.tmps)=(L.params.toList.zip va.toList).foldl (fun tmps p=>tmps.setIfInBounds p.1 p.2) Lc.tmps:=by
  rw[←Array.foldl_toList,Array.toList_zip]
 refine⟨Lc.fn,(L.params.toList.zip va.toList).foldl (fun tmps p=>tmps.setIfInBounds p.1 p.2) Lc.tmps,L.assign,L.body,?_,?_⟩
 ·unfold Instr.yield;simp only[Sem.run_bind,zA8 g1,Result.andThen_ok,g4,g5,g6];rw[if_neg (by omega)];simp only[Sem.run_pure];rw[←hzip]
 ·refine roundIn_of_wpIn trivial ?_;have hst:StM ⟨w0,G,M,ρ,hg0⟩ [] L.n (zE3 L.fr L.params.toList args) h { tmps:=(L.params.toList.zip va.toList).foldl (fun tmps p=>tmps.setIfInBounds p.1 p.2) Lc.tmps,defers:=[] } w:=
   ⟨⟨M,ρ,MLe.refl _,RLe.refl _,hs,hfr,p1,rfl,by rw[p2,g7]⟩,List.nodup_nil,fun b hb=>by cases hb⟩
  have hro:zhd ⟨w0,G,M,ρ,hg0⟩ (some id) (some l.blk):=⟨l,hl,rfl⟩;refine wpIn_mono (wU (rb:=some l.blk) hmix L.assign ⟨w0,G,M,ρ,hg0⟩ _ [] _ _ _ _ ok1 hro hst hv) fun e a1 w1 hq=> ?_;obtain⟨ms1,fr1,h1,hst1,hq⟩:=hq;cases e with
  |normal=>
   obtain⟨L1,j1,j2,j3⟩:=hq;obtain⟨⟨M1,ρ1,k1,k2,k3,k4,k5,k6,k7⟩,k8,k9⟩:=hst1;have hl1:ρ1 id=some l:=k2 _ _ hl;obtain⟨Lx,e1,e2,e3,_,_,_,_,_,hS⟩:=k3.setLoop j1 hl1 .busy L1.pending;have hLeq:({ Lx with state:= .busy,pending:=L1.pending } :Go.Loop)= { Lx with state:= .busy } :=by rw[←e3]
   rw[hLeq] at hS;refine⟨{ w1 with heap:=w1.heap.setIfInBounds l.blk (.loop { Lx with state:= .busy }) },?_,?_⟩
   ·simp only[Instr.beginRound,Sem.run_bind,zA8 e1,Result.andThen_ok,zDg e1,e2,j2,Sem.run_pure]
   ·have hst2:StM ⟨w0,G,M,ρ,hg0⟩ ms1 L.n fr1 (h1.set id (.loop { L1 with st:= .busy })) a1 { w1 with heap:=w1.heap.setIfInBounds l.blk (.loop { Lx with state:= .busy }) } :=
     ⟨⟨M1,ρ1,k1,k2,hS,k4,k5,k6,k7⟩,k8,k9⟩
    refine wpIn_mono (wU (rb:=some l.blk) hmix L.body ⟨w0,G,M,ρ,hg0⟩ _ ms1 _ _ _ _ ok2 hro hst2 j3) fun e2 a2 w2 hq2=> ?_;obtain⟨ms2,fr2,h2,⟨⟨M2,ρ2,q1,q2,q3,q4,q5,q6,q7⟩,q8,q9⟩,L2,t1,t2⟩:=hq2;have hl2:ρ2 id=some l:=q2 _ _ hl;have hend:∀ (jump:Option Code) (b:Bool) (st:LoopState),(jump.isNone=b)→st=(if jump.isNone then .ready else .done)→Q (.bool b) (h2.set id (.loop { L2 with st:=st,pending:=jump }))→
      ∃v w',(Instr.endRound l.blk jump).run P w2= .ok v w'∧Ret w0 G M ρ Q (.returned v) w':=fun jump b st hb hst' hQ=>by
     obtain⟨Ly,y1,_,_,_,_,_,_,_,hS2⟩:=q3.setLoop t1 hl2 st jump;refine⟨.bool b,{ w2 with heap:=w2.heap.setIfInBounds l.blk (.loop { Ly with state:=st,pending:=jump }) },?_, .bool b,M2,ρ2, .bool b,_,rfl,q1,q2,hS2.fewer (fun x hx=>List.mem_append_right _ hx),q4,ym b,hQ⟩;simp only[Instr.endRound,Sem.run_bind,zA8 y1,Result.andThen_ok,zDg y1,Sem.run_pure,hb,hst']
    cases e2 with
    |normal=>exact hend none true .ready rfl rfl t2
    |ret=>exact hend (some .ret) false .done rfl rfl t2
    |exit i=>exact hend (some (.exit i)) false .done rfl rfl t2
    |_=>exact t2.elim
  |_=>exact hq.elim
end
mutual
def below (k:Nat):D→Prop
 | .bool _=>True
 | .int _ _=>True
 | .str _=>True
 | .nilptr=>True
 | .ptr id _=>id<k
 | .iptr cs _=>yB k cs
 | .nilsl=>True
 | .sl _ xs tk=>zBp k xs∧(match tk with| .own t=>t<k|_=>True)
 | .rs id _ _ _=>id<k
 | .nilmap=>True
 | .map id=>id<k
 | .fn _ a c=>yB k a∧yB k c
 | .yld id=>id<k
 | .nilfn=>True
 | .agg cs=>yB k cs
 | .tuple cs=>yB k cs
 | .iface _ d=>below k d
 | .niliface=>True
def yB (k:Nat):List D→Prop
 | []=>True
 |d::ds=>below k d∧yB k ds
def zBp (k:Nat):List (List D)→Prop
 | []=>True
 |x::xs=>yB k x∧zBp k xs
end
def zUD (k:Nat) (ρ:Ren):Ren:=fun i=>if i<k then ρ i else none
theorem zAI {k i:Nat} {ρ:Ren} (h:i<k):zUD k ρ i=ρ i:=if_pos h
section
variable {M:Imm} {ρ:Ren} {k:Nat}
mutual
theorem wZ (k:Nat) (M:Imm) (ρ:Ren):∀ (d:D) (v:Value),below k d→rel M ρ d v→rel M (zUD k ρ) d v
 | .bool _,_,_,h=>by simpa [rel] using h
 | .int _ _,_,_,h=>by simpa [rel] using h
 | .str _,_,_,h=>by simpa [rel] using h
 | .nilptr,_,_,h=>by simpa [rel] using h
 | .ptr id off,_,b,h=>by simp only[below] at b;simpa only[rel,zAI b] using h
 | .iptr cs off,_,b,h=>by
  simp only[rel,below] at h b⊢;obtain⟨x,p,h1,h2⟩:=h;exact⟨x,p,h1,zG8 k M ρ cs x p b h2⟩
 | .nilsl,_,_,h=>by simpa [rel] using h
 | .sl sz xs tk,_,b,h=>by
  simp only[rel,below] at h b⊢;obtain⟨h0,hl,x,p,cap,h1,h2,h3,h4⟩:=h;refine⟨h0,hl,x,p,cap,h1,h2,zLM k M ρ sz xs x p b.1 h3,?_⟩;cases tk with
  |no=>trivial
  |full=>exact h4
  |own t=>
   obtain⟨l,g1,g2⟩:=h4;exact⟨l,by rw[zAI b.2];exact g1,g2⟩
 | .rs id _ _ _,_,b,h=>by simp only[below] at b;simpa only[rel,zAI b] using h
 | .nilmap,_,_,h=>by simpa [rel] using h
 | .map id,_,b,h=>by simp only[below] at b;simpa only[rel,zAI b] using h
 | .fn f a c,_,b,h=>by
  simp only[rel,below] at h b⊢;obtain⟨h0,va,vc,h1,h2,h3⟩:=h;exact⟨h0,va,vc,h1,zBA k M ρ a _ b.1 h2,zBA k M ρ c _ b.2 h3⟩
 | .yld id,_,b,h=>by simp only[below] at b;simpa only[rel,zAI b] using h
 | .nilfn,_,_,h=>by simpa [rel] using h
 | .agg cs,_,b,h=>by
  simp only[rel,below] at h b⊢;obtain⟨vs,h1,h2,h3⟩:=h;exact⟨vs,h1,zBA k M ρ cs _ b h2,h3⟩
 | .tuple cs,_,b,h=>by
  simp only[rel,below] at h b⊢;obtain⟨vs,h1,h2⟩:=h;exact⟨vs,h1,zBA k M ρ cs _ b h2⟩
 | .iface t d,_,b,h=>by
  simp only[rel,below] at h b⊢;obtain⟨u,h1,h2⟩:=h;exact⟨u,h1,wZ k M ρ d u b h2⟩
 | .niliface,_,_,h=>by simpa [rel] using h
theorem zBA (k:Nat) (M:Imm) (ρ:Ren):∀ (ds:List D) (vs:List Value),yB k ds→zy M ρ ds vs→zy M (zUD k ρ) ds vs
 | [],_,_,h=>by simpa [zy] using h
 |d::ds,_,b,h=>by
  simp only[zy,yB] at h b⊢;obtain⟨v,vs',h1,h2,h3⟩:=h;exact⟨v,vs',h1,wZ k M ρ d v b.1 h2,zBA k M ρ ds vs' b.2 h3⟩
theorem zG8 (k:Nat) (M:Imm) (ρ:Ren):∀ (ds:List D) (b p:Nat),yB k ds→zBP M ρ ds b p→zBP M (zUD k ρ) ds b p
 | [],_,_,_,_=>by simp[zBP]
 |d::ds,b,p,hb,h=>by
  simp only[zBP,yB] at h hb⊢;obtain⟨⟨h0,v,h1,h2⟩,h3⟩:=h;exact⟨⟨h0,v,h1,wZ k M ρ d v hb.1 h2⟩,zG8 k M ρ ds b (p+1) hb.2 h3⟩
theorem zLM (k:Nat) (M:Imm) (ρ:Ren):∀ (sz:Nat) (xs:List (List D)) (b p:Nat),zBp k xs→zB2 M ρ sz xs b p→zB2 M (zUD k ρ) sz xs b p
 |_,[],_,_,_,_=>by simp[zB2]
 |sz,x::xs,b,p,hb,h=>by
  simp only[zB2,zBp] at h hb⊢;exact⟨h.1,zG8 k M ρ x b p hb.1 h.2.1,zLM k M ρ sz xs b (p+sz) hb.2 h.2.2⟩
end
theorem zBn.lt (hf:zBn ρ k) {i:Nat} {l:Loc} (h:ρ i=some l):i<k:=by
 by_cases hlt:i<k
 ·exact hlt
 ·rw[hf i (by omega)] at h;cases h
mutual
theorem zAb (hf:zBn ρ k):∀ (d:D) (v:Value),rel M ρ d v→below k d
 | .bool _,_,_=>trivial
 | .int _ _,_,_=>trivial
 | .str _,_,_=>trivial
 | .nilptr,_,_=>trivial
 | .ptr id off,_,h=>by simp only[rel] at h;obtain⟨l,h1,_⟩:=h;exact hf.lt h1
 | .iptr cs off,_,h=>by
  simp only[rel,below] at h⊢;obtain⟨x,p,h1,h2⟩:=h;exact zE5 hf cs x p h2
 | .nilsl,_,_=>trivial
 | .sl sz xs tk,_,h=>by
  simp only[rel,below] at h⊢;obtain⟨h0,hl,x,p,cap,h1,h2,h3,h4⟩:=h;refine⟨zIo hf sz xs x p h3,?_⟩;cases tk with
  |no=>trivial
  |full=>trivial
  |own t=>
   obtain⟨l,g1,g2⟩:=h4;exact hf.lt g1
 | .rs id _ _ _,_,h=>by simp only[rel] at h;obtain⟨_,_,l,_,_,h1,_⟩:=h;exact hf.lt h1
 | .nilmap,_,_=>trivial
 | .map id,_,h=>by simp only[rel] at h;obtain⟨l,h1,_⟩:=h;exact hf.lt h1
 | .fn f a c,_,h=>by
  simp only[rel,below] at h⊢;obtain⟨h0,va,vc,h1,h2,h3⟩:=h;exact⟨zAJ hf a _ h2,zAJ hf c _ h3⟩
 | .yld id,_,h=>by simp only[rel] at h;obtain⟨l,h1,_⟩:=h;exact hf.lt h1
 | .nilfn,_,_=>trivial
 | .agg cs,_,h=>by
  simp only[rel,below] at h⊢;obtain⟨vs,h1,h2,h3⟩:=h;exact zAJ hf cs _ h2
 | .tuple cs,_,h=>by
  simp only[rel,below] at h⊢;obtain⟨vs,h1,h2⟩:=h;exact zAJ hf cs _ h2
 | .iface t d,_,h=>by
  simp only[rel,below] at h⊢;obtain⟨u,h1,h2⟩:=h;exact zAb hf d u h2
 | .niliface,_,_=>trivial
theorem zAJ (hf:zBn ρ k):∀ (ds:List D) (vs:List Value),zy M ρ ds vs→yB k ds
 | [],_,_=>trivial
 |d::ds,_,h=>by
  simp only[zy,yB] at h⊢;obtain⟨v,vs',h1,h2,h3⟩:=h;exact⟨zAb hf d v h2,zAJ hf ds vs' h3⟩
theorem zE5 (hf:zBn ρ k):∀ (ds:List D) (b p:Nat),zBP M ρ ds b p→yB k ds
 | [],_,_,_=>trivial
 |d::ds,b,p,h=>by
  simp only[zBP,yB] at h⊢;obtain⟨⟨h0,v,h1,h2⟩,h3⟩:=h;exact⟨zAb hf d v h2,zE5 hf ds b (p+1) h3⟩
theorem zIo (hf:zBn ρ k):∀ (sz:Nat) (xs:List (List D)) (b p:Nat),zB2 M ρ sz xs b p→zBp k xs
 |_,[],_,_,_=>trivial
 |sz,x::xs,b,p,h=>by
  simp only[zB2,zBp] at h⊢;exact⟨zE5 hf x b p h.2.1,zIo hf sz xs b (p+sz) h.2.2⟩
end
theorem zIp {ρ0:Ren} {M0:Imm} (hf:zBn ρ0 k):∀ (ds:List (D×D)) (es es0:List MapEntry),qU M0 ρ0 ds es0→qU M ρ ds es→qU M (zUD k ρ) ds es
 | [],_,_,_,h=>by simpa [qU] using h
 |(x,d)::ds,_,_,h0,h=>by
  simp only[qU] at h h0⊢;obtain⟨e,es',h1,h2,h3,h4⟩:=h;obtain⟨e0,es0',_,g2,g3,g4⟩:=h0;exact⟨e,es',h1,wZ k M ρ _ _ (zAb hf _ _ g2) h2,wZ k M ρ _ _ (zAb hf _ _ g3) h3,zIp hf ds es' es0' g4 h4⟩
theorem zM4 {ρ0:Ren} {M0:Imm} {w w0:World} {l l0:Loc} (hf:zBn ρ0 k):∀ (ob:Obj),qJ M0 ρ0 w0 l0 ob→qJ M ρ w l ob→qJ M (zUD k ρ) w l ob
 | .row cs,h0,h=>by
  obtain⟨a,c,e,h1,h2,h3,h4⟩:=h;obtain⟨_,c0,_,_,_,_,g4⟩:=h0;refine⟨a,c,e,h1,h2,h3,fun i d hi=> ?_⟩;obtain⟨h5,v,x,y⟩:=h4 i d hi;obtain⟨_,_,_,y0⟩:=g4 i d hi;exact⟨h5,v,x,wZ k M ρ _ _ (zAb hf _ _ y0) y⟩
 | .tok,_,h=>h
 | .map es,h0,h=>by
  obtain⟨en,cl,h1,h2⟩:=h;obtain⟨en0,_,_,g2⟩:=h0;exact⟨en,cl,h1,zIp hf _ _ _ g2 h2⟩
 | .loop r,h0,h=>by
  obtain⟨L,h1,h2,h3,h4,h5,h6,h7,h8⟩:=h;obtain⟨L0,_,_,_,_,_,_,_,g8⟩:=h0;exact⟨L,h1,h2,h3,h4,h5,h6,h7,fun i=>wZ k M ρ _ _ (zAb hf _ _ (g8 i)) (h8 i)⟩
 | .siter _ _,_,h=>h
 | .trow t full cs,h0,h=>by
  obtain⟨a,c,e,h1,h2,h3,h4,g⟩:=h;obtain⟨_,c0,_,_,_,_,g4,_⟩:=h0;refine⟨a,c,e,h1,h2,h3,fun i d hi=> ?_,g⟩;obtain⟨h5,v,x,y⟩:=h4 i d hi;obtain⟨_,_,_,y0⟩:=g4 i d hi;exact⟨h5,v,x,wZ k M ρ _ _ (zAb hf _ _ y0) y⟩
end
theorem zA.gc {P:Program} {f:FuncId} {args:List D} {h:Heap} {Q:D→Prop} (hv:yB h.next args→zA P f args h fun d h'=>HLe h h'∧below h.next d∧Q d) (he:qV P f=true):
  zA P f args h fun d h'=>h'=h∧Q d:=by
 refine⟨he,fun w0 G M ρ w va hg0 hs hfr hr=> ?_⟩;refine((hv (zAJ hfr _ _ hr)).2 w0 G M ρ w va hg0 hs hfr hr).mono fun e w' hq=> ?_;obtain⟨v,M',ρ',d,h',rfl,k1,k2,k3,k4,k5,k6,k7,k8⟩:=hq;have hle:RLe ρ (zUD h.next ρ'):=fun i l hi=>by rw[zAI (hfr.lt hi)];exact k2 i l hi
 refine⟨v,M',zUD h.next ρ',d,h,rfl,k1,hle,?_,fun i hi=>if_neg (by omega),wZ _ _ _ _ _ k7 k5,rfl,k8⟩;refine { below:=k3.below,imm:=k3.imm,live:=fun i ob hi=> ?_,apart:=fun i j oi oj li lj hi hj ri rj e=> ?_,gdef:=k3.gdef,old:=k3.old }
 ·obtain⟨l0,g1,g2,g3⟩:=hs.live i ob hi;obtain⟨l,j1,j2,j3⟩:=k3.live i ob (k6 i ob hi);exact⟨l,by rw[zAI (hfr.lt g1)];exact j1,j2,zM4 hfr ob g3 j3⟩
 ·obtain⟨l0,g1,_⟩:=hs.live i oi hi;obtain⟨l1,g1',_⟩:=hs.live j oj hj;rw[zAI (hfr.lt g1)] at ri;rw[zAI (hfr.lt g1')] at rj;exact k3.apart i j oi oj li lj (k6 _ _ hi) (k6 _ _ hj) ri rj e
end Go.V
