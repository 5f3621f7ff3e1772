/- A machine of abstract values for programs of the model, and its soundness, part 2. No condition. -/
import Derived.Test.YthcjhnmnhfgdiaaGreatDoorW01
import Derived.Laws.BytesString
import Derived.Lib.UnsafeStr
import Derived.Lib.LaidTab
import Derived.Lib.ItoaNum
import Derived.Scope
set_option linter.all false
set_option maxHeartbeats 8000000
namespace Go.V
open List hiding max min map and or get le lt range extract
open Nat(zero_le le_refl le_trans lt_irrefl le_of_lt lt_of_lt_of_le lt_of_le_of_lt lt_succ_iff_lt_or_eq le_of_lt_succ)
open Go.RowKit (Below)
section
variable {P:Program} {w0:Base} {G:List Nat} {M:Imm} {ρ:Ren} {h:Heap} {w:World} {nid:Nat}
variable {n:Nat}
def kV (a:n<=lim):fits .i64 (n:Int):=by
 rw[uK];unfold lim at a;simp[IntKind.min,IntKind.max,IntKind.signed,IntKind.bits];omega
variable {x d:D}{vx:Value}
def GQ (i:Sim w0 G M ρ h w) {t ty:TypeId} (c:rel M ρ x vx) (a:tU P t x h=some d):YV P w0 G M ρ nid w (Builtin.len_ #[t] ty #[vx]) d h:=by
 unfold tU at a;split at a
 ·split at a
  ·rename_i f;cases a;simp only[rel] at c;obtain⟨b,rfl,rfl,g⟩:=c;refine .pure i (v:= .int .i64 b.size) (by simp[Builtin.len_,run_underlying f,goInt]) ?_;rw[show(b.size:Int)=(b.data.toList.length:Int) by rw[Array.length_toList];rfl];exact yj (kV g)
  ·cases a
 ·split at a
  ·rename_i e f;cases a;simp only[rel] at c;obtain⟨_,g,b,p,cap,⟨k,rfl,j⟩,_⟩:=c;exact .pure i (by simp[Builtin.len_,run_underlying f];rfl) (yj (kV g))
  ·cases a
 ·split at a
  ·rename_i e f;cases a;simp only[rel] at c;obtain⟨_,g,l,cap,o,_,rfl,_⟩:=c;exact .pure i (by simp[Builtin.len_,run_underlying f];rfl) (yj (kV g))
  ·cases a
 ·split at a
  ·rename_i e f;cases a;simp only[rel] at c;subst c;exact .pure i (by simp[Builtin.len_,run_underlying f];rfl) (yj (kV (by simp)))
  ·cases a
 ·split at a
  ·rename_i e f;cases a;simp only[rel] at c;subst c;exact .pure i (by simp[Builtin.len_,run_underlying f];rfl) (yj (kV (n:=0) (by simp)))
  ·cases a
 ·cases a
variable {y:D}{vy:Value}
def GR (i:Sim w0 G M ρ h w) {t ty:TypeId} (ats) (e:rel M ρ x vx) (f:rel M ρ y vy) (c:R8 x y=some d):YV P w0 G M ρ nid w (Builtin.min_ ats ty #[vx,vy]) d h:=by
 unfold R8 at c;split at c
 ·rename_i k a k' b;split at c
  ·rename_i g;subst g;cases c;simp only[rel] at e f;obtain⟨rfl,j⟩:=e;obtain⟨rfl,l⟩:=f;refine .pure i (v:= .int k (if b<a then b else a)) (by simp[Builtin.min_,Builtin.min2]) (yj ?_)
   split<;>assumption
  ·cases c
 ·cases c
def KF (e:rel M ρ x vx) (f:rel M ρ y vy) (c:L9 x y=some d):∃v,(Builtin.max2 vx vy).run P w= .ok v w/\rel M ρ d v:=by
 unfold L9 at c;split at c
 ·rename_i k a k' b;split at c
  ·rename_i g;subst g;cases c;simp only[rel] at e f;obtain⟨rfl,h⟩:=e;obtain⟨rfl,i⟩:=f;refine⟨.int k (if b>a then b else a),by simp[Builtin.max2],yj ?_⟩
   split<;>assumption
  ·cases c
 ·cases c
theorem Vh:∀ {ys:List D} {vs:List Value} {x d:D} {c:Value},rel M ρ x c->yD M ρ ys vs->X4 x ys=some d->∃v,(vs.foldlM Builtin.max2 c).run P w= .ok v w/\rel M ρ d v
 | [],vs,x,d,c,e,b,a=>by
  simp only[yD] at b;subst b;simp only[X4,Option.some.injEq] at a;subst a;exact⟨c,by simp,e⟩
 |y::ys,vs,x,d,c,e,b,a=>by
  simp only[yD] at b;obtain⟨v,m,rfl,h1,j⟩:=b;simp only[X4] at a;split at a
  ·rename_i z k;obtain⟨u,f,g⟩:=KF (P:=P) (w:=w) e h1 k;obtain⟨l,h,i⟩:=Vh g j a;exact⟨l,by simp only[foldlM_cons,Sem.run_bind,f,Result.andThen_ok,h],i⟩
  ·cases a
variable {vs:List Value}
def KG (b:Sim w0 G M ρ h w) {ty:TypeId} {ys:List D} (ats) (e:rel M ρ x vx) (f:yD M ρ ys vs) (c:X4 x ys=some d):YV P w0 G M ρ nid w (Builtin.max_ ats ty (vx::vs).toArray) d h:=by
 obtain⟨v,h1,a⟩:=Vh (P:=P) (w:=w) e f c;exact .pure b (by simpa [Builtin.max_] using h1) a
variable {w':World}
def Sim.immLater (d:Sim w0 G M ρ h w) (q:Bel w.heap.size w w') {b:Nat} (f:w.heap.size<=b) {c:Array Value} {e:TypeId} {p:Nat×Nat} (r:w'.heap[b]? =some (.cells c e p)) (n:Nat):
  MLe M (rM M b 0 (c.toList.take n))/\Sim w0 G (rM M b 0 (c.toList.take n)) ρ h w':=by
 have s:∀o,M b o=none:=d.none_at f;have g:MLe M (rM M b 0 (c.toList.take n)):=rq λo _=>s o;have j:=d.world q;refine⟨g,{ below:=j.below,imm:=λb' o v a=> ?_,live:=λi u a=> ?_,apart:=d.apart,gdef:=j.gdef,old:=gE d.old (d.nokeep f) }⟩
 ·unfold rM at a;split at a
  ·rename_i k;obtain⟨rfl,_,m⟩:=k;simp only[Nat.sub_zero,getElem?_take] at a;split at a
   ·simp[World.cell?,r];simpa using a
   ·cases a
  ·exact j.imm b' o v a
 ·obtain⟨l,h1,m,h3⟩:=j.live i u a;have x:=d.old_blk a h1;refine⟨l,h1,m,wS g (RLe.refl _) (λo t=> ?_) h3⟩;unfold rM;rw[iq ow];exact t
variable {M:Imm}{ρ:Ren}
theorem gO:∀ {ds:List D} {s:List UInt8} {vs:List Value},uc ds=some s->yD M ρ ds vs->∃b:List Int,vs=b.map (Value.int .u8)/\s=b.map λn=>UInt8.ofNat n.toNat
 | [],s,vs,a,hr=>by
  simp only[uc,Option.some.injEq] at a;simp only[yD] at hr;subst a hr;exact⟨[],rfl,rfl⟩
 |d::ds,s,vs,a,hr=>by
  simp only[yD] at hr;obtain⟨v,f,rfl,h1,e⟩:=hr;simp only[uc] at a;split at a
  ·rename_i k n;split at a
   ·split at a
    ·rename_i g c;cases a;obtain⟨b,rfl,rfl⟩:=gO c e;simp only[rel] at h1;exact⟨n::b,by rw[h1.1];rfl,rfl⟩
    ·cases a
   ·cases a
  ·cases a
def KH {m:Int} (h:fits .u8 m):(((UInt8.ofNat m.toNat).toNat:Nat):Int)=m:=by
 have h1:=(uK .u8 m).1 h;simp[IntKind.min,IntKind.max,IntKind.signed,IntKind.bits] at h1;simp;omega
theorem Ic:∀ {ds:List D} {s:List UInt8} {j:Nat} {d:D} {m:Int},uc ds=some s->ds[j]? =some d->rel M ρ d (.int .u8 m)->fits .u8 m
 | [],s,j,d,m,_,h,_=>by simp at h
 |e::ds,s,0,d,m,a,h,hr=>by
  simp only[getElem?_cons_zero,Option.some.injEq] at h;subst h;simp only[uc] at a;split at a
  ·split at a
   ·simp only[rel,Value.int.injEq] at hr;obtain⟨⟨_,rfl⟩,hf⟩:=hr;exact hf
   ·cases a
  ·cases a
 |e::ds,s,j+1,d,m,a,h,hr=>by
  simp only[getElem?_cons_succ] at h;simp only[uc] at a;split at a
  ·split at a
   ·split at a
    ·rename_i c b;exact Ic b h hr
    ·cases a
   ·cases a
  ·cases a
theorem cP:∀ (a:List Int) (b:ByteArray),(a.foldl (λr n=>r.push (UInt8.ofNat n.toNat)) b).data.toList=b.data.toList++a.map λn=>UInt8.ofNat n.toNat
 | [],b=>by simp
 |n::a,b=>by
  rw[foldl_cons,cP a];simp[ByteArray.push]
variable {u T:TypeId}
theorem WD (H:Sim w0 G M ρ h w) (j:rel M ρ x vx) (a:u9 P u T x=some d):YV P w0 G M ρ nid w (Go.convert u T vx) d h:=by
 unfold u9 at a;split at a
 ·rename_i k n;split at a
  ·rename_i k0 g;split at a
   ·rename_i k' f;cases a;simp only[rel] at j;obtain⟨rfl,_⟩:=j;exact .pure H (v:= .int k' (k'.wrap n)) (by simp[Go.convert,run_underlying g,run_underlying f,Conv.intToInt]) (yj (wT _ _))
   ·cases a
  ·cases a
 ·rename_i s;split at a
  ·rename_i g;split at a
   ·rename_i f;cases a;have Q:=j;simp only[rel] at j;obtain⟨b,rfl,_,_⟩:=j;exact .pure H (v:= .string b) (by simp[Go.convert,run_underlying g,run_underlying f]) Q
   ·rename_i e f;split at a
    ·rename_i y;cases a;simp only[rel] at j;obtain⟨b,rfl,rfl,K⟩:=j
     let cap:=grownCap w b.size 0 e
     let c:Array Value:=(b.data.map λx=>Value.int .u8 x.toNat)++Array.replicate (cap-b.size) (.int .u8 0)
     let S:=(w.drew.alloc (.cells c e)).freeze ⟨w.heap.size,c.size,none⟩ 1
     have t:b.size=b.data.toList.length:=by rw[Array.length_toList];rfl
     have E:b.size<=cap:=grownCap_ge w b.size 0 e;have l:(Go.convert u T (.string b)).run P w= .ok (.slice (some ⟨w.heap.size,0,none⟩) b.size cap) S:=by
      have h1:(Go.convert u T (.string b)).run P w=(Conv.stringToBytes e b).run P w:=by
       simp[Go.convert,run_underlying g,run_underlying f,run_underlying y]
      have L:(w.drew.alloc (.cells c e)).shape? w.heap.size=some (e,c.size):=by
       have:(w.drew.alloc (.cells c e)).heap[w.heap.size]? =some (.cells c e (0,0)):=by
        show(w.heap.push _)[w.heap.size]? =_;simp
       unfold World.shape?;rw[this]
      rw[h1];simp only[Conv.stringToBytes,Sem.run_bind,run_choose,Question.forced,Bool.false_eq_true,if_false,Result.andThen_ok,newRow,run_newObj,World.alloc_eq,World.drew_eq,Sem.run_pure,markStringish,run_shape];rw[show((Question.appendCap b.size 0 e).cut (w.tape w.drawn (Question.appendCap b.size 0 e)))=cap from rfl]
      rw[show(w.drew.heap.size)=w.heap.size from rfl]
      rw[show((b.data.map λx=>Value.int .u8 x.toNat)++Array.replicate (cap-b.size) (.int .u8 0))=c from rfl,L]
      rfl
     have A:(w.heap.push (Go.Obj.cells c e))[w.heap.size]? =some (.cells c e (0,0)):=by simp
     have z:S.heap[w.heap.size]? =some (.cells c e (c.size,c.size+1)):=by
      show((w.heap.push (Go.Obj.cells c e)).modify w.heap.size _)[w.heap.size]? =_;rw[Array.getElem?_modify,ip rfl,A];rfl
     have D:Bel w.heap.size w S:=⟨⟨rfl,rfl,rfl,by show _<=((w.heap.push (Go.Obj.cells c e)).modify w.heap.size _).size;simp,λk hk=>by
      show((w.heap.push (Go.Obj.cells c e)).modify w.heap.size _)[k]? =_;rw[Array.getElem?_modify,iq ow,Array.getElem?_push,iq ow]⟩,Nat.le_succ _⟩
     obtain⟨k1,k2⟩:=H.immLater D (le_refl _) z b.size;refine⟨_,_,_,ρ,l,k1,RLe.refl _,λ_ _=>rfl,k2,?_⟩;simp only[rel];refine⟨by omega,by simpa using K,w.heap.size,0,cap,by rw[length_map,<-t];exact QD.mk _ _ _ _,by rw[length_map,<-t];exact E,ue λi x j=> ?_,trivial⟩;simp only[getElem?_map,Option.map_eq_some_iff] at j;obtain⟨q,X,rfl⟩:=j;refine⟨rfl,?_⟩;simp only[sj,and_true];refine⟨rfl, .int .u8 q.toNat,?_,?_⟩
     ·have:=bv (M:=M) (b:=w.heap.size) (p:=0) (vs:=c.toList.take b.size) (i:=i) (v:= .int .u8 q.toNat) (by
       have F:i<b.size:=by rw[t];exact(List.getElem?_eq_some_iff.1 X).1
       rw[getElem?_take,ip F];simp only[c,Array.toList_append,Array.toList_map];rw[getElem?_append_left (by simp;exact F),getElem?_map,X];rfl)
      simpa using this
     ·refine yj ?_;rw[uK];have:=q.toNat_lt;simp[IntKind.min,IntKind.max,IntKind.signed,IntKind.bits];omega
    ·cases a
   ·cases a
  ·cases a
 ·rename_i sz xs tk;split at a
  ·rename_i e g;split at a
   ·rename_i y;split at a
    ·rename_i f;split at a
     ·rename_i O;subst O;split at a
      ·rename_i s I;cases a;simp only[rel] at j;obtain⟨_,W,b,p,cap,⟨R,rfl,N⟩,J,hE,_⟩:=j;obtain⟨hC,V⟩:=ss hE;have C:∀ (o:List Int),s=o.map (λn=>UInt8.ofNat n.toNat)->o.length<=lim->(Go.loadCells ⟨b,p,R⟩ xs.length).run P w= .ok (o.map (Value.int .u8)).toArray w->YV P w0 G M ρ nid w (Go.convert u T (.slice (some ⟨b,p,R⟩) xs.length cap)) (.str s) h:=λo m K l=>by
        have B:=run_bytesToString (P:=P) w ⟨b,p,R⟩ xs.length cap o l;refine .pure H (v:= .string (o.foldl (λr n=>r.push (UInt8.ofNat n.toNat)) ByteArray.empty)) ?_ ?_
        ·rw[run_convert_bytes_string w u T e _ _ _ g y f,B]
        ·simp only[rel];exact⟨_,rfl,by rw[cP,m];rfl,by rw[m,length_map];exact K⟩
       rcases N with rfl|rfl
       case inr=>
        obtain rfl:xs= []:=eq_nil_of_length_eq_zero ow;simp only[flatten_nil,uc,Option.some.injEq] at I;subst I;exact C [] rfl (by simp) (by simp[Go.loadCells,loadCellsFrom])
       obtain⟨vs,Y,Z,U,_⟩:=(H.holds hC).loadCells (P:=P) (off:=0) (n:=xs.length) ow;rw[drop_zero,take_of_length_le ow] at U;obtain⟨o,rfl,m⟩:=gO I U;rw[length_map] at Y;exact C o m ow Z
      ·cases a
     ·cases a
    ·cases a
   ·cases a
  ·cases a
 ·cases a
def QP (o:Sim w0 G M ρ h w) {m dst:TypeId} (p:rel M ρ x vx) (a:np P m dst x h=some d):YV P w0 G M ρ nid w (Go.convert m dst vx) d h:=by
 unfold np at a;split at a
 ·rename_i id off;split at a
  ·have k:=p;simp only[rel] at p;obtain⟨l,A,rfl⟩:=p;unfold QB at a;split at a
   ·rename_i u full cs z;split at a
    ·obtain⟨E,v,_,hM,c,D,C,B,y,n,s,g⟩:=o.live id _ z;rw[A] at v;cases v;have r:=g rfl;have i:w.shape? l.blk=some (u,cs.length):=by simp[World.shape?,C,s,r]
     split at a
     ·rename_i t e;split at a
      ·rename_i b;split at a
       ·rename_i j q;split at a
        ·rename_i f;simp only[Bool.and_eq_true,decide_eq_true_eq] at f;cases a;exact .pure o (Go.Lib.run_to_unsafe (P:=P) (w:=w) ⟨l.blk,0,none⟩ e b q f.1 i f.2) k
        ·cases a
       ·cases a
      ·cases a
     ·rename_i e;split at a
      ·rename_i t b;split at a
       ·rename_i j q;split at a
        ·rename_i f;cases a;exact .pure o (Go.Lib.run_from_unsafe (P:=P) (w:=w) ⟨l.blk,0,none⟩ e b q i f) k
        ·cases a
       ·cases a
      ·cases a
     ·cases a
    ·cases a
   ·cases a
  ·cases a
 ·exact WD o p a
theorem nL:∀ {ds:List D} {s:List UInt8},uc ds=some s->s.length=ds.length
 | [],s,h=>by simp only[uc,Option.some.injEq] at h;subst h;rfl
 |d::ds,s,h=>by
  simp only[uc] at h;split at h
  ·split at h
   ·split at h
    ·rename_i b a;cases h;rw[length_cons,length_cons,nL a]
    ·cases h
   ·cases h
  ·cases h
variable {id:Nat}{ob:Obj}{l:Loc}
def Sim.drop (a:Sim w0 G M ρ h w) (r:h.at' id=some ob) (t:ρ id=some l) (z:w'.os=w.os) (A:w'.tape=w.tape) (B:w'.output=w.output) (n:w'.heap.size=w.heap.size) (f:∀b,b≠l.blk->w'.heap[b]? =w.heap[b]?) (hM:∀o,M l.blk o=none) (x:∀d,w.heap[l.blk]? ≠some (.deferred d)) (m:w.drawn<=w'.drawn:=by exact le_refl _):
  Sim w0 G M ρ (h.del id) w':=by
 obtain⟨F,p,u,E⟩:=a.live id ob r;rw[t] at p;cases p;refine { below:=⟨by rw[z];exact a.below.os,by rw[A];exact a.below.tape,by rw[B];exact a.below.output,by rw[n];exact a.below.size,λb s=>by rw[f b λe=>u (e▸s)];exact a.below.block b s,le_trans a.below.drawn m⟩,imm:=λb o v e=> ?_,live:=λi k e=> ?_,apart:=λi j k D g C e1 e2=> ?_,gdef:=λb y=> ?_,old:=a.old }
 ·have c:b≠l.blk:=λq=>by subst q;rw[hM o] at e;cases e
  have:=a.imm b o v e;rw[<-this];exact World.cell?_of_block (w:=w) (f b c)
 ·simp only[Heap.del] at e;split at e
  ·cases e
  ·rename_i c;obtain⟨g,k1,k2,k3⟩:=a.live i k e;exact⟨g,k1,k2,qv (f _ λq=>c (a.apart i id k ob g l e r k1 t q)) k3⟩
 ·simp only[Heap.del] at e1 e2;split at e1
  ·cases e1
  ·split at e2
   ·cases e2
   ·exact a.apart i j k D g C e1 e2
 ·obtain⟨k1,k2⟩:=a.gdef b y;exact⟨k1,by rw[f b λq=>x _ (q▸k2)];exact k2⟩
variable {h':Heap}
def WE (K:Sim w0 G M ρ h w) {t u ty e:TypeId} {n:Int} (E:ρ id=some l) (J:P.underlying t=some (.pointer e)) (C:fits .i64 n) (i:jY P e id n h=some (d,h')):YV P w0 G M ρ nid w (Builtin.unsafeString_ #[t,u] ty #[.pointer (some ⟨l.blk,0,none⟩), .int .i64 n]) d h':=by
 unfold jY at i;split at i
 ·rename_i e2 full cs D;split at i
  ·rename_i Q;simp only[Bool.and_eq_true,decide_eq_true_eq] at Q;obtain⟨⟨⟨⟨B,y⟩,Y⟩,Z⟩,H⟩:=Q;subst B;split at i
   ·rename_i s g;cases i;obtain⟨l',O,g2,hM,c,U,T,W,S,A,L,_⟩:=K.live id _ D;rw[E] at O;cases O;subst L;have x:s.length=n.toNat:=by rw[nL g,length_take];omega
    obtain⟨vs,q1,q2,N,_,q5⟩:=(K.trow D E).loadCells (P:=P) (off:=0) (n:=n.toNat) ow;rw[drop_zero] at N;obtain⟨ns,rfl,r⟩:=gO g N;have k:∀m∈ns,fits .u8 m:=λm X=>by
     obtain⟨j,R,rfl⟩:=mem_iff_getElem.1 X;have o:j<(cs.take n.toNat).length:=by rw[<-nL g,r,length_map];exact R
     obtain⟨v,r1,r2⟩:=qC N j (cs.take n.toNat)[j] (getElem?_eq_getElem o);rw[getElem?_map,getElem?_eq_getElem R] at r1;cases r1;exact Ic g (getElem?_eq_getElem o) r2
    have V:n<=9223372036854775807:=by
     have h1:=(uK .i64 n).1 C;simp[IntKind.min,IntKind.max,IntKind.signed,IntKind.bits] at h1;omega
    have a:=Go.Lib.run_unsafeString_row (P:=P) w t u ty U J y l.blk c.size (by simp[World.shape?,T]) s (λq=>by rw[q] at x;simp at x;omega) ow ow (λj b z=>by
     rw[r,getElem?_map] at z;obtain⟨m,p,F⟩:=Option.map_eq_some_iff.1 z;have:=q5 j (.int .u8 m) (by rw[getElem?_map,p];rfl);rw[qV];simp only[Nat.zero_add,Nat.add_zero] at this⊢;rw[this,<-F,KH (k m (mem_of_getElem? p))])
    have I:(s.length:Int)=n:=ow;rw[I] at a;obtain⟨f,hf⟩:∃f,w.freeze ⟨l.blk,0,none⟩ s.length= { w with heap:=w.heap.modify l.blk f } :=by
     unfold World.freeze;split
     ·rename_i h0;omega
     ·exact⟨_,rfl⟩
    rw[hf] at a;refine⟨_,_,M,ρ,a,MLe.refl _,RLe.refl _,λ_ _=>rfl,K.drop D E rfl rfl rfl (by simp) (λb z=> ?_) hM (λdd q=>by rw[T] at q;cases q),?_⟩
    ·show(w.heap.modify l.blk _)[b]? =_;rw[Array.getElem?_modify,iq (λq=>z q.symm)]
    ·simp only[rel];exact⟨_,rfl,by simp,by omega⟩
   ·cases i
  ·cases i
 ·cases i
def aE (b:Sim w0 G M ρ h w) {t u ty e:TypeId} (a:P.underlying t=some (.pointer e)):YV P w0 G M ρ nid w (Builtin.unsafeString_ #[t,u] ty #[.pointer none, .int .i64 0]) (.str []) h:=by
 refine .pure b (v:= .string ⟨#[]⟩) ?_ (by simp only[rel];exact⟨⟨#[]⟩,rfl,rfl,by decide⟩);rfl
def aF (i:Sim w0 G M ρ h w) {t u ty:TypeId} (c:rel M ρ x vx) (f:rel M ρ y vy) (a:rP P t x y h=some (d,h')):YV P w0 G M ρ nid w (Builtin.unsafeString_ #[t,u] ty #[vx,vy]) d h':=by
 unfold rP at a;split at a
 ·rename_i e b;split at a
  ·split at a
   ·split at a
    ·split at a
     ·simp only[rel] at c f;obtain⟨l,j,rfl⟩:=c;obtain⟨rfl,g⟩:=f;exact WE i j b g a
     ·cases a
    ·cases a
   ·split at a
    ·split at a
     ·rename_i k;cases a;simp only[rel] at c f;subst c;obtain⟨rfl,_⟩:=f;subst k;exact aE i b
     ·cases a
    ·cases a
   ·cases a
  ·cases a
 ·cases a
def jJ (t u ty e:TypeId) (v:P.underlying t=some (.slice e)) {k:IntKind} (y:P.underlying u=some (.int k)) {i:TypeInfo} {z:Value} (g:P.info? e=some i) (A:i.zero=some z) (m:Nat) (h:0<m) (n:i.size≠0) (a:m<=lim) (r:m*i.bytes<=lim):
  (Builtin.append_ #[t,u] ty #[.slice none 0 0, .int .i64 (m:Int)]).run P w= .ok (.slice (some ⟨w.heap.size,0,none⟩) m (grownCap w m 0 e))
   (w.drew.alloc (.cells (Builtin.zeroCells z.cells m++Builtin.zeroCells z.cells (grownCap w m 0 e-m)) e)):=by
 have c:¬(9223372036854775807<(m:Int)):=by unfold lim at a;omega
 have s:=growslice_fits (need:=m) (old:=0) (bytes:=i.bytes) h r;have b:¬(281474976710656<Builtin.nextslicecap m 0*i.bytes):=ow;have o:(sizeOf e).run P w= .ok i.size w:=by rw[run_sizeOf _ g];simp[Program.cellsOf,g]
 have p:IntKind.i64.wrap (m:Int)=(m:Int):=kV a;have d:¬((m:Int)<0):=ow;have f:¬(281474976710656<(m:Int)*(i.bytes:Int)):=by
  have:((m*i.bytes:Nat):Int)<=(lim:Int):=by exact_mod_cast r
  rw[Int.natCast_mul] at this;generalize(m:Int)*(i.bytes:Int)=x at this⊢;unfold lim at this;omega
 have l:¬(m*i.size=0):=λq=>by
  rcases Nat.mul_eq_zero.1 q with q|q<;>omega
 have j:¬m=0:=ow;simp[Builtin.append_,run_underlying v,run_underlying y,o,typeInfo,zeroValue,g,A,asInt,asIntOf,p,d,f,l,j,c,b,n,Question.forced,newRow,grownCap,Builtin.firstCells]
def WF (Z:Sim w0 G M ρ h w) (S:ρ nid=none) {mu:Bool} {t u ty:TypeId} {s x d:D} (H:rel M ρ s vy) (hx:rel M ρ x vx)
  (b:tm P mu nid t u s x h=some (d,h')):YV P w0 G M ρ nid w (Builtin.append_ #[t,u] ty #[vy,vx]) d h':=by
 unfold tm at b;split at b
 ·rename_i kk hu;split at b
  ·rename_i e he;split at b
   ·split at b
    ·rename_i k0 n;split at b
     ·split at b
      ·rename_i z hz;split at b
       ·rename_i c;simp only[Bool.and_eq_true,decide_eq_true_eq] at c;obtain⟨⟨⟨⟨⟨⟨ad,V⟩,o⟩,I⟩,ag⟩,N⟩,f⟩:=c;cases b;obtain⟨i,a,A,W,F,U⟩:=uE (P:=P) (M:=M) (ρ:=ρ) (w:=w) hz;simp only[rel] at H hx;subst H;obtain⟨rfl,_⟩:=hx;have K:=wD F;have L:=wa F V;have Y:i.size=szT P e:=by simp[szT,Program.cellsOf,A]
        have O:i.bytes=ye P e:=by simp[ye,Program.bytesOf,A]
        have T:(n:Int)=((n.toNat:Nat):Int):=ow;generalize hm:n.toNat=m at *
        have R:0<m:=ow;subst T;have E:=jJ (P:=P) (w:=w) t u ty e (wI he) hu A W m R ow f (by rw[O];exact N);have y:=grownCap_ge w m 0 e;have l:a.cells.size=szT P e:=by have:=zW K;rw[o] at this;simpa using this
        have j:(si m z.cells).length=m*szT P e:=by rw[si,yW,o]
        have g:=nz K m;rw[o] at g;have k:Builtin.zeroCells a.cells m=(Array.range (m*szT P e)).map (a.cells[· %a.cells.size]!):=by unfold Builtin.zeroCells;rw[l]
        have J:(Builtin.zeroCells a.cells m).size=m*szT P e:=by rw[k];simp
        have v:(Builtin.zeroCells a.cells m++Builtin.zeroCells a.cells (grownCap w m 0 e-m)).size=grownCap w m 0 e*szT P e:=by
         rw[Array.size_append,size_zeroCells,size_zeroCells,l,<-Nat.add_mul];congr 1;omega
        have B:(si m z.cells).length<=(Builtin.zeroCells a.cells m++Builtin.zeroCells a.cells (grownCap w m 0 e-m)).size:=by
         rw[v,j];exact Nat.mul_le_mul_right _ y
        have hr:yD M ρ (si m z.cells) ((Builtin.zeroCells a.cells m++Builtin.zeroCells a.cells (grownCap w m 0 e-m)).toList.take (si m z.cells).length):=by
         have Q:(Builtin.zeroCells a.cells m).toList.length=(si m z.cells).length:=by rw[Array.length_toList,J,j]
         rw[Array.toList_append,<-Q,take_left' rfl,k];exact g
        have r:m<=grownCap w m 0 e/\grownCap w m 0 e<=maxLen:=⟨y,grownCap_le_maxLen w m 0 e (by unfold maxLen;unfold lim at f;omega)⟩;have p:∀X,Sim w0 G M (uf ρ nid ⟨w.drew.heap.size,0,(Builtin.zeroCells a.cells m++Builtin.zeroCells a.cells (grownCap w m 0 e-m)).size⟩) (h.new nid X) (w.drew.alloc (.cells (Builtin.zeroCells a.cells m++Builtin.zeroCells a.cells (grownCap w m 0 e-m)) e))->
          YV P w0 G M ρ nid w (Builtin.append_ #[t,u] ty #[.slice none 0 0, .int .i64 (m:Int)]) (.rs nid (szT P e) 0 m) (h.new nid X):=λX C=>by
         refine⟨_,_,M,_,E,MLe.refl _,qL S,λi A=>by simp[uf,rQ A],C,?_⟩;simp only[rel];exact⟨I,f,_,grownCap w m 0 e,0,by unfold uf;rw[ip rfl],rfl,r,by show 0+grownCap w m 0 e*szT P e<=(Builtin.zeroCells a.cells m++Builtin.zeroCells a.cells (grownCap w m 0 e-m)).size;rw[v,Nat.zero_add];exact le_refl _, .inr rfl⟩
        rcases kU P e (si m z.cells) with q|q
        ·rw[q];exact p _ (Z.drew.newRow S e B hr (rS L _))
        ·rw[q];exact p _ (Z.drew.newTRow S e false B (λq=>by cases q) hr (rS L _))
       ·cases b
      ·cases b
     ·cases b
    ·cases b
   ·cases b
  ·cases b
 ·cases b
variable {t:TypeId}
def aG (U:Sim w0 G M ρ h w) (T:ρ nid=none) {mu:Bool} {l c d:D} (S:rel M ρ l vx) (R:rel M ρ c vy) (j:qP P mu nid t l c h=some (d,h')):
  YV P w0 G M ρ nid w (Instr.makeSlice t vx vy) d h':=by
 unfold qP at j;split at j
 ·rename_i e k1 n k2 n' Y;simp only[rel] at S R;obtain⟨rfl,_⟩:=S;obtain⟨rfl,_⟩:=R;split at j
  ·rename_i z hz;obtain⟨i,p,B,ad,v,s⟩:=uE (P:=P) (M:=M) (ρ:=ρ) (w:=w) hz;simp only at j;split at j
   ·rename_i g;simp only[Bool.and_eq_true,decide_eq_true_eq] at g;obtain⟨⟨⟨⟨⟨⟨O,r⟩,o⟩,Z⟩,K⟩,H⟩,b⟩:=g;subst K;have N:=wD v;have A:=wa v O;have a:=nz N n.toNat;rw[r] at a;have L:(((Array.range (n.toNat*szT P e)).map (p.cells[· %p.cells.size]!)):Array Value).size=n.toNat*szT P e:=by simp
    have k:(si n.toNat z.cells).length=n.toNat*szT P e:=by rw[si,yW,r]
    have hw:IntKind.i64.wrap n=n:=by have:=kV (n:=n.toNat) b;rw[show((n.toNat:Nat):Int)=n by omega] at this;exact this
    have m:(Instr.makeSlice t (.int k1 n) (.int k2 n)).run P w= .ok (.slice (some ⟨w.heap.size,0,none⟩) n.toNat n.toNat) (w.alloc (.cells ((Array.range (n.toNat*szT P e)).map (p.cells[· %p.cells.size]!)) e)):=by
     have F:(typeInfo e).run P w= .ok i w:=by simp[typeInfo,B]
     have J:i.bytes=ye P e:=by simp[ye,Program.bytesOf,B]
     have E:¬((i.bytes:Int)*n>2^48):=by
      rw[J];have h1:((n.toNat*ye P e:Nat):Int)<=(lim:Int):=by exact_mod_cast H
      rw[Int.natCast_mul,show((n.toNat:Nat):Int)=n by omega] at h1;have X:(ye P e:Int)*n=n*(ye P e:Int):=Int.mul_comm _ _;rw[X];generalize n*(ye P e:Int)=x at h1⊢;unfold lim at h1;omega
     have q:(Instr.makeSlice t (.int k1 n) (.int k2 n)).run P w= .ok (.slice (some ⟨w.heap.size,0,none⟩) n.toNat n.toNat) (w.alloc (.cells ((Array.range (n.toNat*szT P e)).map (p.cells[· %p.cells.size]!)) e)):=by
      unfold Instr.makeSlice;simp only[Sem.run_bind,run_underlying (wI Y),Result.andThen_ok,asInt,asIntOf,Sem.run_pure,F,hw];have I:((decide (n<0)||decide ((i.bytes:Int)*n>2^48))||decide (n<0)||decide (n>n))=false:=by
       rw[decide_eq_false (by omega:¬n<0),decide_eq_false E,decide_eq_false (by omega:¬n>n)];rfl
      simp only[I,Bool.false_eq_true,if_false,Sem.run_bind,run_askRoom,Result.andThen_ok,yE (P:=P) (w:=w) (t:=e) ow];by_cases y:n.toNat*szT P e=0
      ·have C:∀f:Nat->Value,(Array.range 0).map f= #[]:=λf=>by simp
       simp only[y,if_true,Sem.run_bind,Sem.run_pure,Result.andThen_ok,C,newRow,run_newObj,World.alloc_eq]
      ·simp only[y,if_false,Sem.run_bind,s,Sem.run_pure,Result.andThen_ok,newRow,run_newObj,World.alloc_eq]
     exact q
    split at j
    ·cases j;have u:=U.newRow T e (ds:=si n.toNat z.cells) (c:=(Array.range (n.toNat*szT P e)).map (p.cells[· %p.cells.size]!)) ow (by rw[k,take_of_length_le (by simp)];exact a) (rS A _);refine⟨_,_,M,_,m,MLe.refl _,qL T,λi B=>by simp[uf,rQ B],u,?_⟩;simp only[rel];exact⟨o,b,_,n.toNat,0,by simp[uf];rfl,rfl,⟨le_refl _,by unfold maxLen;unfold lim at b;omega⟩,by simp, .inr rfl⟩
    ·cases j;obtain⟨V,W,Q⟩:=U.newImmRow (n:=n.toNat) e o b k a (rS A _);refine⟨_,_,_,ρ,m,V,RLe.refl _,λ_ _=>rfl,W,?_⟩
     have:yH (szT P e) n.toNat (si n.toNat z.cells)=List.replicate n.toNat z.cells:=by
      have:=tp (szT P e) (List.replicate n.toNat z.cells) [] 0 (λx hx=>by rw[(mem_replicate.1 hx).2,r]);simpa [yH,si] using this
     rw[this] at Q;exact Q
   ·cases j
  ·cases j
 ·cases j
def QQ (j:Sim w0 G M ρ h w) {t ty:TypeId} (f:rel M ρ x vx) (a:o6 P t x h=some h'):
  ∃A,(Builtin.clear_ #[t] ty #[vx]).run P w= .ok (.tuple #[]) A/\Sim w0 G M ρ h' A:=by
 unfold o6 at a;split at a
 ·split at a
  ·rename_i e c;cases a;simp only[rel] at f;subst f;exact⟨w,by simp[Builtin.clear_,run_underlying c],j⟩
  ·cases a
 ·rename_i sz xs tk;split at a
  ·rename_i e c;split at a
   ·rename_i F;cases a;simp only[rel] at f;obtain⟨_,_,b,p,cap,⟨sp,rfl,ad⟩,_⟩:=f;rw[F];exact⟨w,by simp[Builtin.clear_,run_underlying c],j⟩
   ·cases a
  ·cases a
 ·rename_i id sz off n;split at a
  ·cases a
  ·rename_i e W;have c:=wI W;split at a
   ·cases a
   ·rename_i z hz;simp only[rel] at f;obtain⟨h0,R,l,cap,o,y,rfl,O,E,ho⟩:=f;split at a
    ·rename_i S;cases a;subst S;exact⟨w,by simp[Builtin.clear_,run_underlying c],j⟩
    ·rename_i S;split at a
     ·rename_i N;simp only[Bool.and_eq_true,decide_eq_true_eq] at N;obtain⟨K,I⟩:=N;split at a
      ·rename_i cs u;split at a
       ·rename_i Z;cases a;obtain⟨i,B,X,Y,q,k⟩:=uE (M:=M) (ρ:=ρ) (w:=w) hz;obtain rfl:o=off:=ow;have r:=wD q;have H:=wa q K;have g:=nz r n;have Q:(si n z.cells).length=n*sz:=by rw[si,yW,I]
        obtain⟨A,T,U⟩:=j.storeRow (P:=P) (off:=o) u y g (rS H n) ow;refine⟨A,?_,U⟩;have J:B.cells.size=z.cells.length:=by have:=zW r;simpa using this
        have hq:(Builtin.zeroCells B.cells n).toList=((Array.range (n*z.cells.length)).map (B.cells[· %B.cells.size]!)).toList:=by
         unfold Builtin.zeroCells;rw[<-J]
        obtain⟨m,rfl⟩:∃m,n=m+1:=⟨n-1,by omega⟩;simp only[Builtin.clear_,getElem?_toArray,getElem?_cons_zero,Sem.run_bind,run_underlying c,Result.andThen_ok,k];rw[hq];simp only[T,Result.andThen_ok,Sem.run_pure]
       ·cases a
      ·cases a
     ·cases a
 ·rename_i id;split at a
  ·rename_i kt et c;split at a
   ·rename_i es u;cases a;simp only[rel] at f;obtain⟨l,y,rfl⟩:=f;obtain⟨l',h1,C,en,L,s,h3⟩:=j.live id _ u;rw[y] at h1;cases h1;have D:l.blk<w.heap.size:=(Array.getElem?_eq_some_iff.1 s).1;refine⟨{ w with heap:=w.heap.setIfInBounds l.blk (.map #[] L) },?_,?_⟩
    ·simp[Builtin.clear_,run_underlying c,getObj,setObj,Sem.run,s]
    ·refine j.put u y rfl rfl rfl (by simp) (λb V=>by simp only[Array.getElem?_setIfInBounds];rw[iq (λe=>V e.symm)]) (λo v e=> ?_) ⟨_,s,λd=>by simp⟩ ⟨#[],L,by simp[D],by simp[qj]⟩;have:=j.imm _ _ _ e;simp[World.cell?,s] at this
   ·cases a
  ·cases a
 ·cases a
end
section
variable {P:Program} {w0:Base} {G:List Nat} {M:Imm} {ρ:Ren} {h:Heap} {w:World} {nid:Nat}
theorem sK {d k : Nat} {p : Bool} (K : ∀ (t : TypeId) (ks : List Kd) (ag : Bool), wg P d t = some ks -> agT P t = some ag -> ∀ (z : D) (N : Value), zV ag z = true -> rel M ρ z N ->
      (eqK ks z.cells z.cells).isSome = true -> (Instr.checkKey p (d + k) t N).run P w = .ok () w) :
    ∀ (fs : List Field) (off n : Nat) (ks : List Kd), hZ (wg P d) P.cellsOf fs off n = some ks -> ∀ (as : List D) (xs : Array Value), yD M ρ as xs.toList -> as.all D.flat = true -> (eqK ks (as.drop off) (as.drop off)).isSome = true ->
      (forIn (m := Sem) fs PUnit.unit λf _ => do
        if f.name ≠ "_" then do
          Instr.checkKey p (d + k) f.type (<- part f.type xs f.offset)
          pure (ForInStep.yield PUnit.unit)
        else pure (ForInStep.yield PUnit.unit)).run P w = .ok PUnit.unit w
  | [], _, _, _, _, _, _, _, _, _ => by simp
  | f :: fs, off, n, ks, g, as, xs, B, A, T => by
    simp only [hZ] at g;split at g
    · rename_i b
      simp only [Bool.and_eq_true, bne_iff_ne, ne_eq, beq_iff_eq] at b;obtain ⟨⟨i, x⟩, F⟩ := b;split at g
      · rename_i l a
        split at g
        · rename_i c
          simp only [beq_iff_eq] at c;simp only [Option.map_eq_some_iff] at g;obtain ⟨V, C, rfl⟩ := g;obtain ⟨r, hr⟩ := Option.isSome_iff_exists.1 T;obtain ⟨r1, r2, h1, J, _⟩ := rR hr;obtain ⟨ag, e⟩ : ∃ ag, agT P f.type = some ag := by
            cases hd : d with
            | zero => rw [hd] at a; simp [wg] at a
            | succ W =>
              rw [hd] at a;unfold wg at a;unfold agT;cases hu : P.underlying f.type with
              | none => rw [hu] at a; cases a
              | some td => cases td <;> simp
          have s := (ug h1).1;have G : szT P f.type = l.length := c.symm;have cell : ∃ v o, (part f.type xs f.offset).run P w = .ok v w /\ rel M ρ o v /\ zV ag o = true /\ o.cells = (as.drop off).take l.length := by
            rw [x];cases ag with
            | true =>
              have E : off + l.length <= as.length := by
                simp only [length_take, length_drop] at s; omega
              obtain ⟨v, H, I⟩ := oP (w := w) e B A (off := off) (d := .agg ((as.drop off).take l.length)) (by simp only [zM, if_true, G]; rw [iq (by rw [c]; exact F), ip E]);exact ⟨v, _, H, I, rfl, rfl⟩
            | false =>
              obtain ⟨L, rfl⟩ := sr a e;have u : off < as.length := by simp only [length_take, length_drop, length_singleton] at s; omega
              have h : (as.drop off).take [L].length = [as[off]] := by rw [length_singleton, drop_eq_getElem_cons u, take_succ_cons, take_zero]
              obtain ⟨v, H, I⟩ := oP (w := w) e B A (off := off) (d := as[off]) (by simp [zM, u]);have y : zV false as[off] = true /\ as[off].cells = [as[off]] := by
                rw [h] at h1;generalize as[off] = q at h1 ⊢;cases L <;> cases q <;> simp [eqK, zV, D.cells] at h1 ⊢
              exact ⟨v, _, H, I, y.1, by rw [y.2, h]⟩
          obtain ⟨v, o, O, Q, R, S⟩ := cell;have U := K f.type l ag a e o v R Q (by rw [S, h1]; rfl);have j := sK K fs (off + l.length) n V C as xs B A (by rw [drop_drop] at J; rw [J]; rfl);rw [forIn_cons];simp only [ne_eq, i, not_false_eq_true, if_true, Sem.run_bind, O, Result.andThen_ok, U, Sem.run_pure];exact j
        · cases g
      · cases g
    · cases g
theorem pj (c : Bool) (k : Nat) : ∀ (d : Nat) (t : TypeId) (ks : List Kd) (ag : Bool), wg P d t = some ks -> agT P t = some ag -> ∀ (b : D) (j : Value), zV ag b = true -> rel M ρ b j ->
      (eqK ks b.cells b.cells).isSome = true -> (Instr.checkKey c (d + k) t j).run P w = .ok () w
  | 0, t, ks, ag, h, _, _, _, _, _, _ => by simp [wg] at h
  | d + 1, t, ks, ag, h, a, b, j, o, l, n => by
    rw [show d + 1 + k = (d + k) + 1 by omega];unfold wg at h;unfold agT at a;cases hu : P.underlying t with
    | none => rw [hu] at h; cases h
    | some td =>
      rw [hu] at h a;cases td <;> simp only at h a <;> (try (cases h; done))
      all_goals first
        | (injection a with a; subst a
           simp only [Instr.checkKey, Sem.run_bind, run_underlying hu, Result.andThen_ok];rfl)
        | skip
      rename_i fs;injection a with a; subst a;split at h
      · cases h
      · cases b <;> simp [zV] at o
        rename_i as;simp only [rel] at l;obtain ⟨xs, rfl, g, f⟩ := l;have := sK (λp i e h1 m => pj c k d p i e h1 m) fs.toList 0 _ ks h as xs g f (by simpa [D.cells] using n);simp only [Instr.checkKey, Sem.run_bind, run_underlying hu, Result.andThen_ok];rw [<- Array.forIn_toList];simp only [this, Result.andThen_ok, Sem.run_pure]
theorem sL:∀ {ks:List Kd} {as e:List D} {xs ys:List Value} {n:Nat},eqK ks as e=some true->yD M ρ as xs->yD M ρ e ys->(xs.zip ys).all (λp=>Instr.sameBits n p.1 p.2)=true
 | [],[],[],xs,ys,n,_,a,c=>by simp only[yD] at a c;subst a c;rfl
 | .b::ks, .bool x::as, .bool y::e,xs,ys,n,h,a,c=>by
  simp only[eqK,Option.map_eq_some_iff] at h;obtain⟨q,h,d⟩:=h;simp only[Bool.and_eq_true] at d;simp only[yD,rel] at a c;obtain⟨_,f,rfl,rfl,a⟩:=a;obtain⟨_,g,rfl,rfl,c⟩:=c;rw[d.2] at h;simp only[zip_cons_cons,all_cons,Bool.and_eq_true];exact⟨by cases n<;>simpa [Instr.sameBits] using d.1,sL h a c⟩
 | .i::ks, .int k x::as, .int k' y::e,xs,ys,n,h,a,c=>by
  simp only[eqK] at h;split at h
  ·rename_i m;subst m;simp only[Option.map_eq_some_iff] at h;obtain⟨q,h,d⟩:=h;simp only[Bool.and_eq_true] at d;simp only[yD,rel] at a c;obtain⟨_,f,rfl,⟨rfl,_⟩,a⟩:=a;obtain⟨_,g,rfl,⟨rfl,_⟩,c⟩:=c;rw[d.2] at h;simp only[zip_cons_cons,all_cons,Bool.and_eq_true];exact⟨by cases n<;>simpa [Instr.sameBits] using d.1,sL h a c⟩
  ·cases h
 | .s::ks, .str x::as, .str y::e,xs,ys,n,h,a,c=>by
  simp only[eqK,Option.map_eq_some_iff] at h;obtain⟨q,h,d⟩:=h;simp only[Bool.and_eq_true] at d;simp only[yD,rel] at a c;obtain⟨_,f,rfl,⟨l,rfl,rfl,_⟩,a⟩:=a;obtain⟨_,g,rfl,⟨j,rfl,rfl,_⟩,c⟩:=c;rw[d.2] at h;simp only[zip_cons_cons,all_cons,Bool.and_eq_true];refine⟨?_,sL h a c⟩
  have:(l==j)=true:=by rw[beq_toListBytes,yk,yk];exact d.1
  cases n<;>simpa [Instr.sameBits] using this
variable {t:TypeId}
def gP {ag:Bool} {ks:List Kd} (c:Vc P t=some (ag,ks)):wg P 8 t=some ks/\agT P t=some ag:=by
 unfold Vc at c;split at c
 ·rename_i a b h1 d;cases c;exact⟨h1,d⟩
 ·cases c
def Tu (ks:List Kd) (M:Imm) (ρ:Ren) (k:D) (es:List (D×D)) (i0:Nat) (o:Option (Nat×Value)):Prop:=
 (o=none/\sy ks k es=some none/\∀v,Va ks k v es=some (es++ [(k,v)]))\/
 (∃i k' d u,o=some (i0+i,u)/\es[i]? =some (k',d)/\rel M ρ d u/\eqK ks k.cells k'.cells=some true/\sy ks k es=some (some d)/\∀v,Va ks k v es=some (es.set i (k,v)))
def Tu.later {ks:List Kd} {k k' d:D} {c:List (D×D)} {e:Nat} {o:Option (Nat×Value)} (h:Tu ks M ρ k c (e+1) o) (a:eqK ks k.cells k'.cells=some false):Tu ks M ρ k ((k',d)::c) e o:=by
 rcases h with⟨h1,b,h3⟩ | ⟨i,k2,f,u,h1,b,h3,g,h5,j⟩
 ·exact .inl ⟨h1,by simp[sy,a,b],λv=>by simp[Va,a,h3]⟩
 ·exact .inr ⟨i+1,k2,f,u,by rw[h1];congr 2;omega,by simpa using b,h3,g,by simp[sy,a,h5],λv=>by simp[Va,a,j]⟩
variable {vx:Value}
theorem gQ {td:TypeDesc} {ks:List Kd} {k:D} (a:∀ (k':D) (j:Value) (b:Bool),rel M ρ k' j->zV false k'=true->eqK ks k.cells k'.cells=some b->Instr.sameNow td vx j=some b):
  ∀ (f:List (D×D)) (l:List MapEntry) (g:Nat),qj M ρ f l->(∀e∈f,zV false e.1=true)->(sy ks k f).isSome=true->∃o,Instr.findNow td vx l g=some o/\Tu ks M ρ k f g o
 | [],l,g,hr,_,_=>by simp only[qj] at hr;subst hr;exact⟨none,rfl, .inl ⟨rfl,rfl,λv=>rfl⟩⟩
 |(k',d)::f,l,g,hr,i,h=>by
  simp only[qj] at hr;obtain⟨e,m,rfl,h1,p,h3⟩:=hr;simp only[sy] at h;cases c:eqK ks k.cells k'.cells with
  |none=>rw[c] at h;cases h
  |some b=>
   have n:=a k' e.key b h1 (i (k',d) (by simp)) c;cases b with
   |true=>exact⟨some (g,e.val),by simp[Instr.findNow,n], .inr ⟨0,k',d,e.val,rfl,rfl,p,c,by simp[sy,c],λv=>by simp[Va,c]⟩⟩
   |false=>
    rw[c] at h;obtain⟨o,o1,o2⟩:=gQ a f m (g+1) h3 (λe q=>i e (by simp[q])) h;exact⟨o,by simp[Instr.findNow,n,o1],o2.later c⟩
variable {u:TypeId}
theorem o7 {ks:List Kd} {k:D} (a:∀ (k':D) (j:Value) (b:Bool),rel M ρ k' j->zV true k'=true->eqK ks k.cells k'.cells=some b->(Op.equal u vx j).run P w= .ok b w):
  ∀ (f:List (D×D)) (l:List MapEntry) (g:Nat),qj M ρ f l->(∀e∈f,zV true e.1=true)->(sy ks k f).isSome=true->∃o,(Instr.findAsking u vx l g).run P w= .ok o w/\Tu ks M ρ k f g o
 | [],l,g,hr,_,_=>by simp only[qj] at hr;subst hr;exact⟨none,rfl, .inl ⟨rfl,rfl,λv=>rfl⟩⟩
 |(k',d)::f,l,g,hr,i,h=>by
  simp only[qj] at hr;obtain⟨e,m,rfl,h1,p,h3⟩:=hr;simp only[sy] at h;cases c:eqK ks k.cells k'.cells with
  |none=>rw[c] at h;cases h
  |some b=>
   have n:=a k' e.key b h1 (i (k',d) (by simp)) c;cases b with
   |true=>exact⟨some (g,e.val),by simp[Instr.findAsking,n], .inr ⟨0,k',d,e.val,rfl,rfl,p,c,by simp[sy,c],λv=>by simp[Va,c]⟩⟩
   |false=>
    rw[c] at h;obtain⟨o,o1,o2⟩:=o7 a f m (g+1) h3 (λe q=>i e (by simp[q])) h;exact⟨o,by simp[Instr.findAsking,n,o1],o2.later c⟩
def kW {ag:Bool} {ks:List Kd} (s:Vc P u=some (ag,ks)) {k:D} (j:rel M ρ k vx) (l:zV ag k=true) {h:List (D×D)} {i:List MapEntry} (hr:qj M ρ h i) (n:∀e∈h,zV ag e.1=true)
  (v:(sy ks k h).isSome=true):∃o,(Instr.findKey u vx i).run P w= .ok o w/\Tu ks M ρ k h 0 o:=by
 obtain⟨f,c⟩:=gP s;have y:∀ (k':D) (d:Value) (b:Bool),rel M ρ k' d->zV ag k'=true->eqK ks k.cells k'.cells=some b->(Op.equal u vx d).run P w= .ok b w:=λk' d b h1 r h3=>by
  have:=X5 (P:=P) (M:=M) (ρ:=ρ) (w:=w) 9992 8 u ks ag f c k k' vx d b l r j h1 h3;exact this
 obtain⟨td,p,_⟩:=ja (P:=P) (w:=w) c;cases ag with
 |true=>
  obtain⟨o,o1,o2⟩:=o7 (P:=P) (w:=w) y h i 0 hr n v;refine⟨o,?_,o2⟩;unfold Instr.findKey;simp only[Sem.run_bind,run_underlying p,Result.andThen_ok];have t:∀a b,Instr.sameNow td a b=none:=by
   intro a b;unfold agT at c;rw[p] at c;cases td<;>simp only at c<;>(try (cases c;done))<;>rfl
  cases i with
  |nil=>simpa [Instr.findAsking,Instr.findNow] using o1
  |cons e q=>
   have hf:Instr.findNow td vx (e::q) 0=none:=by simp[Instr.findNow,t]
   rw[hf];exact o1
 |false=>
  have g:∀ (k':D) (d:Value) (b:Bool),rel M ρ k' d->zV false k'=true->eqK ks k.cells k'.cells=some b->Instr.sameNow td vx d=some b:=by
   intro k' d b h1 r h3;obtain⟨A,rfl⟩:=sr f c;unfold wg at f;rw[p] at f;have m:∀fs,td≠ .struct fs:=λfs e=>by subst e;simp[agT,p] at c
   cases td<;>simp only at f<;>(try (cases f;done))<;>(try (exact absurd rfl (m _)))<;>(try (split at f<;>cases f))
   all_goals
    cases k<;>simp[zV] at l<;>cases k'<;>simp[zV] at r<;>simp[D.cells,eqK] at h3;simp only[rel] at j h1
   ·subst j h1 h3;rfl
   ·obtain⟨rfl,_⟩:=j;obtain⟨rfl,_⟩:=h1;obtain⟨rfl,rfl⟩:=h3;simp[Instr.sameNow]
   ·obtain⟨z,rfl,rfl,_⟩:=j;obtain⟨x,rfl,rfl,_⟩:=h1;subst h3;simp only[Instr.sameNow];rw[beq_toListBytes,yk,yk]
  obtain⟨o,o1,o2⟩:=gQ g h i 0 hr n v;refine⟨o,?_,o2⟩;unfold Instr.findKey;simp only[Sem.run_bind,run_underlying p,Result.andThen_ok,o1,Sem.run_pure]
def Vi (m:Value):Sem (Array MapEntry):=
 match m with
 | .map none=>pure #[]
 | .map (some r)=>do
  let .map es _<-getObj r|stuck "no map"
  pure es
 |_=>stuck "no map"
def gR (e:TypeId) (o:Option (Nat×Value)):Sem (Value×Bool):=
 match o with
 |some (_,v)=>pure (v,true)
 |none=>do pure (<-zeroValue e,false)
def Tv (j:Sim w0 G M ρ h w) {m:D} {d:List (D×D)} (c:rel M ρ m vx) (a:de m h=some d):∃b:Array MapEntry,qj M ρ d b.toList/\(Vi vx).run P w= .ok b w:=by
 unfold de at a;split at a
 ·cases a;simp only[rel] at c;subst c;exact⟨#[],by simp[qj],rfl⟩
 ·rename_i id;split at a
  ·rename_i e g;cases a;simp only[rel] at c;obtain⟨l,i,rfl⟩:=c;obtain⟨n,h1,_,b,k,f,h3⟩:=j.live id _ g;rw[i] at h1;cases h1;exact⟨b,h3,by simp[Vi,getObj,Sem.run,f]⟩
  ·cases a
 ·cases a
def QR (P:Program) (w:World) (t kt e:TypeId) (h c:Value) (ok:Bool) (j:P.underlying t=some (.map kt e)) {g:Array MapEntry} (b:(Vi h).run P w= .ok g w):
  (Instr.lookup t h c ok).run P w=(do
   Instr.checkKey g.isEmpty 10000 kt c
   let o<-Instr.findKey kt c g.toList
   let (v,p)<-gR e o
   pure (if ok then .tuple #[v, .bool p] else v):Sem Value).run P w:=by
 unfold Instr.lookup;simp only[Sem.run_bind,run_underlying j,Result.andThen_ok];have tail:∀ (d:Array MapEntry) (w:World),(do
   Instr.checkKey d.isEmpty 10000 kt c
   match<-Instr.findKey kt c d.toList with
    |some (_,v)=>do
     let x<-pure (v,true)
     pure (if ok=true then Value.tuple #[x.1,Value.bool x.2] else x.1)
    |none=>do
     let l<-zeroValue e
     let x<-pure (l,false)
     pure (if ok=true then Value.tuple #[x.1,Value.bool x.2] else x.1):Sem Value).run P w =
   (Sem.run P (Instr.checkKey d.isEmpty 10000 kt c) w).andThen λ_ f=>
    (Sem.run P (Instr.findKey kt c d.toList) f).andThen λa f=>
     (Sem.run P (gR e a) f).andThen λa f=>
      Sem.run P (pure (if ok=true then Value.tuple #[a.fst,Value.bool a.snd] else a.fst)) f:=by
  intro d w;simp only[Sem.run_bind];congr 1;funext _ m;congr 1;funext o w2;cases o with
  |none=>
   simp only[gR,Sem.run_bind,Sem.run_pure];cases(zeroValue e).run P w2<;>rfl
  |some p=>rfl
 cases h with
 |map r=>
  cases r with
  |none=>
   cases b;exact tail #[] w
  |some r=>
   simp only[Vi,Sem.run_bind] at b⊢;cases i:(getObj r).run P w with
   |ok k m=>
    rw[i] at b;simp only[Result.andThen_ok] at b⊢;cases k with
    |map d n=>
     cases b;exact tail g w
    |_=>cases b
   |_=>rw[i] at b;cases b
 |_=>cases b
variable {vy:Value}
def Tw (H:Sim w0 G M ρ h w) {m k d:D} {ok:Bool} (U:rel M ρ m vx) (N:rel M ρ k vy) (a:yi P t m k ok h=some d):YV P w0 G M ρ nid w (Instr.lookup t vx vy ok) d h:=by
 unfold yi at a;split at a
 ·cases a
 ·rename_i kt e F;split at a
  ·cases a
  ·rename_i ag ks n;split at a
   ·cases a
   ·rename_i z V;obtain⟨i,W,_,_,q,f⟩:=uE (P:=P) (M:=M) (ρ:=ρ) (w:=w) V;split at a
    ·cases a
    ·rename_i J B;unfold pd at a;split at a
     ·rename_i L;simp only[Bool.and_eq_true] at L;obtain⟨⟨l,C⟩,g⟩:=L;have c:∀e∈J,zV ag e.1=true:=λe T=>all_eq_true.1 g e T;obtain⟨Y,A,p⟩:=Tv (P:=P) H U B;obtain⟨S,x⟩:=gP n;have y:=λs=>pj (P:=P) (M:=M) (ρ:=ρ) (w:=w) s 9992 8 kt ks ag S x k vy l N C;split at a
      ·rename_i r hr;cases a;have E:(sy ks k J).isSome=true:=by rw[hr];rfl
       obtain⟨o,o1,o2⟩:=kW (P:=P) (w:=w) n N l A c E;have O:∀ (v:Value) (b:Bool),(gR e o).run P w= .ok (v,b) w->
         (Instr.lookup t vx vy ok).run P w= .ok (if ok then .tuple #[v, .bool b] else v) w:=by
        intro v b I;rw[QR P w t kt e vx vy ok (gF F) p];simp only[Sem.run_bind];rw[show(10000:Nat)=8+9992 from rfl,y]
        simp only[Result.andThen_ok,o1,I,Sem.run_pure]
       rcases o2 with⟨rfl,Q,_⟩ | ⟨j,k',X,u,rfl,_,K,_,R,_⟩
       ·rw[Q] at hr;cases hr;refine .pure H (O W false (by simp[gR,f])) ?_;cases ok with
        |true=>
         simp only[o5,if_true,rel];exact⟨_,rfl,by simp only[yD];exact⟨_,_,rfl,q,_,_,rfl,yy _,rfl⟩⟩
        |false=>simpa [o5] using q
       ·rw[R] at hr;cases hr;refine .pure H (O u true rfl) ?_;cases ok with
        |true=>
         simp only[o5,if_true,rel];exact⟨_,rfl,by simp only[yD];exact⟨_,_,rfl,K,_,_,rfl,yy _,rfl⟩⟩
        |false=>simpa [o5] using K
      ·cases a
     ·cases a
theorem jc:∀ {ks:List Kd} {as a:List D} {b:Bool},eqK ks as a=some b->eqK ks a as=some b
 | [],[],[],b,h=>h
 | .b::ks, .bool x::as, .bool y::a,b,h=>by
  simp only[eqK,Option.map_eq_some_iff] at h⊢;obtain⟨q,h,c⟩:=h;exact⟨q,jc h,by rw[<-c,Bool.beq_comm]⟩
 | .i::ks, .int k x::as, .int k' y::a,b,h=>by
  simp only[eqK] at h⊢;split at h
  ·rename_i d;subst d;rw[ip rfl];simp only[Option.map_eq_some_iff] at h⊢;obtain⟨q,h,c⟩:=h;exact⟨q,jc h,by rw[<-c,Bool.beq_comm]⟩
  ·cases h
 | .s::ks, .str x::as, .str y::a,b,h=>by
  simp only[eqK,Option.map_eq_some_iff] at h⊢;obtain⟨q,h,c⟩:=h;exact⟨q,jc h,by rw[<-c,Bool.beq_comm]⟩
def GS {ks:List Kd} {ag:Bool} {k k':D} (n:Nat) (h1:rel M ρ k vx) (f:rel M ρ k' vy) (s1:zV ag k=true) (s2:zV ag k'=true) (e:eqK ks k.cells k'.cells=some true):Instr.sameBits (n+1) vx vy=true:=by
 cases ag with
 |true=>
  cases k<;>simp[zV] at s1;cases k'<;>simp[zV] at s2;rename_i as o;simp only[rel] at h1 f;obtain⟨xs,rfl,h,_⟩:=h1;obtain⟨ys,rfl,i,_⟩:=f;have g:=ug e;have m:xs.size=ys.size:=by
   have a:=zW h;have b:=zW i;simp only[Array.length_toList] at a b;have c:=g.1;have d:=g.2;simp only[D.cells] at c d;omega
  have:=sL (n:=n) e h i;simp only[Instr.sameBits,m,beq_self_eq_true,Bool.true_and];simpa using this
 |false=>
  have j:k.cells= [k]:=by cases k<;>simp[zV] at s1<;>rfl
  have l:k'.cells= [k']:=by cases k'<;>simp[zV] at s2<;>rfl
  rw[j,l] at e;have:=sL (M:=M) (ρ:=ρ) (xs:=[vx]) (ys:=[vy]) (n:=n+1) e ⟨vx,[],rfl,h1,rfl⟩ ⟨vy,[],rfl,f,rfl⟩;simpa using this
theorem Zw {k d:D} {e:MapEntry} (j:rel M ρ k e.key) (g:rel M ρ d e.val):∀ {c:List (D×D)} {a:List MapEntry} (i:Nat),qj M ρ c a->qj M ρ (c.set i (k,d)) (a.set i e)
 | [],a,i,h=>by simp only[qj] at h;subst h;simp[qj]
 |(k',l)::c,a,0,h=>by
  simp only[qj] at h;obtain⟨f,b,rfl,_,_,h3⟩:=h;simp only[set_cons_zero,qj];exact⟨e,b,rfl,j,g,h3⟩
 |(k',l)::c,a,i+1,h=>by
  simp only[qj] at h;obtain⟨f,b,rfl,h1,m,h3⟩:=h;simp only[set_cons_succ,qj];exact⟨f,_,rfl,h1,m,Zw j g i h3⟩
theorem cQ {k d:D} {e:MapEntry} (f:rel M ρ k e.key) (c:rel M ρ d e.val):∀ {b:List (D×D)} {a:List MapEntry},qj M ρ b a->qj M ρ (b++ [(k,d)]) (a++ [e])
 | [],a,h=>by simp only[qj] at h;subst h;simp only[nil_append,qj];exact⟨e,[],rfl,f,c,rfl⟩
 |(k',l)::b,a,h=>by
  simp only[qj] at h;obtain⟨g,i,rfl,h1,j,h3⟩:=h;simp only[cons_append,qj];exact⟨g,_,rfl,h1,j,cQ f c h3⟩
theorem Zx:∀ {c:List (D×D)} {b:List MapEntry},qj M ρ c b->∀ (i:Nat) (k d:D),c[i]? =some (k,d)->∃e,b[i]? =some e/\rel M ρ k e.key/\rel M ρ d e.val
 | [],_,_,i,k,d,a=>by simp at a
 |(k',l)::c,b,h,i,k,d,a=>by
  simp only[qj] at h;obtain⟨f,g,rfl,h1,j,h3⟩:=h;cases i with
  |zero=>simp at a;obtain⟨rfl,rfl⟩:=a;exact⟨f,rfl,h1,j⟩
  |succ i=>simp at a;simpa using Zx h3 i k d a
variable {h':Heap}
def n7 (Z:Sim w0 G M ρ h w) {m k v:D} {vm i A:Value} (hm:rel M ρ m vm) (I:rel M ρ k i) (O:rel M ρ v A) (c:yV P t m k v h=some h'):
  ∃w',(Instr.mapUpdate t vm i A).run P w= .ok () w'/\Sim w0 G M ρ h' w':=by
 unfold yV at c;split at c
 ·cases c
 ·rename_i kt e L;split at c
  ·rename_i ag ks J;split at c
   ·rename_i id;split at c
    ·rename_i es hi;split at c
     ·rename_i hc;simp only[Bool.and_eq_true] at hc;obtain⟨⟨⟨z,V⟩,E⟩,X⟩:=hc;have f:∀e∈es,zV ag e.1=true:=λe he=>all_eq_true.1 E e he;split at c
      ·rename_i B a;cases c;simp only[rel] at hm;obtain⟨l,hl,rfl⟩:=hm;obtain⟨l',h1,T,x,Q,C,h3⟩:=Z.live id _ hi;rw[hl] at h1;cases h1;obtain⟨h8,S⟩:=gP J;have F:=pj (P:=P) (M:=M) (ρ:=ρ) (w:=w) false 9992 8 kt ks ag h8 S k i z I V;obtain⟨o,o1,o2⟩:=kW (P:=P) (w:=w) J I z h3 f X;have p:(getObj l.blk).run P w= .ok (.map x Q) w:=by simp[getObj,Sem.run,C]
       have r:∀ob:Go.Obj,(setObj l.blk ob).run P w= .ok () { w with heap:=w.heap.setIfInBounds l.blk ob } :=λob=>by simp[setObj,Sem.run,C]
       have g:∀ (n:Array MapEntry) (s:Nat),qj M ρ B n.toList->Sim w0 G M ρ (h.set id (.map B)) { w with heap:=w.heap.setIfInBounds l.blk (.map n s) } :=by
        intro n s N;have W:l.blk<w.heap.size:=(Array.getElem?_eq_some_iff.1 C).1;refine Z.put hi hl rfl rfl rfl (by simp) (λb hb=>by simp only[Array.getElem?_setIfInBounds];rw[iq (λe=>hb e.symm)]) (λo v e=> ?_) ⟨_,C,λd=>by simp⟩ ⟨n,s,by simp[W],N⟩;have:=Z.imm _ _ _ e;simp[World.cell?,C] at this
       rcases o2 with⟨rfl,_,f1⟩ | ⟨j,k',d',u,rfl,f2,f3,f4,_,f5⟩
       ·rw[f1] at a;cases a;refine⟨_,?_,g (x.push { key:=i,val:=A,born:=Q }) (Q+1) (by rw[Array.toList_push];exact cQ I O h3)⟩;unfold Instr.mapUpdate;simp only[Sem.run_bind,run_underlying (gF L),Result.andThen_ok,p];rw[show(10000:Nat)=8+9992 from rfl,F]
        simp only[Result.andThen_ok,o1,r]
       ·rw[f5] at a;cases a;obtain⟨R,e1,e2,e3⟩:=Zx h3 j k' d' f2;have H:x[j]? =some R:=by simpa using e1
        have y:(Instr.keyThatStays R.key i).run P w= .ok i w:=by
         have ad:Instr.sameBits 10000 R.key i=true:=by
          exact GS 9999 e2 I (f _ (mem_of_getElem? f2)) z (jc f4)
         simp[Instr.keyThatStays,ad]
        have K:(x.modify j λe=> { e with key:=i,val:=A }).toList=x.toList.set j { R with key:=i,val:=A } :=by
         apply ext_getElem?;intro q;rw[Array.getElem?_toList,Array.getElem?_modify,getElem?_set];have U:j<x.toList.length:=(List.getElem?_eq_some_iff.1 e1).1;by_cases Y:j=q
         ·subst Y;rw[ip rfl,ip rfl,ip U,H];rfl
         ·rw[iq Y,iq Y,Array.getElem?_toList]
        refine⟨_,?_,g (x.modify j λe=> { e with key:=i,val:=A }) Q (by rw[K];exact Zw I O j h3)⟩;unfold Instr.mapUpdate;simp only[Sem.run_bind,run_underlying (gF L),Result.andThen_ok,p];rw[show(10000:Nat)=8+9992 from rfl,F]
        simp only[Result.andThen_ok,o1,Nat.zero_add,H,Option.map_some,Option.getD_some,Sem.run_bind,y,r]
      ·cases c
     ·cases c
    ·cases c
   ·cases c
  ·cases c
def WG (c:Sim w0 G M ρ h w) (a:ρ nid=none) :YV P w0 G M ρ nid w (Instr.makeMap t none) (.map nid) (h.new nid (.map [])):=by
 have k:=c.allocObj a (.map #[] 0) (.map []) ⟨w.heap.size,0,0⟩ rfl ⟨#[],0,by show(w.heap.push _)[w.heap.size]? =_;simp,by simp[qj]⟩;refine⟨.map (some w.heap.size),_,M,_,by simp[Instr.makeMap],MLe.refl _,qL a,λi b=>by simp[uf,rQ b],k,?_⟩;simp only[rel];exact⟨_,by simp[uf];rfl,rfl⟩
end
def Ie:Operand->Bool
 | .tmp _=>true
 | .const v=>rO v
 | .global _=>false
 | .func _=>true
def Tx (o:Op):Bool:=o.operands.toList.all Ie
def YN (P:Program) (w0:Base) (G:List Nat) (M:Imm) (ρ:Ren) (nid:Nat) (w:World) (s:Sem Next) (d:D) (h':Heap):Prop:=
 ∃nx v w' M' ρ',s.run P w= .ok nx w'/\(nx= .value v\/(nx= .skip/\v=undef))/\MLe M M'/\RLe ρ ρ'/\(∀i,h'.next<=i\/i≠nid->ρ' i=ρ i)/\Sim w0 G M' ρ' h' w'/\rel M' ρ' d v
section
variable {P:Program} {w0:Base} {G:List Nat} {M:Imm} {ρ:Ren} {h:Heap} {w:World} {nid:Nat}
variable {d:D}{h':Heap}
def YV.next {s:Sem Value} (k:YV P w0 G M ρ nid w s d h'):YN P w0 G M ρ nid w (do Pure.pure (Next.value (<-s))) d h':=by
 obtain⟨v,a,M',b,k1,k2,k3,k4,k5,k6⟩:=k;exact⟨.value v,v,a,M',b,by simp[k1], .inl rfl,k2,k3,k4,k5,k6⟩
def pk:rel M ρ wO undef:=by
 unfold wO undef;simp only[rel,yD];exact⟨#[],rfl,rfl⟩
def YN.skip {s:Sem Unit} (k:∃a,s.run P w= .ok () a/\Sim w0 G M ρ h' a):YN P w0 G M ρ nid w (do s;pure Next.skip) wO h':=by
 obtain⟨a,k1,k2⟩:=k;exact⟨.skip,undef,a,M,ρ,by simp[k1], .inr ⟨rfl,rfl⟩,MLe.refl _,RLe.refl _,λ_ _=>rfl,k2,pk⟩
variable {v:Value}
def YN.still {s:Sem Next} (b:Sim w0 G M ρ h w) (hr:s.run P w= .ok (.value v) w) (a:rel M ρ d v):YN P w0 G M ρ nid w s d h:=
 ⟨.value v,v,w,M,ρ,hr, .inl rfl,MLe.refl _,RLe.refl _,λ_ _=>rfl,b,a⟩
variable {fr:Frm}
def n8 {a:Act} (hf:cL M ρ fr a.tmps):∀ {x:Operand},Ie x=true->rel M ρ (yC fr x) (a.eval x)
 | .tmp t,_=>hf t
 | .const v,h=>WA v h
 | .global _,h=>by simp[Ie] at h
 | .func f,_=>by
  simp only[yC,Act.eval,rel,yD];exact⟨⟨f,rfl⟩,#[],#[],rfl,rfl,rfl⟩
theorem pn {a:Act} (hf:cL M ρ fr a.tmps):∀ {xs:List Operand},xs.all Ie=true->yD M ρ (xs.map (yC fr)) (xs.map a.eval)
 | [],_=>rfl
 |x::xs,h=>by
  simp only[List.all_cons,Bool.and_eq_true] at h;exact⟨_,_,rfl,n8 hf h.1,pn hf h.2⟩
variable {t:TypeId}{x:D}{vx:Value}
def QS (k:Sim w0 G M ρ h w) (e:ρ nid=none) (f:rel M ρ x vx) (a:kR P nid t x h=some (d,h')):YV P w0 G M ρ nid w (Instr.range t vx) d h':=by
 unfold kR at a;split at a
 ·rename_i s;split at a
  ·rename_i l;cases a;simp only[rel] at f;obtain⟨b,rfl,rfl,c⟩:=f;have g:=k.allocObj e (.stringIter b 0) (.siter b.data.toList 0) ⟨w.heap.size,0,0⟩ rfl ⟨b,by show(w.heap.push _)[w.heap.size]? =_;simp,rfl⟩;refine⟨.pointer (some ⟨w.heap.size,0,none⟩),_,M,_,?_,MLe.refl _,qL e,λi j=>by simp[uf,rQ j],g,?_⟩
   ·simp only[Instr.range,Sem.run_bind,run_underlying l,Result.andThen_ok,Sem.run_pure,run_newObj,World.alloc_eq]
   ·simp only[rel];exact⟨_,by simp[uf];rfl,rfl⟩
  ·cases a
 ·cases a
def KI (i:Sim w0 G M ρ h w) {ty:TypeId} {g:Bool} (y:rel M ρ x vx) (a:df x g h=some (d,h')):YV P w0 G M ρ nid w (Instr.next vx g ty) d h':=by
 unfold df at a;split at a
 ·rename_i id off;split at a
  ·rename_i s pos t;split at a
   ·rename_i r;simp only[Bool.and_eq_true,decide_eq_true_eq] at r;obtain⟨rfl,rfl⟩:=r;simp only[rel] at y;obtain⟨l,u,rfl⟩:=y;obtain⟨D,h1,m,b,f,j⟩:=i.live id _ t;rw[u] at h1;cases h1;have C:b.size=s.length:=by rw[<-j,Array.length_toList];rfl
    have p:(⟨s.toArray⟩:ByteArray)=b:=by rw[<-j]
    have q:l.blk<w.heap.size:=(Array.getElem?_eq_some_iff.1 f).1;split at a
    ·rename_i B;split at a
     ·rename_i hr;simp only[Bool.and_eq_true,decide_eq_true_eq,beq_iff_eq] at hr;cases a;have z:Sim w0 G M ρ (h.set id (.siter s (pos+(wQ s pos).2))) { w with heap:=w.heap.setIfInBounds l.blk (.stringIter b (pos+(wQ s pos).2)) } :=by
       refine i.put t u rfl rfl rfl (by simp) (λb' k=>by simp only[Array.getElem?_setIfInBounds];rw[iq (λe=>k e.symm)]) (λo v e=> ?_) ⟨_,f,λd=>by simp⟩ ⟨b,by simp[q],j⟩;have:=i.imm _ _ _ e;simp[World.cell?,f] at this
      refine⟨.tuple #[.bool true, .int .i64 pos, .int .i32 (wQ s pos).1],_,M,ρ,?_,MLe.refl _,RLe.refl _,λ_ _=>rfl,z,?_⟩
      ·have c:pos<b.size:=ow;have A:Utf8.decode b pos=wQ s pos:=by unfold wQ;rw[p]
       simp only[Instr.next,getObj,Sem.run_bind,Sem.run,f,Result.andThen_ok,c,if_true,A];simp[setObj,Sem.run,f];rfl
      ·simp only[rel,yD];refine⟨_,rfl,_,_,rfl,rfl,_,_,rfl,⟨rfl,?_⟩,_,_,rfl,⟨rfl,hr.2⟩,rfl⟩;have:=kV (n:=pos) ow;exact this
     ·cases a
    ·rename_i B;cases a;have c:¬pos<b.size:=ow;refine .pure i (v:= .tuple #[.bool false]) ?_ ?_
     ·simp only[Instr.next,getObj,Sem.run_bind,Sem.run,f,Result.andThen_ok,c,if_false];rfl
     ·simp only[rel,yD];exact⟨_,rfl,_,_,rfl,rfl,rfl⟩
   ·cases a
  ·cases a
 ·cases a
variable {α β:Type}
def yP {o:Option α} {f:α->β} {b:β} (h:o.map f=some b):∃a,o=some a/\f a=b:=by simpa [Option.map_eq_some_iff] using h
variable {ds:List D}
def WH (f:Sim w0 G M ρ h w) (C:ρ nid=none) {mu:Bool} {b:Builtin} {g:Array TypeId} {ty:TypeId} {cs:Array Bool} {vs:Array Value} (hr:yD M ρ ds vs.toList)
  (a:tn P mu nid b g.toList ds h=some (d,h')):YN P w0 G M ρ nid w (builtin b g ty cs vs) d h':=by
 obtain⟨g⟩:=g;obtain⟨vs⟩:=vs;simp only at hr a;unfold tn at a;split at a
 ·split at a
  ·split at a
   ·simp only[yD] at hr;obtain⟨v,_,rfl,hr,rfl⟩:=hr;obtain⟨e,h1,m⟩:=yP a;cases m;exact(GQ f hr h1).next
   ·cases a
  ·cases a
 ·split at a
  ·split at a
   ·rename_i t u s x;split at a
    ·rename_i i;simp only[yD] at hr;obtain⟨v,_,rfl,hr,z,_,rfl,c,rfl⟩:=hr;unfold uJ at i;split at i
     ·cases i
     ·rename_i J j p;exact(WC f C p (λk e=>by subst e;first|exact j k rfl|exact j k p) hr c a).next
     ·cases i
    ·simp only[yD] at hr;obtain⟨v,_,rfl,hr,z,_,rfl,c,rfl⟩:=hr;exact YV.next (s:=Builtin.append_ _ ty _) (WF f C hr c a)
   ·cases a
  ·cases a
 ·split at a
  ·simp only[yD] at hr;obtain⟨v,_,rfl,hr,z,_,rfl,c,rfl⟩:=hr;obtain⟨e,h1,m⟩:=yP a;cases m;exact(GR (t:=0) f _ hr c h1).next
  ·cases a
 ·split at a
  ·rw[yD] at hr;obtain⟨v,vs,rfl,hr,c⟩:=hr;obtain⟨e,h1,m⟩:=yP a;cases m;exact(KG f _ hr c h1).next
  ·cases a
 ·split at a
  ·split at a
   ·split at a
    ·rename_i x;simp only[yD] at hr;obtain⟨v,_,rfl,hr,rfl⟩:=hr;split at a
     ·rename_i e p;cases a;simp only[rel] at hr;subst hr;refine YV.next (s:=Builtin.cap_ _ ty _) (.pure f (v:= .int .i64 0) (by simp[Builtin.cap_,run_underlying p,goInt]) (yj ?_));rw[uK];simp[IntKind.min,IntKind.max,IntKind.signed,IntKind.bits]
     ·cases a
    ·cases a
   ·cases a
  ·cases a
 ·split at a
  ·split at a
   ·split at a
    ·rename_i x id sz off n;simp only[yD] at hr;obtain⟨v,_,rfl,hr,rfl⟩:=hr;split at a
     ·cases a
     ·rename_i I r;cases a;simp only[rel] at hr;obtain⟨_,F,l,cap,o,D,rfl,A,B,y⟩:=hr;have E:n≠0:=λq=>r q;obtain rfl:o=0:=y.resolve_left ow;refine YV.next (s:=Builtin.unsafeSliceData_ _ ty _) (.pure f (Go.Lib.run_unsafeSliceData_row w _ _ ⟨l.blk,0,none⟩ n cap ow) ?_);simp only[rel];exact⟨l,D,rfl⟩
     ·cases a
    ·simp only[yD] at hr;obtain⟨v,_,rfl,hr,rfl⟩:=hr;cases a;simp only[rel] at hr;subst hr;exact YV.next (s:=Builtin.unsafeSliceData_ _ ty _) (.pure f rfl (by simp only[rel]))
    ·cases a
   ·cases a
  ·cases a
 ·split at a
  ·split at a
   ·simp only[yD] at hr;obtain⟨v,_,rfl,hr,z,_,rfl,c,rfl⟩:=hr;exact YV.next (s:=Builtin.unsafeString_ _ ty _) (aF f hr c a)
   ·cases a
  ·cases a
 ·split at a
  ·split at a
   ·simp only[yD] at hr;obtain⟨v,_,rfl,hr,rfl⟩:=hr;obtain⟨e,h1,m⟩:=yP a;cases m;obtain⟨H,k1,k2⟩:=QQ (ty:=ty) f hr h1;refine YV.next (s:=Builtin.clear_ _ ty _) ⟨_,H,M,ρ,k1,MLe.refl _,RLe.refl _,λ_ _=>rfl,k2,pk⟩
   ·cases a
  ·cases a
 ·cases a
variable {o:Oper}
theorem If (A:Sim w0 G M ρ h w) (J:ρ nid=none) {mu:Bool} {a:Act} (hf:cL M ρ fr a.tmps) (H:Tx o.op=true) (q:vop P mu nid o.op (yC fr) h=some (d,h')):
  YN P w0 G M ρ nid w (execOp a.eval o) d h':=by
 obtain⟨dst,op,ty,pos,after,guard⟩:=o;have j:∀x∈op.operands.toList,rel M ρ (yC fr x) (a.eval x):=λx E=>n8 hf (List.all_eq_true.1 H x E);cases op<;>simp only[vop] at q<;>(try (cases q;done))<;>simp only[Op.operands] at j<;>simp only[execOp]
 case move x=>cases q;exact .still A rfl (j x (by simp))
 case assign x=>cases q;exact .still A rfl (j x (by simp))
 case pick c x y=>
  have F:=j c (by simp);split at q
  ·rename_i e;rw[e] at F;simp only[rel] at F;cases q;exact .still A (by simp[F,asBool]) (j x (by simp))
  ·rename_i e;rw[e] at F;simp only[rel] at F;cases q;exact .still A (by simp[F,asBool]) (j y (by simp))
  ·cases q
 case alloc t=>
  split at q
  ·rename_i z K;split at q
   ·rename_i L;cases q;exact(QK A J K L).next
   ·cases q
  ·cases q
 case box t x=>
  split at q
  ·rename_i L;split at q
   ·rename_i hm;cases q;exact(gI A J (j x (by simp)) L).next
   ·cases q;exact(X9 A (j x (by simp)) L).next
  ·cases q
 case build t ps=>
  obtain⟨e,h1,B⟩:=yP q;cases B;exact(QN A (yC fr) a.eval (λp R=>j p.2 (by simp;exact⟨p.1,by simpa using R⟩)) h1).next
 case buildSlice t n ps=>
  exact(dj A J (yC fr) a.eval (λp R=>j p.2 (by simp;exact⟨p.1,by simpa using R⟩)) q).next
 case load t x=>
  obtain⟨e,h1,B⟩:=yP q;cases B;exact(KA A (j x (by simp)) h1).next
 case store t x y=>
  obtain⟨e,h1,B⟩:=yP q;cases B;exact .skip (QL A (j x (by simp)) (j y (by simp)) h1)
 case nilCheck x=>
  obtain⟨e,h1,B⟩:=yP q;cases B;have E:=j x (by simp);unfold ze at h1;split at h1<;>(try (cases h1;done))<;>rename_i e<;>rw[e] at E<;>cases h1
  ·have D:=E;simp only[rel] at D;obtain⟨l,_,e⟩:=D;rw[e] at E⊢;exact .still A rfl E
  ·have D:=E;simp only[rel] at D;obtain⟨b,p,e,_⟩:=D;rw[e] at E⊢;exact .still A rfl E
  ·have D:=E;simp only[rel] at D;obtain⟨_,va,vc,e,_⟩:=D;rw[e] at E⊢;exact .still A rfl E
  ·have D:=E;simp only[rel] at D;obtain⟨l,_,e⟩:=D;rw[e] at E⊢;exact .still A rfl E
 case binOp op t x y u=>
  obtain⟨e,h1,B⟩:=yP q;cases B;exact(GO A x y (j x (by simp)) (j y (by simp)) h1).next
 case unOp op t x=>
  obtain⟨e,h1,B⟩:=yP q;cases B;exact(CU A (j x (by simp)) h1).next
 case convert s t x=>
  obtain⟨e,h1,B⟩:=yP q;cases B;exact(QP A (j x (by simp)) h1).next
 case makeInterface t x=>
  split at q
  ·rename_i F;cases q;unfold CT at F;refine YV.next (YV.pure (s:=Instr.makeInterface t (a.eval x)) A (v:= .iface t (a.eval x)) ?_ (by simp only[rel];exact⟨_,rfl,j x (by simp)⟩));split at F
   ·cases F
   ·rename_i W I U;cases W<;>first|(exact absurd rfl (I _);done)|(exact absurd U (I _);done)|(simp only[Instr.makeInterface,Sem.run_bind,run_underlying U,Result.andThen_ok];rfl)
   ·cases F
  ·cases q
 case makeFunc g x y=>
  split at q
  ·rename_i f;cases q;refine YV.next (YV.pure (s:=Instr.makeFunc (.func f) (x.map a.eval) (y.map a.eval)) A (v:= .func (.func f) (x.map a.eval) (y.map a.eval)) (by simp[Instr.makeFunc]) ?_);simp only[rel];refine⟨⟨f,rfl⟩,_,_,rfl,?_,?_⟩
   ·rw[Array.toList_map];exact pn hf (List.all_eq_true.2 λz K=>List.all_eq_true.1 H z (by simp[Op.operands];exact .inl (by simpa using K)))
   ·rw[Array.toList_map];exact pn hf (List.all_eq_true.2 λz K=>List.all_eq_true.1 H z (by simp[Op.operands];exact .inr (by simpa using K)))
  ·cases q
 case makeMap t r=>
  split at q
  ·cases q;exact(WG A J).next
  ·cases q
 case makeSlice t x y=>exact(aG A J (j x (by simp)) (j y (by simp)) q).next
 case slice t x lo hi mx=>
  obtain⟨e,h1,B⟩:=yP q;cases B;unfold yh at h1;split at h1
  ·rename_i na Z S;cases mx with
   |some m=>cases h1
   |none=>
    refine(Ts (vlo:=lo.map a.eval) (vhi:=hi.map a.eval) A S (j x (by simp)) ?_ ?_ ?_ ?_ h1).next
    ·intro d C;cases lo with
     |none=>cases C
     |some z=>cases C;exact⟨_,rfl,j z (by simp)⟩
    ·intro C;cases lo with
     |none=>rfl
     |some z=>cases C
    ·intro d C;cases hi with
     |none=>cases C
     |some z=>cases C;exact⟨_,rfl,j z (by simp)⟩
    ·intro C;cases hi with
     |none=>rfl
     |some z=>cases C
  cases mx with
  |some m=>
   cases hi with
   |none=>simp[pc] at h1
   |some u=>
    refine(Tq (vlo:=lo.map a.eval) A (j x (by simp)) ?_ ?_ (j u (by simp)) (j m (by simp)) h1).next
    ·intro d C;cases lo with
     |none=>cases C
     |some z=>cases C;exact⟨_,rfl,j z (by simp)⟩
    ·intro C;cases lo with
     |none=>rfl
     |some z=>cases C
  |none=>
   refine(QI (vlo:=lo.map a.eval) (vhi:=hi.map a.eval) A (j x (by simp)) ?_ ?_ ?_ ?_ h1).next
   ·intro d C;cases lo with
    |none=>cases C
    |some z=>cases C;exact⟨_,rfl,j z (by simp)⟩
   ·intro C;cases lo with
    |none=>rfl
    |some z=>cases C
   ·intro d C;cases hi with
    |none=>cases C
    |some z=>cases C;exact⟨_,rfl,j z (by simp)⟩
   ·intro C;cases hi with
    |none=>rfl
    |some z=>cases C
 case fieldAddr t x f=>
  obtain⟨e,h1,B⟩:=yP q;cases B;exact(bz A (j x (by simp)) h1).next
 case field t x f=>
  obtain⟨e,h1,B⟩:=yP q;cases B;unfold Ib at h1;split at h1
  ·rename_i Q;split at h1
   ·rename_i cs N;split at h1
    ·rename_i O;have E:=j x (by simp);rw[N] at E;exact(QH A E Q O h1).next
    ·cases h1
   ·cases h1
  ·cases h1
 case indexAddr t x y=>
  obtain⟨e,h1,B⟩:=yP q;cases B;exact(b0 A (j x (by simp)) (j y (by simp)) h1).next
 case index t x y=>
  obtain⟨e,h1,B⟩:=yP q;cases B;exact(QG A (j x (by simp)) (j y (by simp)) h1).next
 case lookup t x y ok=>
  obtain⟨e,h1,B⟩:=yP q;cases B;exact(Tw A (j x (by simp)) (j y (by simp)) h1).next
 case mapUpdate t x y z=>
  obtain⟨e,h1,B⟩:=yP q;cases B;exact .skip (n7 A (j x (by simp)) (j y (by simp)) (j z (by simp)) h1)
 case insert t x y z=>
  obtain⟨e,h1,B⟩:=yP q;cases B;exact .skip (n7 A (j x (by simp)) (j y (by simp)) (j z (by simp)) h1)
 case range t x=>exact(QS A J (j x (by simp)) q).next
 case next x isS=>exact(KI A (j x (by simp)) q).next
 case extract x i=>
  obtain⟨e,h1,B⟩:=yP q;cases B;exact(X8 A (j x (by simp)) h1).next
 case call c=>
  split at q
  ·rename_i b T;have hr:yD M ρ (c.args.toList.map (yC fr)) (c.args.map a.eval).toList:=by
    rw[Array.toList_map];exact pn hf (List.all_eq_true.2 λz K=>List.all_eq_true.1 H z (by simp[Op.operands,Call.operands,T];simpa using K))
   have:=WH (P:=P) (ty:=ty) (cs:=c.args.map fun| .const _=>true|_=>false) A J hr q
   obtain⟨V,v,X,M',Y,k⟩:=this;refine⟨V,v,X,M',Y,?_,k.2⟩;rw[<-k.1];simp only[resolve,T,Sem.run_bind,Sem.run_pure,Result.andThen_ok,invoke];rfl
  ·cases q
end
def rT (ρ:Ren) (n:Nat):Prop:=∀i,n<=i->ρ i=none
def Ret (w0:Base) (G:List Nat) (M:Imm) (ρ:Ren) (Q:D->Heap->Prop) (e:Ending) (w':World):Prop:=
 ∃v M' ρ' d h',e= .returned v/\MLe M M'/\RLe ρ ρ'/\Sim w0 G M' ρ' h' w'/\rT ρ' h'.next/\rel M' ρ' d v/\Q d h'
def wu (P:Program) (g:FuncId):Bool:=
 match P.funcs[g]? with
 |some fn=>fn.body.isSome&&fn.name != "runtime.NumGoroutine"
 |none=>false
noncomputable def nM:String:=String.ofList [Char.ofNat 105,Char.ofNat 110,Char.ofNat 116,Char.ofNat 101,Char.ofNat 114,Char.ofNat 110,Char.ofNat 97,Char.ofNat 108,Char.ofNat 47,Char.ofNat 115,Char.ofNat 116,Char.ofNat 114,Char.ofNat 99,Char.ofNat 111,Char.ofNat 110,Char.ofNat 118,Char.ofNat 46,Char.ofNat 117,Char.ofNat 105,Char.ofNat 110,Char.ofNat 116,Char.ofNat 54,Char.ofNat 52,Char.ofNat 112,Char.ofNat 111,Char.ofNat 119,Char.ofNat 49,Char.ofNat 48]
noncomputable def gS:String:=String.ofList [Char.ofNat 105,Char.ofNat 110,Char.ofNat 116,Char.ofNat 101,Char.ofNat 114,Char.ofNat 110,Char.ofNat 97,Char.ofNat 108,Char.ofNat 47,Char.ofNat 98,Char.ofNat 121,Char.ofNat 116,Char.ofNat 101,Char.ofNat 97,Char.ofNat 108,Char.ofNat 103,Char.ofNat 46,Char.ofNat 77,Char.ofNat 97,Char.ofNat 120,Char.ofNat 76,Char.ofNat 101,Char.ofNat 110]
def QT (P:Program) (w:World):Prop:=(∀g,P.globalNamed nM=some g->Lib.TabIs P w nM .u64 Lib.pow10Tab)/\∀g,P.globalNamed gS=some g->∃m,w.cell? ⟨g,0,none⟩ =some (.int .i64 m)
def Zy (P:Program) (w0:Base):Prop:=(∀g,P.globalNamed nM=some g->w0.keep g/\Lib.TabIs P w0.toWorld nM .u64 Lib.pow10Tab)/\∀g,P.globalNamed gS=some g->w0.keep g/\∃m,w0.toWorld.cell? ⟨g,0,none⟩ =some (.int .i64 m)
variable {P:Program}{w w':World}{n id nid j i sz k:Nat}{x d y z:D}{vx vy v:Value}{vs:List Value}{M M':Imm}{ρ ρ':Ren}{u T t:TypeId}{ob:Obj}{l:Loc}{h' h h0:Heap}{fr:Frm}{α β:Type}{ds args:List D}{o:Oper}{I:List Nat}{bk:Nat->Bool}{m b:Bool}{ev:Operand->D}{K Q:D->Heap->Prop}{tmps va:Array Value}{U S0:Nat->Prop}{f:FuncId}
def Zy.here {w0:Base} (b:Zy P w0) (c:Kept w0 w) {g:Nat} (h:P.globalNamed nM=some g):Lib.TabIs P w nM .u64 Lib.pow10Tab:=by
 obtain⟨h1,a⟩:=b.1 g h;unfold Lib.TabIs World.var? at a⊢;rw[h] at a⊢;simp only[Option.bind_some] at a⊢;rw[c.block g h1];exact a
def Zy.max {w0:Base} (b:Zy P w0) (c:Kept w0 w) {g:Nat} (h:P.globalNamed gS=some g):∃m,w.cell? ⟨g,0,none⟩ =some (.int .i64 m):=by
 obtain⟨h1,m,a⟩:=b.2 g h;refine⟨m,?_⟩;unfold World.cell? at a⊢;rw[c.block g h1];exact a
def Zy.base {w0:Base} (c:Zy P w0) (e:Kept w0 w) {K:Nat->Prop} {a:∀b,K b->b<w.heap.size} (d:∀b,w0.keep b->K b):Zy P ⟨w,M,K,a⟩:=by
 refine⟨λg h=> ?_,λg h=> ?_⟩
 ·exact⟨d g (c.1 g h).1,c.here e h⟩
 ·exact⟨d g (c.2 g h).1,c.max e h⟩
def Zy.start (h:QT P w) {d:∀b,b<w.heap.size->b<w.heap.size} :Zy P ⟨w,M,λb=>b<w.heap.size,d⟩:=by
 refine⟨λg e=> ?_,λg e=> ?_⟩
 ·have a:=h.1 g e;refine⟨?_,a⟩;unfold Lib.TabIs World.var? at a;rw[e] at a;simp only[Option.bind_some] at a;split at a
  ·rename_i f;exact(Array.getElem?_eq_some_iff.1 f).1
  ·cases a
 ·obtain⟨m,c⟩:=h.2 g e;refine⟨?_,m,c⟩;unfold World.cell? at c;simp only at c;split at c
  ·rename_i f;exact(Array.getElem?_eq_some_iff.1 f).1
  ·cases c
def zA (P:Program) (g:FuncId) (args:List D) (h:Heap) (Q:D->Heap->Prop):Prop:=
 wu P g=true/\∀w0 G M ρ w va,Zy P w0->Sim w0 G M ρ h w->rT ρ h.next->yD M ρ args va.toList->Calls P g va w (Ret w0 G M ρ Q)
def yo (P:Program) (id:Nat) (args:List D) (h:Heap) (Q:D->Heap->Prop):Prop:=
 ∀w0 G M ρ w va l,Zy P w0->Sim w0 G M ρ h w->rT ρ h.next->yD M ρ args va.toList->ρ id=some l->
  ∃f tmps as body,(Instr.yield l.blk va).run P w= .ok (.round l.blk f tmps as body) w/\RoundIn Fence.wide 0 P l.blk f tmps as body w (Ret w0 G M ρ Q)
def kX (P:Program) (f:D) (args:List D) (h:Heap) (Q:D->Heap->Prop):Prop:=
 match f with
 | .fn g first cap=>match g with
  | .func g=>zA P g (first++args++cap) h Q
  |_=>False
 | .yld id=>yo P id args h Q
 |_=>False
def Ret.mono {w0:Base} {Q a:D->Heap->Prop} {e:Ending} (b:∀d h,Q d h->a d h):Ret w0 I M ρ Q e w'->Ret w0 I M ρ a e w'
 | ⟨v,M',c,d,h',k1,k2,k3,k4,k5,k6,k7⟩=>⟨v,M',c,d,h',k1,k2,k3,k4,k5,k6,b _ _ k7⟩
def zA.mono {g:FuncId} {Q a:D->Heap->Prop} (k:zA P g args h Q) (c:∀d h,Q d h->a d h):zA P g args h a:=
 ⟨k.1,λw0 G M ρ w e h0 h1 b h3=>(k.2 w0 G M ρ w e h0 h1 b h3).mono λ_ _=>Ret.mono c⟩
def yo.mono {g:Nat} {Q c:D->Heap->Prop} (k:yo P g args h Q) (j:∀d h,Q d h->c d h):yo P g args h c:=
 λw0 G M ρ w m l h0 h1 e h3 i=>let ⟨f,t,a,b,k1,k2⟩:=k w0 G M ρ w m l h0 h1 e h3 i;⟨f,t,a,b,k1,k2.mono λ_ _=>Ret.mono j⟩
def kX.mono {f:D} {Q a:D->Heap->Prop} (b:∀d h,Q d h->a d h) (k:kX P f args h Q):kX P f args h a:=by
 cases f<;>simp only[kX] at k⊢
 case fn g first cap=>
  cases g<;>simp only at k⊢;exact zA.mono k b
 case yld id=>exact yo.mono k b
def yz (o:Op):Option (Operand×List Operand):=
 match o with
 | .call c=>match c.callee with
  | .value f=>some (f,c.args.toList)
  |_=>none
 |_=>none
def wE (P:Program) (mu:Bool) (nid:Nat) (o:Op) (ev:Operand->D) (h:Heap) (K:D->Heap->Prop):Prop:=
 match yz o with
 |some (f,args)=>kX P (ev f) (args.map ev) h K
 |none=>match vop P mu nid o ev h with
  |some (d,h')=>K d h'
  |none=>False
def qA (ops:Array Oper) (fr:Frm) (g:Option (Nat×Bool)):Bool:=
 match g with
 |none=>true
 |some (j,want)=>match(ops[j]?).bind (·.dst) with
  |some t=>match fr t with
   | .bool b=>b==want
   |_=>false
  |none=>false
def tP (fr:Frm) (dst:Option Tmp) (d:D):Frm:=
 match dst with
 |some t=>λi=>if i=t then d else fr i
 |none=>fr
def lR (mu:Tmp->Bool):Option Tmp->Bool
 |some t=>mu t
 |none=>false
def HLe (h h':Heap):Prop:=∀i ob,h.at' i=some ob->h'.at' i=some ob
def KJ (P:Program) (h0:Heap) (o:Op) (ev:Operand->D) (d:D):Prop:=∀h',HLe h0 h'->wE P false h'.next o ev h' λd' h''=>d'=d/\h''=h'
def Ty (P:Program) (h0:Heap) (o:Op) (ev:Operand->D) (S:D->Prop):Prop:=∀h',HLe h0 h'->wE P false h'.next o ev h' λd' h''=>S d'/\h''=h'
inductive Fl where
 |no|st|sq|qu|al (k:Nat)
def Fl.isSt:Fl->Bool
 | .st=>true
 | .sq=>true
 |_=>false
def Fl.isS1:Fl->Bool
 | .st=>true
 |_=>false
def Fl.isSq:Fl->Bool
 | .sq=>true
 |_=>false
def Fl.isQu:Fl->Bool
 | .qu=>true
 |_=>false
def Fl.isNo:Fl->Bool
 | .no=>true
 |_=>false
def Fl.isAl:Fl->Bool
 | .al _=>true
 |_=>false
def ux (P:Program) (mu:Tmp->Bool) (h0:Heap) (st:Fl) (ops:Array Oper) (o:Oper) (fr:Frm) (h:Heap) (k:D->Heap->Prop):Prop:=
 match qA ops fr o.guard with
 |false=>k wO h
 |true=>match st with
  | .st=>∃d,KJ P h0 o.op (yC fr) d/\k d h
  | .sq=>(yz o.op).isSome=true/\∃S:D->Prop,(∃e,S e)/\Ty P h0 o.op (yC fr) S/\∀d,S d->k d h
  | .no=>wE P (lR mu o.dst) h.next o.op (yC fr) h k
  | .qu=>wE P (lR mu o.dst) h.next o.op (yC fr) h λd h'=>h'=h/\k d h
  | .al i=>wE P (lR mu o.dst) (h0.next+i) o.op (yC fr) h k
def dY (P:Program) (mu:Tmp->Bool) (ops:Array Oper):List Oper->(Frm->Heap->Prop)->Frm->Heap->Prop
 | [],K,fr,h=>K fr h
 |o::rest,K,fr,h=>
  match qA ops fr o.guard with
  |true=>wE P (lR mu o.dst) h.next o.op (yC fr) h λd h'=>dY P mu ops rest K (tP fr o.dst d) h'
  |false=>dY P mu ops rest K (tP fr o.dst wO) h
def tH (P:Program) (mu:Tmp->Bool) (h0:Heap) (bk:Nat->Bool) (ops:Array Oper):Bool->List (Nat×Fl)->(Frm->Heap->Prop)->Frm->Heap->Prop
 |_,[],K,fr,h=>K fr h
 |fl,(i,st)::rest,K,fr,h=>
  match ops[i]? with
  |none=>False
  |some o=>ux P mu h0 st ops o fr h λd h'=>((fl&& !bk i)=true->HLe h0 h')/\tH P mu h0 bk ops (fl&& !bk i) rest K (tP fr o.dst d) h'
def alN:List (Nat×Fl)->Nat
 | []=>0
 |x::rest=>match x.2 with
  | .al k=>max (k+1) (alN rest)
  |_=>alN rest
def Heap.bump (h:Heap) (m:Nat):Heap:= { next:=h.next+m,at':=h.at' }
def o8 (P:Program) (mu:Tmp->Bool) (h0:Heap) (bk:Nat->Bool) (ops:Array Oper) (fl:Bool) (l:List (Nat×Fl)) (K:Frm->Heap->Prop) (fr:Frm) (h:Heap):Prop:=
 match alN l with
 |0=>tH P mu h0 bk ops fl l K fr h
 |m+1=>h0.next=h.next/\tH P mu h0 bk ops fl l K fr (h.bump (m+1))
def n9 {mu:Tmp->Bool} {ops:Array Oper} {fl:Bool} {l:List (Nat×Fl)} {K:Frm->Heap->Prop} (a:alN l=0):o8 P mu h0 bk ops fl l K fr h=tH P mu h0 bk ops fl l K fr h:=by
 unfold o8;rw[a]
def QU {mu:Tmp->Bool} {ops:Array Oper} {fl:Bool} {l:List (Nat×Fl)} {K:Frm->Heap->Prop} {m:Nat} (a:alN l=m+1):o8 P mu h0 bk ops fl l K fr h=(h0.next=h.next/\tH P mu h0 bk ops fl l K fr (h.bump (m+1))):=by
 unfold o8;rw[a]
section
variable {P:Program} {mu:Tmp->Bool} {h0:Heap} {ops:Array Oper}
def sM {o:Op} {K a:D->Heap->Prop} (b:∀d h,K d h->a d h) (k:wE P m nid o ev h K):wE P m nid o ev h a:=by
 unfold wE at k⊢;split at k
 ·exact kX.mono b k
 ·split at k
  ·exact b _ _ k
  ·exact k
def nN {st:Fl} {K b:D->Heap->Prop} (a:∀d h,K d h->b d h) (k:ux P mu h0 st ops o fr h K):ux P mu h0 st ops o fr h b:=by
 unfold ux at k⊢;split at k
 ·exact a _ _ k
 ·split at k
  ·obtain⟨d,k1,k2⟩:=k;exact⟨d,k1,a _ _ k2⟩
  ·obtain⟨k0,S,k1,k2,k3⟩:=k;exact⟨k0,S,k1,k2,λd q=>a _ _ (k3 d q)⟩
  ·exact sM a k
  ·exact sM (λd h' c=>⟨c.1,a _ _ c.2⟩) k
  ·exact sM a k
def QV {o:Op} {ev d:Operand->D} (f:∀x∈o.operands.toList,ev x=d x):vop P m nid o ev h=vop P m nid o d h:=by
 have a:∀e:Array (Nat×Operand),(∀p∈e.toList,ev p.2=d p.2)->(e.toList.map λp=>(p.1,ev p.2))=(e.toList.map λp=>(p.1,d p.2)):=λe i=>
  List.map_congr_left λp q=>by rw[i p q]
 cases o<;>simp only[Op.operands] at f<;>simp only[vop]
 case build t e=>rw[a e λp i=>f p.2 (by simp;exact⟨p.1,by simpa using i⟩)]
 case buildSlice t n e=>rw[a e λp i=>f p.2 (by simp;exact⟨p.1,by simpa using i⟩)]
 case makeFunc g x y=>
  rw[List.map_congr_left (l:=x.toList) λz j=>f z (by simp;exact .inl (by simpa using j)),List.map_congr_left (l:=y.toList) λz j=>f z (by simp;exact .inr (by simpa using j))]
 case call c=>
  split
  ·rename_i b k;rw[List.map_congr_left (l:=c.args.toList) λz j=>f z (by simp[Call.operands,k];simpa using j)]
  ·rfl
 case slice t x lo hi mx=>cases lo<;>cases hi<;>cases mx<;>simp_all
 all_goals(first|rfl|(simp_all;done)|(simp only[List.mem_cons,List.not_mem_nil,or_false,forall_eq_or_imp,forall_eq] at f;simp_all;done))
def lS {o:Op} {ev b:Operand->D} (d:∀x∈o.operands.toList,ev x=b x):wE P m nid o ev h K=wE P m nid o b h K:=by
 unfold wE;rw[QV d];split
 ·rename_i f args a;unfold yz at a;split at a
  ·rename_i c;split at a
   ·rename_i g e;cases a;rw[d f (by simp[Op.operands,Call.operands,e]),List.map_congr_left (l:=c.args.toList) λz i=>d z (by simp[Op.operands,Call.operands,e];first|exact .inl (by simpa using i)|exact .inr (by simpa using i))]
   ·cases a
  ·cases a
 ·rfl
def KK {dst:Option Tmp} {x:Operand} (h:∀t,dst=some t->x≠ .tmp t):yC (tP fr dst d) x=yC fr x:=by
 cases dst with
 |none=>rfl
 |some t=>
  cases x with
  |tmp u=>
   have:u≠t:=λe=>h t rfl (e▸rfl);simp[yC,tP,this]
  |_=>rfl
def WI {dst:Option Tmp} (h:∀t,dst=some t->t∉o.looksAt ops):qA ops (tP fr dst d) o.guard=qA ops fr o.guard:=by
 cases dst with
 |none=>rfl
 |some t=>
  unfold qA;cases f:o.guard with
  |none=>rfl
  |some c=>
   obtain⟨g,b⟩:=c;simp only;cases i:(ops[g]?).bind (·.dst) with
   |none=>rfl
   |some u=>
    have a:u≠t:=λe=>h t rfl (by subst e;simp[Oper.looksAt,f,i]);simp[tP,a]
def QW {dst:Option Tmp} (h:∀t,dst=some t->t∉o.looksAt ops):∀x∈o.op.operands.toList,yC (tP fr dst d) x=yC fr x:=λx c=>
 KK λt b a=>h t b (by
  subst a;exact List.mem_append_left _ (List.mem_filterMap.2 ⟨.tmp t,by simpa using c,rfl⟩))
def Tz {o:Op} {ev a:Operand->D} (b:∀x∈o.operands.toList,ev x=a x):KJ P h0 o ev d=KJ P h0 o a d:=by
 unfold KJ;simp only[lS b]
def WJ {o:Op} {ev a:Operand->D} {S:D->Prop} (b:∀x∈o.operands.toList,ev x=a x):Ty P h0 o ev S=Ty P h0 o a S:=by
 unfold Ty;simp only[lS b]
def tW {st:Fl} {dst:Option Tmp} (a:∀t,dst=some t->t∉o.looksAt ops):ux P mu h0 st ops o (tP fr dst d) h K=ux P mu h0 st ops o fr h K:=by
 unfold ux;rw[WI a];simp only[Tz (QW a),WJ (QW a),lS (QW a)]
def QX {x y:Option Tmp} {d e:D} (h:∀t,x=some t->y≠some t):tP (tP fr x d) y e=tP (tP fr y e) x d:=by
 cases x with
 |none=>rfl
 |some t=>
  cases y with
  |none=>rfl
  |some u=>
   have a:t≠u:=λc=>h t rfl (c▸rfl)
   funext i
   simp only[tP];by_cases h1:i=t
   ·have b:i≠u:=λe=>a (h1.symm.trans e);rw[ip h1,iq b,ip h1]
   ·rw[iq h1,iq h1]
def wU (P:Program) (m:Bool) (o:Op):Bool:=
 match o with
 | .move _| .assign _| .pick _ _ _| .build _ _| .nilCheck _| .binOp _ _ _ _ _| .unOp _ _ _| .makeFunc _ _ _| .fieldAddr _ _ _| .field _ _ _| .indexAddr _ _ _| .index _ _ _| .extract _ _| .makeInterface _ _=>true
 | .convert s _ _=> !zBP P s
 | .box _ _| .buildSlice _ _ _| .makeSlice _ _ _=> !m
 | .slice t _ _ _ _=>(cJ P t).isNone
 | .call c=>match c.callee with
  | .builtin .len| .builtin .min| .builtin .max| .builtin .unsafeSliceData=>true
  |_=>false
 |_=>false
def tX (P:Program) (o:Op):Bool:=
 match o with
 | .load _ _| .lookup _ _ _ _| .slice _ _ _ _ _=>true
 |_=>false
variable {P:Program}
def Zz {s d:TypeId} (b:zBP P s=false):∃r:Option D,∀h,np P s d x h=r:=by
 cases x with
 |ptr id off=>
  refine⟨none,λh=> ?_⟩;unfold np;simp only;split
  ·unfold QB;split
   ·split
    ·split
     ·rename_i t a;simp[zBP,a] at b
     ·rename_i a;simp[zBP,a] at b
     ·rfl
    ·rfl
   ·rfl
  ·rfl
 |_=>exact⟨_,λ_=>rfl⟩
def t8 {o:Op} (e:wU P m o=true):∃r:Option D,∀nid h,vop P m nid o ev h=r.map (·,h):=by
 have ite:∀ (c:Prop) [Decidable c] (d:D),∃r:Option D,∀ (nid:Nat) (h:Heap),(if c then some (d,h) else none)=r.map (·,h):=λc _ d=>by
  by_cases f:c
  ·exact⟨some d,λ_ h=>by rw[ip f];rfl⟩
  ·exact⟨none,λ_ h=>by rw[iq f];rfl⟩
 cases o<;>simp only[wU] at e<;>(try (cases e;done))<;>simp only[vop]
 case move x=>exact⟨some (ev x),λ_ _=>rfl⟩
 case assign x=>exact⟨some (ev x),λ_ _=>rfl⟩
 case pick c a b=>
  split
  ·exact⟨some _,λ_ _=>rfl⟩
  ·exact⟨some _,λ_ _=>rfl⟩
  ·exact⟨none,λ_ _=>rfl⟩
 case convert s d x=>
  obtain⟨r,hr⟩:=Zz (P:=P) (s:=s) (d:=d) (x:=ev x) (by simpa using e);exact⟨r,λ_ h=>by rw[hr]⟩
 case box t x=>
  cases m with
  |true=>cases e
  |false=>simpa using ite _ _
 case buildSlice t n ps=>
  cases m with
  |true=>cases e
  |false=>
   unfold zI;split
   ·exact⟨none,λ_ _=>rfl⟩
   ·split
    ·exact⟨none,λ_ _=>rfl⟩
    ·dsimp only
     split
     ·split
      ·exact⟨none,λ_ _=>rfl⟩
      ·exact⟨some _,λ_ _=>rfl⟩
     ·exact⟨none,λ_ _=>rfl⟩
 case makeSlice t l c=>
  cases m with
  |true=>cases e
  |false=>
   unfold qP;split
   ·split
    ·dsimp only
     split
     ·exact⟨some _,λ_ _=>rfl⟩
     ·exact⟨none,λ_ _=>rfl⟩
    ·exact⟨none,λ_ _=>rfl⟩
   ·exact⟨none,λ_ _=>rfl⟩
 case makeFunc g x y=>
  split
  ·exact⟨some _,λ_ _=>rfl⟩
  ·exact⟨none,λ_ _=>rfl⟩
 case makeInterface t x=>exact ite _ _
 case slice t x lo hi mx=>
  have j:cJ P t=none:=by simpa using e
  exact⟨_,λ_ _=>by rw[yh,j]⟩
 case call c=>
  split
  ·rename_i b i;rw[i] at e;unfold tn;cases b<;>simp only at e<;>(try (cases e;done))
   ·dsimp only
    split
    ·split
     ·exact⟨_,λ_ _=>rfl⟩
     ·exact⟨none,λ_ _=>rfl⟩
    ·exact⟨none,λ_ _=>rfl⟩
   ·dsimp only
    split
    ·exact⟨_,λ_ _=>rfl⟩
    ·exact⟨none,λ_ _=>rfl⟩
   ·dsimp only
    split
    ·exact⟨_,λ_ _=>rfl⟩
    ·exact⟨none,λ_ _=>rfl⟩
   ·dsimp only
    split
    ·split
     ·split
      ·split
       ·exact⟨none,λ_ _=>rfl⟩
       ·exact⟨some _,λ_ _=>rfl⟩
       ·exact⟨none,λ_ _=>rfl⟩
      ·exact⟨some _,λ_ _=>rfl⟩
      ·exact⟨none,λ_ _=>rfl⟩
     ·exact⟨none,λ_ _=>rfl⟩
    ·exact⟨none,λ_ _=>rfl⟩
  ·exact⟨none,λ_ _=>rfl⟩
 all_goals exact⟨_,λ_ _=>rfl⟩
def gT {o:Op} (a:tX P o=true):∃r:Heap->Option D,∀nid h,vop P m nid o ev h=(r h).map (·,h):=by
 cases o<;>simp only[tX] at a<;>(try (cases a;done))<;>simp only[vop]
 ·exact⟨λh=>_,λ_ _=>rfl⟩
 ·exact⟨λh=>_,λ_ _=>rfl⟩
 ·exact⟨λh=>_,λ_ _=>rfl⟩
def su {o:Op} (a:wU P m o=true):yz o=none:=by
 cases o<;>simp only[wU] at a<;>(try (cases a;done))<;>simp only[yz]
 rename_i c;split
 ·rename_i f hf;rw[hf] at a;cases a
 ·rfl
def gU {o:Op} (a:tX P o=true):yz o=none:=by
 cases o<;>simp only[tX] at a<;>(try (cases a;done))<;>rfl
end
section
variable {P:Program} {mu:Tmp->Bool} {h0:Heap} {ops:Array Oper}
def clo (ops:Array Oper):Nat->Nat->Nat->Bool
 |0,_,_=>false
 |n+1,i,j=>match ops[i]? with
  |none=>false
  |some o=>o.after.any λe=>Region.binds .any e&&(e.on==j||clo ops n e.on j)
def aH:Op->Bool
 | .alloc _=>true
 |_=>false
def Z0 (P:Program) (mu:Tmp->Bool) (j i:Fl) (oj oi:Oper):Bool:=
 match j with
 | .al k=>aH oj.op&&(i.isS1||wU P (lR mu oi.dst) oi.op||(match i with
  | .al k'=>aH oi.op&&k !=k'
  |_=>false))
 |_=>false
def Vj (j i:Fl) (oi:Oper):Bool:=j.isSq&&i.isNo&&(yz oi.op).isNone
def o9 (P:Program) (mu:Tmp->Bool) (ops:Array Oper) (j i:Nat×Fl):Bool:=
 match ops[j.1]?,ops[i.1]? with
 |some oj,some oi=>oj.apart ops oi&&(j.2.isS1||wU P (lR mu oj.dst) oj.op||(j.2.isNo&&tX P oj.op&&(i.2.isS1||i.2.isQu||wU P (lR mu oi.dst) oi.op||tX P oi.op))||Z0 P mu j.2 i.2 oj oi||Vj j.2 i.2 oi)
 |_,_=>false
def aI (P:Program) (mu:Tmp->Bool) (ops:Array Oper):List (Nat×Fl)->Bool
 | []=>true
 |j::rest=>rest.all (λi=>clo ops ops.size i.1 j.1||o9 P mu ops j i)&&aI P mu ops rest
def aJ (ops:Array Oper):List (Nat×Fl)->Bool
 | []=>true
 |j::rest=>(match ops[j.1]? with
  |none=>false
  |some o=>o.after.all λe=> !Region.binds .any e||(decide (e.on<ops.size)&&e.on !=j.1&&rest.all λi=>e.on !=i.1))&&aJ ops rest
def QY (ms:List Nat) (i:Nat) (o:Oper):Nat:=o.after.toList.foldl (λa e=>if Region.binds .any e&&decide (e.on<i) then a |||(ms.getD (i-1-e.on) 0 |||2^e.on) else a) 0
def jK:List Oper->Nat->List Nat->List Nat
 | [],_,ms=>ms
 |o::rest,i,ms=>jK rest (i+1) (QY ms i o::ms)
def Z1 (P:Program) (ms:List Nat) (n:Nat) (mu:Tmp->Bool) (ops:Array Oper):List (Nat×Fl)->Bool
 | []=>true
 |j::rest=>rest.all (λi=>(decide (i.1<n)&&Nat.testBit (ms.getD (n-1-i.1) 0) j.1)||o9 P mu ops j i)&&Z1 P ms n mu ops rest
def Lq (P:Program) (mu:Tmp->Bool) (ops:Array Oper) (l:List (Nat×Fl)) (ms:List Nat) (i:Nat):Bool:=
 match ops[i]? with
 |none=>false
 |some o=> !wU P (lR mu o.dst) o.op&& !tX P o.op&&l.all λj=>(!j.2.isSt||(j.1 !=i&&(decide (i<ops.size)&&Nat.testBit (ms.getD (ops.size-1-i) 0) j.1)))&&(j.1 !=i|| !j.2.isAl)
def zCP (ops:Array Oper) (l:List (Nat×Fl)):Bool:=
 match alN l with
 |0=>true
 |_+1=>ops.toList.all (λo=>(yz o.op).isNone)&&l.all λx=>l.all λy=>match x.2 with
  | .al k=>match y.2 with
   | .al k'=>k !=k'||x.1==y.1
   |_=>true
  |_=>true
def QZ (P:Program) (mu:Tmp->Bool) (ops:Array Oper) (l:List (Nat×Fl)):Bool:=
 (List.range ops.size).all (λi=>(l.map (·.1)).contains i)&&l.length==ops.size&&decide ((l.map (·.1)).Nodup)&&Z1 P (jK ops.toList 0 []) ops.size mu ops l&&aJ ops l&&zCP ops l
theorem jd:∀ {n m i j:Nat},n<=m->clo ops n i j=true->clo ops m i j=true
 |0,_,_,_,_,h=>by simp[clo] at h
 |n+1,0,_,_,c,_=>by omega
 |n+1,m+1,i,j,c,h=>by
  simp only[clo] at h⊢;split at h
  ·cases h
  ·simp only[Array.any_eq_true',Bool.and_eq_true,Bool.or_eq_true] at h⊢;obtain⟨e,b,a,h⟩:=h;exact⟨e,b,a,h.imp id (jd ow)⟩
theorem Z2 {c:α->Bool} {f:α->Nat} :∀ (l:List α) (a:Nat),Nat.testBit (l.foldl (λa e=>if c e then a |||f e else a) a) j=true->Nat.testBit a j=true\/∃e∈l,c e=true/\Nat.testBit (f e) j=true
 | [],a,h=> .inl h
 |e::l,a,h=>by
  rw[List.foldl_cons] at h;rcases Z2 l _ h with h| ⟨b,h1,d⟩
  ·split at h
   ·rename_i g;rw[Nat.testBit_or,Bool.or_eq_true] at h;rcases h with h|h
    ·exact .inl h
    ·exact .inr ⟨e,by simp,g,h⟩
   ·exact .inl h
  ·exact .inr ⟨b,by simp[h1],d⟩
theorem lT:∀ (rest pre:List Oper) (ms:List Nat),ops.toList=pre++rest->ms.length=pre.length->(∀k,k<pre.length->∀j,Nat.testBit (ms.getD (pre.length-1-k) 0) j=true->clo ops (k+1) k j=true)->
  ∀k,k<ops.size->∀j,Nat.testBit ((jK rest pre.length ms).getD (ops.size-1-k) 0) j=true->clo ops (k+1) k j=true
 | [],pre,ms,g,p,a,k,d,j,h=>by
  have r:ops.size=pre.length:=by rw[<-Array.length_toList,g];simp
  rw[r] at h d;exact a k d j h
 |o::rest,pre,ms,g,p,a,k,d,j,h=>by
  have q:ops[pre.length]? =some o:=by rw[<-Array.getElem?_toList,g];simp
  simp only[jK] at h;have b:(pre++ [o]).length=pre.length+1:=by simp
  refine lT rest (pre++ [o]) (QY ms pre.length o::ms) (by rw[g];simp) (by rw[b,List.length_cons,p]) (λk' l n h'=> ?_) k d j (by rw[b];exact h);rw[b] at l h';by_cases m:k'=pre.length
  ·subst m;rw[show pre.length+1-1-pre.length=0 by omega,List.getD_cons_zero,QY] at h';rcases Z2 (c:=λe=>Region.binds .any e&&decide (e.on<pre.length)) (f:=λe=>ms.getD (pre.length-1-e.on) 0 |||2^e.on) (j:=n) o.after.toList 0 h' with h'| ⟨e,h1,i,h3⟩
   ·simp at h'
   ·simp only[Bool.and_eq_true,decide_eq_true_eq] at i;simp only[clo,q,Array.any_eq_true',Bool.and_eq_true,Bool.or_eq_true,beq_iff_eq];refine⟨e,by simpa using h1,i.1,?_⟩;rw[Nat.testBit_or,Bool.or_eq_true] at h3;rcases h3 with h3|h3
    ·exact .inr (jd ow (a e.on i.2 n h3))
    ·rw[Nat.testBit_two_pow] at h3;exact .inl (by simpa using h3)
  ·rw[show pre.length+1-1-k'=(pre.length-1-k')+1 by omega,List.getD_cons_succ] at h';exact a k' ow n h'
theorem cR (a:∀k,k<ops.size->∀j,Nat.testBit (I.getD (ops.size-1-k) 0) j=true->clo ops (k+1) k j=true):∀ (l:List (Nat×Fl)),Z1 P I ops.size mu ops l=true->aI P mu ops l=true
 | [],_=>rfl
 |j::rest,h=>by
  simp only[Z1,aI,Bool.and_eq_true,List.all_eq_true,Bool.or_eq_true,decide_eq_true_eq] at h⊢;refine⟨λi c=> ?_,cR a rest h.2⟩;rcases h.1 i c with⟨h1,b⟩ |h1
  ·exact .inl (jd ow (a i.1 h1 j.1 b))
  ·exact .inr h1
def T0 {l:List (Nat×Fl)} (h:Z1 P (jK ops.toList 0 []) ops.size mu ops l=true):aI P mu ops l=true:=
 cR (λk a j b=>lT ops.toList [] [] rfl rfl (λk a=>by simp at a) k a j b) l h
def aK {st:Fl} {k:D->Heap->Prop} (b:(st.isS1||wU P (lR mu o.dst) o.op)=true) (a:ux P mu h0 st ops o fr h k):
  ∃d,k d h/\∀ (h':Heap) (k':D->Heap->Prop),k' d h'->ux P mu h0 st ops o fr h' k':=by
 unfold ux at a⊢;split at a
 ·exact⟨_,a,λh' k' c=>by simpa using c⟩
 ·cases st with
  |st=>
   obtain⟨d,k1,k2⟩:=a;exact⟨d,k2,λh' k' c=>⟨d,k1,c⟩⟩
  |sq=>
   simp only[Fl.isS1,Bool.false_or] at b;rw[su b] at a;cases a.1
  |no=>
   simp only[Fl.isS1,Bool.false_or] at b;simp only at a⊢;unfold wE at a⊢;rw[su b] at a⊢;obtain⟨r,hr⟩:=t8 (P:=P) (ev:=yC fr) b;simp only[hr] at a⊢;cases r with
   |none=>exact a.elim
   |some d=>exact⟨d,a,λh' k' c=>c⟩
  |qu=>
   simp only[Fl.isS1,Bool.false_or] at b;simp only at a⊢;unfold wE at a⊢;rw[su b] at a⊢;obtain⟨r,hr⟩:=t8 (P:=P) (ev:=yC fr) b;simp only[hr] at a⊢;cases r with
   |none=>exact a.elim
   |some d=>exact⟨d,a.2,λh' k' c=>⟨rfl,c⟩⟩
  |al i=>
   simp only[Fl.isS1,Bool.false_or] at b;simp only at a⊢;unfold wE at a⊢;rw[su b] at a⊢;obtain⟨r,hr⟩:=t8 (P:=P) (ev:=yC fr) b;simp only[hr] at a⊢;cases r with
   |none=>exact a.elim
   |some d=>exact⟨d,a,λh' k' c=>c⟩
def Lr (i:Nat):Option Obj->Heap->Heap
 |none,h=>h
 |some o,h=>h.new i o
def Qa (c:i≠j) (x y:Option Obj) (h:Heap):Lr i x (Lr j y h)=Lr j y (Lr i x h):=by
 cases x with
 |none=>rfl
 |some a=>
  cases y with
  |none=>rfl
  |some b=>
   simp only[Lr,Heap.new,Heap.mk.injEq];refine⟨by omega,?_⟩
   funext k
   by_cases h1:k=i
   ·by_cases d:k=j
    ·exact absurd (h1.symm.trans d) c
    ·simp[h1,c]
   ·simp[h1]
variable {h0:Heap}
def HLe.newO {x:Option Obj} (g:h0.at' i=none) (d:HLe h0 h):HLe h0 (Lr i x h):=by
 intro k f b;cases x with
 |none=>exact d k f b
 |some a=>
  have c:k≠i:=λe=>by rw[e,g] at b;cases b
  simp only[V.Lr,Heap.new,c,if_false];exact d k f b
def HLe.of_newO {x:Option Obj} (f:h0.at' i=none) (d:HLe h0 (V.Lr i x h)):HLe h0 h:=by
 intro k g b;have:=d k g b;cases x with
 |none=>exact this
 |some a=>
  have c:k≠i:=λe=>by rw[e,f] at b;cases b
  simpa only[V.Lr,Heap.new,c,if_false] using this
def CV {k:D->Heap->Prop} (e:aH o.op=true) (a:ux P mu h0 (.al i) ops o fr h k):
  ∃d x,k d (Lr (h0.next+i) x h)/\∀ (h':Heap) (k':D->Heap->Prop),k' d (Lr (h0.next+i) x h')->ux P mu h0 (.al i) ops o fr h' k':=by
 unfold ux at a⊢;split at a
 ·exact⟨_,none,a,λh' k' b=>by simpa [Lr] using b⟩
 ·simp only at a⊢;unfold wE at a⊢;obtain⟨dst,op,ty,pos,after,gd⟩:=o;cases op<;>simp only[aH] at e<;>(try (cases e;done))
  simp only[yz,vop] at a⊢;cases f:qK P _ with
  |none=>rw[f] at a;exact a.elim
  |some z=>
   rw[f] at a;simp only at a⊢;cases c:z.notTuple with
   |false=>rw[c] at a;exact a.elim
   |true=>
    rw[c] at a;exact⟨_,some (lO _ z.cells),a,λh' k' b=>by simpa [Lr] using b⟩
def zCQ {k k':D->Heap->Prop} (b:∀d,k d h->k' d h) (a:ux P mu h0 .qu ops o fr h k):ux P mu h0 .qu ops o fr h k':=by
 unfold ux at a⊢;split at a
 ·exact b _ a
 ·exact sM (λd h' c=>⟨c.1,b _ c.2⟩) a
def zCR {k k':D->Heap->Prop} (b:∀d,k d h->k' d h) (a:ux P mu h0 .sq ops o fr h k):ux P mu h0 .sq ops o fr h k':=by
 unfold ux at a⊢;split at a
 ·exact b _ a
 ·exact⟨a.1,a.2.imp λS x=>⟨x.1,x.2.1,λd q=>b _ (x.2.2 d q)⟩⟩
def Qb {k:D->Heap->Prop} (e:tX P o.op=true) (a:ux P mu h0 .no ops o fr h k):
  ∃d,k d h/\∀ (k':D->Heap->Prop),k' d h->ux P mu h0 .no ops o fr h k':=by
 unfold ux at a⊢;split at a
 ·exact⟨_,a,λk' b=>by simpa using b⟩
 ·simp only at a⊢;unfold wE at a⊢;rw[gU e] at a⊢;obtain⟨r,hr⟩:=gT (P:=P) (m:=lR mu o.dst) (ev:=yC fr) e;simp only[hr] at a⊢;cases c:r h with
  |none=>rw[c] at a;exact a.elim
  |some d=>rw[c] at a;exact⟨d,a,λk' b=>b⟩
def T3 {k:D->Heap->Prop} (e:tX P o.op=true) (a:ux P mu h0 (.al i) ops o fr h k):
  ∃d,k d h/\∀ (k':D->Heap->Prop),k' d h->ux P mu h0 (.al i) ops o fr h k':=by
 unfold ux at a⊢;split at a
 ·exact⟨_,a,λk' b=>by simpa using b⟩
 ·simp only at a⊢;unfold wE at a⊢;rw[gU e] at a⊢;obtain⟨r,hr⟩:=gT (P:=P) (m:=lR mu o.dst) (ev:=yC fr) e;simp only[hr] at a⊢;cases c:r h with
  |none=>rw[c] at a;exact a.elim
  |some d=>rw[c] at a;exact⟨d,a,λk' b=>b⟩
def Qc {k:D->Heap->Prop} :ux P mu h0 .sq ops o fr h k↔(qA ops fr o.guard=false/\k wO h)\/(qA ops fr o.guard=true/\(yz o.op).isSome=true/\∃S:D->Prop,(∃e,S e)/\Ty P h0 o.op (yC fr) S/\∀d,S d->k d h):=by
 unfold ux;cases qA ops fr o.guard<;>simp
def CW {k:D->Heap->Prop} (c:yz o.op=none) (a:ux P mu h0 .no ops o fr h k):
  ∃d h',k d h'/\∀k',ux P mu h0 .no ops o fr h k'↔k' d h':=by
 unfold ux at a⊢;split at a
 ·exact⟨_,_,a,λk'=>by simp⟩
 ·simp only at a⊢;unfold wE at a⊢;rw[c] at a⊢;simp only at a⊢;cases b:vop P (lR mu o.dst) h.next o.op (yC fr) h with
  |none=>rw[b] at a;exact a.elim
  |some x=>rw[b] at a;exact⟨x.1,x.2,a,λk'=>Iff.rfl⟩
theorem GT {A fl2:Bool} (r:fl2=true->A=true) {j i:Nat×Fl} (hz:j.2.isAl=true->∀k,h0.at' (h0.next+k)=none) {p l:Oper} (hj:ops[j.1]? =some p) (Z:ops[i.1]? =some l) (v:o9 P mu ops j i=true) {X:Frm->Heap->Prop}
  (s:ux P mu h0 j.2 ops p fr h λe h'=>(A=true->HLe h0 h')/\ux P mu h0 i.2 ops l (tP fr p.dst e) h' λd c=>(fl2=true->HLe h0 c)/\X (tP (tP fr p.dst e) l.dst d) c):
  ux P mu h0 i.2 ops l fr h λd h'=>(fl2=true->HLe h0 h')/\ux P mu h0 j.2 ops p (tP fr l.dst d) h' λe c=>(fl2=true->HLe h0 c)/\X (tP (tP fr l.dst d) p.dst e) c:=by
 unfold o9 at v;rw[hj,Z] at v;simp only[Bool.and_eq_true] at v;obtain⟨G,v⟩:=v;obtain⟨z,U,q⟩:=Oper.apart_spec G;have F:∀t,p.dst=some t->l.dst≠some t:=U;have go:∀d e c,((fl2=true->HLe h0 c)/\X (tP (tP fr p.dst e) l.dst d) c)->(fl2=true->HLe h0 c)/\X (tP (tP fr l.dst d) p.dst e) c:=λd e c o=>by
  rw[QX F] at o;exact o
 by_cases n:Vj j.2 i.2 l=true
 ·unfold Vj at n;simp only[Bool.and_eq_true,Option.isNone_iff_eq_none] at n;obtain⟨⟨R,T⟩,q3⟩:=n;have I:i.2= .no:=by
   cases m:i.2<;>rw[m] at T<;>first|rfl|cases T
  have u:j.2= .sq:=by
   cases m:j.2<;>rw[m] at R<;>first|rfl|cases R
  rw[I,u] at s⊢;rcases Qc.1 s with⟨H,s⟩ | ⟨H,k0,S,⟨K,B⟩,W,M⟩
  ·rw[tW z] at s;refine nN (λd h' o=>⟨o.1,?_⟩) s.2;rw[tW q];exact Qc.2 (.inl ⟨H,go _ _ _ o⟩)
  ·have C:=(M K B).2;rw[tW z] at C;obtain⟨d,h1,V,L⟩:=CW q3 C;rw[L];refine⟨V.1,?_⟩;rw[tW q];refine Qc.2 (.inr ⟨H,k0,S,⟨K,B⟩,W,λe Y=> ?_⟩);have D:=(M e Y).2;rw[tW z,L] at D;exact go _ _ _ D
 by_cases N:(j.2.isS1||wU P (lR mu p.dst) p.op)=true
 ·obtain⟨e,⟨k1,k2⟩,k3⟩:=aK N s;rw[tW z] at k2;refine nN (λd h' o=>⟨o.1,?_⟩) k2;rw[tW q];exact k3 _ _ (go _ _ _ o)
 ·by_cases f:Z0 P mu j.2 i.2 p l=true
  ·obtain⟨jn,jf⟩:=j;obtain⟨ad,O⟩:=i;unfold Z0 at f;cases jf<;>simp only at f<;>(try (cases f;done))
   rename_i kj;simp only[Bool.and_eq_true] at f;obtain⟨p1,Q⟩:=f;have w:=hz rfl;obtain⟨e,x,⟨k1,k2⟩,k3⟩:=CV p1 s;rw[tW z] at k2;by_cases b:(O.isS1||wU P (lR mu l.dst) l.op)=true
   ·obtain⟨d,k4,k5⟩:=aK b k2;refine k5 h _ ⟨λe=>HLe.of_newO (w _) (k4.1 e),?_⟩;rw[tW q];exact k3 _ _ (go _ _ _ k4)
   ·rw[Bool.or_eq_true] at Q;have E:=Q.resolve_left b;cases O<;>simp only at E<;>(try (cases E;done))
    rename_i ki;simp only[Bool.and_eq_true,bne_iff_ne,ne_eq] at E;obtain⟨d,y,k4,k5⟩:=CV E.1 k2;rw[Qa (λe=>E.2 ow)] at k4;refine k5 h _ ⟨λe=>HLe.newO (w _) (HLe.of_newO (w _) (k1 (r e))),?_⟩;rw[tW q];exact k3 _ _ (go _ _ _ k4)
  have g:(j.2.isNo&&tX P p.op&&(i.2.isS1||i.2.isQu||wU P (lR mu l.dst) l.op||tX P l.op))=true:=by
   rw[Bool.or_eq_true,Bool.or_eq_true,Bool.or_eq_true] at v;exact((v.resolve_right n).resolve_right f).resolve_left N
  simp only[Bool.and_eq_true] at g;obtain⟨⟨a,J⟩,g⟩:=g;have u:j.2= .no:=by
   cases m:j.2 with
   |no=>rfl
   |st=>rw[m] at a;cases a
   |sq=>rw[m] at a;cases a
   |qu=>rw[m] at a;cases a
   |al k=>rw[m] at a;cases a
  rw[u] at s⊢;obtain⟨e,⟨k1,k2⟩,k3⟩:=Qb J s;rw[tW z] at k2;by_cases b:(i.2.isS1||wU P (lR mu l.dst) l.op)=true
  ·obtain⟨d,k4,k5⟩:=aK b k2;refine k5 h _ ⟨λe=>k1 (r e),?_⟩;rw[tW q];exact k3 _ (go _ _ _ k4)
  ·cases m:i.2 with
   |st=>rw[m] at b;exact absurd rfl b
   |sq=>
    rw[m] at k2;refine zCR (λd o=>⟨o.1,?_⟩) k2;rw[tW q];exact k3 _ (go _ _ _ o)
   |qu=>
    rw[m] at k2;refine zCQ (λd o=>⟨o.1,?_⟩) k2;rw[tW q];exact k3 _ (go _ _ _ o)
   |no=>
    rw[m] at k2;have hr:tX P l.op=true:=by
     rw[m] at g b;simp only[Fl.isS1,Fl.isQu,Bool.false_or,Bool.or_eq_true] at g b;exact g.resolve_left b
    obtain⟨d,k4,k5⟩:=Qb hr k2;refine k5 _ ⟨λe=>k1 (r e),?_⟩;rw[tW q];exact k3 _ (go _ _ _ k4)
   |al ki=>
    rw[m] at g b;simp only[Fl.isS1,Fl.isQu,Bool.false_or,Bool.or_eq_true] at g b;have hr:=g.resolve_left b;rw[m] at k2;obtain⟨d,k4,k5⟩:=T3 hr k2;refine k5 _ ⟨λe=>k1 (r e),?_⟩;rw[tW q];exact k3 _ (go _ _ _ k4)
def Qd {l:List (Nat×Fl)} {y:Nat×Fl} (h:y∈l) (c:Lq P mu ops l I y.1=true) (x:Nat×Fl):o9 P mu ops y x=false:=by
 unfold Lq at c;unfold o9;cases m:ops[y.1]? with
 |none=>rfl
 |some o=>
  rw[m] at c;simp only[Bool.and_eq_true,Bool.not_eq_true',List.all_eq_true,Bool.or_eq_true,bne_iff_ne,ne_eq,decide_eq_true_eq] at c;obtain⟨⟨i,j⟩,d⟩:=c;have e:y.2.isSt=false:=by
   rcases(d y h).1 with b|b
   ·exact b
   ·exact absurd rfl b.1
  have f:y.2.isAl=false:=by
   rcases(d y h).2 with b|b
   ·exact absurd rfl b
   ·exact b
  cases ops[x.1]? with
  |none=>rfl
  |some n=>
   have k:Z0 P mu y.2 x.2 o n=false:=by
    unfold Z0;cases a:y.2<;>simp only;rw[a] at f;cases f
   have g:y.2.isS1=false/\y.2.isSq=false:=by
    cases a:y.2<;>rw[a] at e<;>first|exact⟨rfl,rfl⟩ |cases e
   simp[i,j,g.1,g.2,Vj,k]
def KL {l:List (Nat×Fl)} {z:Nat×Fl} (a:Lq P mu ops l (jK ops.toList 0 []) i=true) (e:z∈l) (c:z.2.isSt=true):clo ops ops.size i z.1=true:=by
 unfold Lq at a;split at a
 ·cases a
 ·simp only[Bool.and_eq_true,Bool.not_eq_true',List.all_eq_true,Bool.or_eq_true,bne_iff_ne,ne_eq,decide_eq_true_eq] at a;rcases(a.2 z e).1 with b|b
  ·rw[c] at b;cases b
  ·exact jd ow (lT ops.toList [] [] rfl rfl (λk d=>by simp at d) i b.2.1 z.1 b.2.2)
theorem Ig {i:Nat×Fl} {n:Oper} {o:List (Nat×Fl)} {K:Frm->Heap->Prop} (m:ops[i.1]? =some n):∀ (fl:Bool) (f:List (Nat×Fl)) (fr:Frm) (h:Heap),(∀j∈f,o9 P mu ops j i=true/\bk j.1=false/\(j.2.isAl=true->∀k,h0.at' (h0.next+k)=none))->
  tH P mu h0 bk ops fl (f++i::o) K fr h->ux P mu h0 i.2 ops n fr h λd h'=>((fl&& !bk i.1)=true->HLe h0 h')/\tH P mu h0 bk ops (fl&& !bk i.1) (f++o) K (tP fr n.dst d) h'
 |fl,[],fr,h,_,a=>by
  obtain⟨i,s⟩:=i;simp only[List.nil_append,tH] at a;rw[m] at a;exact a
 |fl,(j,s)::f,fr,h,l,a=>by
  simp only[List.cons_append,tH] at a;cases g:ops[j]? with
  |none=>rw[g] at a;exact a.elim
  |some r=>
   rw[g] at a;have b:bk j=false:=(l (j,s) (by simp)).2.1;simp only[b,Bool.not_false,Bool.and_true] at a;have h1:=nN (λe h' c=>And.intro c.1 (Ig m fl f (tP fr r.dst e) h' (λk q=>l k (by simp[q])) c.2)) a;have p:=GT (fl2:=fl&& !bk i.1) (λe=>by simp only[Bool.and_eq_true] at e;exact e.1) (j:=(j,s)) (l (j,s) (by simp)).2.2 g m (l (j,s) (by simp)).1 h1;refine nN (λd h' c=>⟨c.1,?_⟩) p;simp only[List.cons_append,tH,g,b,Bool.not_false,Bool.and_true];exact c.2
theorem cS {listed:Array Bool} (a:∀k o,ops[k]? =some o->listed.getD k true=true->∀e∈o.after,Region.binds .any e=true->listed.getD e.on false=true):
  ∀ (n i j:Nat) (o:Oper),ops[i]? =some o->(∀e∈o.after,Region.binds .any e=true->listed.getD e.on false=true)->clo ops n i j=true->listed.getD j false=true
 |0,_,_,_,_,_,h=>by simp[clo] at h
 |n+1,i,j,o,m,p,h=>by
  simp only[clo,m,Array.any_eq_true',Bool.and_eq_true,Bool.or_eq_true,beq_iff_eq] at h;obtain⟨e,l,g,h⟩:=h;have h1:=p e (by simpa using l) g;rcases h with h|h
  ·rw[<-h];exact h1
  ·cases b:ops[e.on]? with
   |none=>
    cases n with
    |zero=>simp[clo] at h
    |succ n=>simp[clo,b] at h
   |some d=>
    have f:listed.getD e.on true=true:=by
     by_cases c:e.on<listed.size
     ·simpa [c] using h1
     ·simp[c]
    exact cS a n e.on j d b (a e.on d b f) h
end
def qp (h:Heap) (i:Nat) (o:Obj):h.next<=(h.new i o).next:=Nat.le_max_left _ _
variable {P:Program}{h0:Heap}
def aL {e:TypeId} {s d:D} {ys:List D} (a:qf P m nid e sz k s ys h=some (d,h')):h.next<=h'.next:=by
 unfold qf at a;split at a
 ·split at a
  ·cases a;exact Nat.le_refl _
  ·split at a
   ·split at a<;>(cases a;exact qp _ _ _)
   ·cases a
 ·split at a
  ·split at a
   ·cases a
   ·split at a
    ·cases a;exact Nat.le_refl _
    ·split at a<;>(cases a;exact qp _ _ _)
   ·split at a
    ·split at a
     ·cases a
     ·cases a;exact qp (h.del _) _ _
    ·cases a
  ·cases a
 ·split at a
  ·split at a
   ·split at a
    ·cases a;exact qp (h.del _) _ _
    ·cases a
   ·split at a
    ·cases a
    ·split at a
     ·cases a;exact qp (h.del _) _ _
     ·cases a
   ·cases a
  ·cases a
 ·cases a
def kY {s x d:D} (a:zu P m nid t s x h=some (d,h')):h.next<=h'.next:=by
 unfold zu at a;split at a
 ·cases a
 ·split at a
  ·split at a
   ·cases a
   ·exact aL a
  ·cases a
def Z3 (s x:D) (h:Heap):(qY s x h).next=h.next:=by
 unfold qY;split
 ·split
  ·rfl
  ·split
   ·split<;>rfl
   ·rfl
 ·rfl
def aM {s x d:D} (a:tj P m nid t s x h=some (d,h')):h.next<=h'.next:=by
 unfold tj at a;split at a
 ·rw[<-Z3 s x h];exact kY a
 ·exact kY a
def gV {s x d:D} (a:tm P m nid t u s x h=some (d,h')):∃o,h'=h.new nid o:=by
 unfold tm at a;split at a
 ·split at a
  ·split at a
   ·split at a
    ·split at a
     ·split at a
      ·split at a
       ·cases a;exact⟨_,rfl⟩
       ·cases a
      ·cases a
     ·cases a
    ·cases a
   ·cases a
  ·cases a
 ·cases a
def aN {s x d:D} (a:tm P m nid t u s x h=some (d,h')):h.next<=h'.next:=by
 obtain⟨o,rfl⟩:=gV a;exact qp _ _ _
def mC (a:rP P t x y h=some (d,h')):(∃id,x= .ptr id 0/\h'=h.del id)\/(x= .nilptr/\h'=h):=by
 unfold rP at a;split at a
 ·split at a
  ·split at a
   ·split at a
    ·split at a
     ·unfold jY at a;split at a
      ·split at a
       ·split at a
        ·cases a;exact .inl ⟨_,rfl,rfl⟩
        ·cases a
       ·cases a
      ·cases a
     ·cases a
    ·cases a
   ·split at a
    ·split at a
     ·cases a;exact .inr ⟨rfl,rfl⟩
     ·cases a
    ·cases a
   ·cases a
  ·cases a
 ·cases a
def po (a:yV P t x y z h=some h'):h.next<=h'.next:=by
 unfold yV at a;split at a
 ·cases a
 ·split at a
  ·split at a
   ·split at a
    ·split at a
     ·split at a
      ·cases a;exact Nat.le_refl _
      ·cases a
     ·cases a
    ·cases a
   ·cases a
  ·cases a
def Z4 (a:o6 P t x h=some h'):h'=h\/(∃id sz off n cs,x= .rs id sz off n/\h'=h.set id (.row cs))\/∃id,x= .map id/\h'=h.set id (.map []):=by
 unfold o6 at a;split at a
 ·split at a<;>cases a;exact .inl rfl
 ·split at a
  ·split at a<;>cases a;exact .inl rfl
  ·cases a
 ·split at a
  ·cases a
  ·split at a
   ·cases a
   ·split at a
    ·cases a;exact .inl rfl
    ·split at a
     ·split at a
      ·split at a
       ·cases a;exact .inr (.inl ⟨_,_,_,_,_,rfl,rfl⟩)
       ·cases a
      ·cases a
     ·cases a
 ·split at a
  ·split at a
   ·cases a;exact .inr (.inr ⟨_,rfl,rfl⟩)
   ·cases a
  ·cases a
 ·cases a
def WM (a:o6 P t x h=some h'):h.next<=h'.next:=by
 rcases Z4 a with rfl| ⟨_,_,_,_,_,_,rfl⟩ | ⟨_,_,rfl⟩ <;>exact Nat.le_refl _
def Vk (a:df x b h=some (d,h')):h'=h\/∃id off o,x= .ptr id off/\h'=h.set id o:=by
 unfold df at a;split at a
 ·split at a
  ·split at a
   ·split at a
    ·split at a
     ·cases a;exact .inr ⟨_,_,_,rfl,rfl⟩
     ·cases a
    ·cases a;exact .inl rfl
   ·cases a
  ·cases a
 ·cases a
def Z5 (a:kR P nid t x h=some (d,h')):∃o,h'=h.new nid o:=by
 unfold kR at a;split at a
 ·split at a
  ·cases a;exact⟨_,rfl⟩
  ·cases a
 ·cases a
def Vl {o:Op} (a:vop P m nid o ev h=some (d,h')):h.next<=h'.next:=by
 by_cases i:wU P m o=true
 ·obtain⟨r,hr⟩:=t8 (P:=P) (ev:=ev) i;rw[hr] at a;obtain⟨e,_,f⟩:=yP a;cases f;exact Nat.le_refl _
 ·by_cases g:tX P o=true
  ·obtain⟨r,hr⟩:=gT (P:=P) (m:=m) (ev:=ev) g;rw[hr] at a;obtain⟨e,_,f⟩:=yP a;cases f;exact Nat.le_refl _
  ·cases o<;>simp only[wU,tX] at i g<;>simp only[vop] at a<;>(try (exact absurd rfl i;done))<;>(try (exact absurd trivial i;done))<;>(try (exact absurd rfl g;done))<;>(try (exact absurd trivial g;done))<;>(try (cases a;done))
   case convert s d x=>
    obtain⟨e,_,f⟩:=yP a;cases f;exact Nat.le_refl _
   case alloc t=>
    split at a
    ·split at a
     ·cases a;exact qp _ _ _
     ·cases a
    ·cases a
   case box t x=>
    split at a
    ·split at a
     ·cases a;exact qp _ _ _
     ·cases a;exact Nat.le_refl _
    ·cases a
   case buildSlice t n ps=>
    unfold zI at a;split at a
    ·cases a
    ·split at a
     ·cases a
     ·dsimp only at a
      split at a
      ·split at a
       ·cases a
       ·split at a
        ·cases a;exact qp _ _ _
        ·cases a;exact Nat.le_refl _
      ·cases a
   case store t x y=>
    obtain⟨e,h1,f⟩:=yP a;cases f;unfold zP at h1;split at h1
    ·split at h1
     ·split at h1
      ·cases h1;exact Nat.le_refl _
      ·cases h1
     ·split at h1
      ·cases h1;exact Nat.le_refl _
      ·cases h1
     ·cases h1
    ·cases h1
   case range t x=>obtain⟨o,rfl⟩:=Z5 a;exact qp _ _ _
   case next x b=>rcases Vk a with rfl| ⟨_,_,_,_,rfl⟩ <;>exact Nat.le_refl _
   case makeMap t r=>
    split at a
    ·cases a;exact qp _ _ _
    ·cases a
   case makeSlice t x y=>
    unfold qP at a;split at a
    ·split at a
     ·dsimp only at a
      split at a
      ·split at a
       ·cases a;exact qp _ _ _
       ·cases a;exact Nat.le_refl _
      ·cases a
     ·cases a
    ·cases a
   case mapUpdate t x y z=>
    obtain⟨e,h1,f⟩:=yP a;cases f;exact po h1
   case insert t x y z=>
    obtain⟨e,h1,f⟩:=yP a;cases f;exact po h1
   case call c=>
    split at a
    ·rename_i b j;unfold tn at a;cases b<;>simp only at a<;>(try (cases a;done))
     all_goals(try (rw[j] at i;exact absurd rfl i))
     ·split at a
      ·split at a
       ·split at a
        ·exact aM a
        ·exact aN a
       ·cases a
      ·cases a
     ·split at a
      ·split at a
       ·split at a
        ·split at a
         ·cases a;exact Nat.le_refl _
         ·cases a
        ·cases a
       ·cases a
      ·cases a
     ·split at a
      ·split at a
       ·obtain⟨e,h1,f⟩:=yP a;cases f;exact WM h1
       ·cases a
      ·cases a
     ·split at a
      ·split at a
       ·rcases mC a with⟨_,_,rfl⟩ | ⟨_,rfl⟩ <;>exact Nat.le_refl _
       ·cases a
      ·cases a
    ·cases a
def Fr (ro:Option Nat):Fence:= { fn:=λ_=>True,depth:=none,alive:=false,round:=ro }
structure Ctx (P:Program) where
 w0:Base
 G:List Nat
 M:Imm
 ρ:Ren
 good:Zy P w0
def Z6 (b:Nat):Deferred:= { target:= .collected b,args:= #[] }
def St {P:Program} (c:Ctx P) (ms:List Nat) (n:Nat) (fr:Frm) (h:Heap) (a:Act) (w:World):Prop:=
 ∃M ρ,MLe c.M M/\RLe c.ρ ρ/\Sim c.w0 (ms++c.G) M ρ h w/\rT ρ h.next/\cL M ρ fr a.tmps/\a.defers=ms.map Z6/\a.tmps.size=n
def dn (n:Nat):Option Tmp->Bool
 |some t=>decide (t<n)
 |none=>true
section
variable {P:Program} {mu:Tmp->Bool} {c:Ctx P} {ms:List Nat} {n:Nat} {fr:Frm} {h:Heap} {a:Act} {w:World} {Q:Exit->Act->World->Prop} {ro:Option Nat} {ops:Array Oper}
def je {t:Tmp} (hf:cL M ρ fr tmps) (hr:rel M ρ d v) (b:t<tmps.size):cL M ρ (tP fr (some t) d) (tmps.setIfInBounds t v):=by
 intro i;have a:=hf i;simp only[tP];by_cases h:i=t
 ·subst h;simp only[if_true]
  have:(tmps.setIfInBounds i v).getD i undef=v:=by simp[Array.getD,b]
  rw[this];exact hr
 ·simp only[h,if_false]
  have:(tmps.setIfInBounds t v).getD i undef=tmps.getD i undef:=by
   simp only[Array.getD_eq_getD_getElem?,Array.getElem?_setIfInBounds_ne (Ne.symm h)]
  rw[this];exact a
def rU (hM:MLe M M') (hr:RLe ρ ρ') (hf:cL M ρ fr tmps):cL M' ρ' fr tmps:=λi=>qU hM hr _ _ (hf i)
def St.put {dst:Option Tmp} (h:dn n dst=true) (h1:MLe c.M M) (e:RLe c.ρ ρ) (h3:Sim c.w0 (ms++c.G) M ρ h' w') (f:rT ρ h'.next) (h5:cL M ρ fr a.tmps)
  (g:a.defers=ms.map Z6) (b:a.tmps.size=n) (hr:rel M ρ d v):St c ms n (tP fr dst d) h' (a.put dst v) w':=by
 refine⟨M,ρ,h1,e,h3,f,?_,?_,?_⟩
 ·cases dst with
  |none=>exact h5
  |some t=>exact je h5 hr (by simpa [dn,b] using h)
 ·cases dst<;>exact g
 ·cases dst with
  |none=>exact b
  |some t=>simpa [Act.put] using b
def WN (hr:rel M ρ d (.bool b)):d= .bool b:=by
 cases d<;>simp only[rel] at hr
 case bool=>cases hr;rfl
 all_goals first
  |(cases hr;done)
  |(obtain⟨hr,_⟩:=hr;cases hr;done)
  |(obtain⟨_,hr,_⟩:=hr;cases hr;done)
  |(obtain⟨_,_,hr⟩:=hr;cases hr;done)
  |(obtain⟨_,_,hr,_⟩:=hr;cases hr;done)
  |(obtain⟨_,_,_,hr,_⟩:=hr;cases hr;done)
  |(obtain⟨_,_,_,_,_,⟨_,hr,_⟩,_⟩:=hr;cases hr;done)
  |(obtain⟨_,_,_,_,_,hr,_⟩:=hr;cases hr;done)
  |(obtain⟨_,_,_,_,_,_,hr,_⟩:=hr;cases hr;done)
def T4 (hf:cL M ρ fr a.tmps):Region.wanted o (yielded ops a.tmps)=qA ops fr o.guard:=by
 unfold Region.wanted qA;cases o.guard with
 |none=>rfl
 |some h=>
  obtain⟨g,f⟩:=h;simp only;unfold yielded;cases i:(ops[g]?).bind (·.dst) with
  |none=>rfl
  |some t=>
   simp only[Option.bind_some];have c:=hf t;rw[Array.getD_eq_getD_getElem?] at c;cases e:a.tmps[t]? with
   |none=>
    rw[e] at c;simp only[Option.getD_none] at c;cases d:fr t with
    |bool b=>rw[d] at c;simp only[rel,undef] at c;cases c
    |_=>rfl
   |some v=>
    rw[e] at c;simp only[Option.getD_some] at c;cases v with
    |bool b=>rw[WN c];simp[eq_comm]
    |_=>
     cases d:fr t with
     |bool b=>rw[d] at c;simp only[rel] at c;cases c
     |_=>rfl
def Z7 {g:FuncId} (a:wu P g=true):∃fn,P.funcs[g]? =some fn/\fn.body.isSome=true/\(fn.name== "runtime.NumGoroutine")=false:=by
 unfold wu at a;split at a
 ·rename_i fn b;simp only[Bool.and_eq_true,bne,Bool.not_eq_true'] at a;exact⟨fn,b,a.1,a.2⟩
 ·cases a
def kZ {g:FuncId} (d:wu P g=true) (args:Array Value) (w:World):(callFunc g args).run P w= .ok (.enter g args) w:=by
 obtain⟨fn,h1,a,h3⟩:=Z7 d;have e:(program).run P w= .ok P w:=rfl;have b:fn.body.isNone=false:=by cases c:fn.body<;>simp[c] at a⊢
 simp only[callFunc,Sem.run_bind,e,Result.andThen_ok,h1,h3,b,Bool.false_eq_true,if_false,Sem.run_pure]
def St.op {k:D->Heap->Prop} {I:Act->World->Prop} (hs:St c ms n fr h a w) (j:Tx o.op=true) (X:dn n o.dst=true) (b:wE P m h.next o.op (yC fr) h k)
  (N:∀d h' T p,St c ms n (tP fr o.dst d) h' T p->k d h'->I T p):o.wpIn (Fr ro) 0 P a w I Q:=by
 obtain⟨M,ρ,h1,U,h3,H,h5,V,W⟩:=hs;refine⟨λ_ _=>trivial,?_⟩;have O:∀c,o.op≠ .defer c:=by
  intro c e;unfold wE at b;rw[e] at b;simp[yz,vop] at b
 rw[Oper.semAt_eq _ _ _ O];unfold wE at b;split at b
 ·rename_i f args B;unfold yz at B;split at B
  ·rename_i A y;split at B
   ·rename_i f' u;cases B;have r:Ie f=true/\A.args.toList.all Ie=true:=by
     unfold Tx at j;rw[y] at j;simp only[Op.operands,Call.operands,u] at j;constructor
     ·exact List.all_eq_true.1 j f (by simp)
     ·exact List.all_eq_true.2 λz Z=>List.all_eq_true.1 j z (by simp;first|exact .inl (by simpa using Z)|exact .inr (by simpa using Z))
    have E:=n8 h5 r.1;have ra:yD M ρ (A.args.toList.map (yC fr)) (A.args.map a.eval).toList:=by rw[Array.toList_map];exact pn h5 r.2
    have post:∀e p,Ret c.w0 (ms++c.G) M ρ k e p->∃v,e= .returned v/\I (a.put o.dst v) p:=by
     rintro e p ⟨v,M',ρ',d,h',rfl,q1,q2,q3,q4,q5,q6⟩;exact⟨v,rfl,N d h' _ _ (St.put X (h1.trans q1) (U.trans q2) q3 q4 (rU q1 q2 h5) V W q5) q6⟩
    cases L:yC fr f<;>rw[L] at b E<;>simp only[kX] at b
    ·rename_i g first cap
     cases g<;>simp only at b;rename_i g;simp only[rel] at E;obtain⟨_,va,vc,J,R,S⟩:=E;have q:(execOp a.eval o).run P w= .ok (.enter g (va++A.args.map a.eval++vc)) w:=by
      simp only[execOp,y,resolve,u,J,Deferred.ofValue,Sem.run_bind,Sem.run_pure,Result.andThen_ok,invoke,kZ b.1]
     rw[q];refine⟨λe=>(by cases e),?_⟩;have t:=b.2 c.w0 (ms++c.G) M ρ w (va++A.args.map a.eval++vc) c.good h3 H (by simp only[Array.toList_append];exact qH (qH R ra) S);refine CallsIn.mono (F:=Fr ro) (n:=0-1) (callsIn_wide.2 t) λe p K=> ?_;obtain⟨v,rfl,x⟩:=post e p K;exact x
    ·rename_i id;simp only[rel] at E;obtain⟨l,hl,J⟩:=E;obtain⟨g,tmps,as,body,y1,y2⟩:=b c.w0 (ms++c.G) M ρ w (A.args.map a.eval) l c.good h3 H ra hl;have q:(execOp a.eval o).run P w= .ok (.round l.blk g tmps as body) w:=by
      simp only[execOp,y,resolve,u,J,Deferred.ofValue,Sem.run_bind,Sem.run_pure,Result.andThen_ok,invoke];simpa using y1
     rw[q];refine⟨λe=>(by cases e),?_⟩;refine RoundIn.mono (F:=Fr ro) (n:=0-1) y2 λe p K=> ?_;obtain⟨v,rfl,x⟩:=post e p K;exact x
   ·cases B
  ·cases B
 ·split at b
  ·rename_i d h' s;obtain⟨nx,v,p,M',ρ',k1,k2,k3,k4,k5,k6,k7⟩:=If h3 (H h.next (Nat.le_refl _)) h5 j s;have C:St c ms n (tP fr o.dst d) h' (a.put o.dst v) p:=by
    refine St.put X (h1.trans k3) (U.trans k4) k6 (λi Y=> ?_) (rU k3 k4 h5) V W k7;rw[k5 i (.inl Y)];exact H i (Nat.le_trans (Vl s) Y)
   rw[k1];rcases k2 with rfl| ⟨rfl,rfl⟩
   ·exact N d h' _ _ C b
   ·exact N d h' _ _ C b
  ·exact b.elim
end
open Bool(and_eq_true false_eq_true or_eq_true not_eq_true)
def T5 (n:Nat) (ops:Array Oper):Bool:=ops.toList.all λo=>Tx o.op&&dn n o.dst
section
variable {P:Program} {mu:Tmp->Bool} {c:Ctx P} {ms:List Nat} {n:Nat} {fr:Frm} {h h0:Heap} {a:Act} {w:World} {Q:Exit->Act->World->Prop} {ro:Option Nat} {ops:Array Oper} {fl:Bool} {K:Frm->Heap->Prop}
def gW (a:T5 n ops=true) (b:ops[i]? =some o):Tx o.op=true/\dn n o.dst=true:=by
 have:=all_eq_true.1 a o (by rw[<-Array.getElem?_toList] at b;exact mem_of_getElem? b);simpa using this
def St.skip {dst:Option Tmp} (g:dn n dst=true) (i:St c ms n fr h a w):St c ms n (tP fr dst wO) h (a.put dst undef) w:=by
 obtain⟨M,ρ,h1,b,h3,d,h5,e,f⟩:=i;exact St.put g h1 b h3 d h5 e f pk
def St.wanted (b:St c ms n fr h a w):Region.wanted o (yielded ops a.tmps)=qA ops fr o.guard:=by
 obtain⟨M,ρ,h1,d,h3,e,h5,f,g⟩:=b;exact T4 h5
theorem cT (b : T5 n ops = true) (j : ∀ fr h a w, St c ms n fr h a w -> K fr h -> Q .normal a w) : ∀ (rest pre : List Oper), ops.toList = pre ++ rest -> ∀ fr h a w, St c ms n fr h a w -> dY P mu ops rest K fr h ->
      wpOpsIn (Fr ro) 0 P ops Q (range' pre.length rest.length) a w
  | [], pre, _, fr, h, a, w, f, e => by
    simp only [length_nil, range'_zero, wpOpsIn];exact j _ _ _ _ f e
  | o :: rest, pre, k, fr, h, a, w, f, e => by
    have l : ops[pre.length]? = some o := by rw [<- Array.getElem?_toList, k]; simp
    obtain ⟨k1, k2⟩ := gW b l;have i := cT b j rest (pre ++ [o]) (by simp [k]);rw [length_append, length_singleton] at i;rw [length_cons, range'_succ];simp only [wpOpsIn, l, f.wanted];simp only [dY] at e;cases hg : qA ops fr o.guard with
    | true =>
      rw [hg] at e;simp only [if_true];exact St.op f k1 k2 e λd h' p q g m => i _ _ _ _ g m
    | false =>
      rw [hg] at e;simp only [false_eq_true, if_false];exact ⟨λ_ _ => trivial, i _ _ _ _ (f.skip k2) e⟩
def StU {P:Program} (c:Ctx P) (U:Nat->Prop) (ms:List Nat) (n:Nat) (fr:Frm) (h:Heap) (a:Act) (w:World):Prop:=
 ∃M ρ,MLe c.M M/\RLe c.ρ ρ/\Sim c.w0 (ms++c.G) M ρ h w/\rT ρ h.next/\cL M ρ fr a.tmps/\a.defers=ms.map Z6/\a.tmps.size=n/\∀i,U i->i<h.next/\ρ i=none
def StU.st (b:StU c U ms n fr h a w):St c ms n fr h a w:=
 let ⟨M,ρ,h1,h2,h3,h4,h5,h6,h7,_⟩:=b
 ⟨M,ρ,h1,h2,h3,h4,h5,h6,h7⟩
def St.stu (b:∀i,¬U i) (e:St c ms n fr h a w):StU c U ms n fr h a w:=
 let ⟨M,ρ,h1,h2,h3,h4,h5,h6,h7⟩:=e
 ⟨M,ρ,h1,h2,h3,h4,h5,h6,h7,λi d=>(b i d).elim⟩
def StU.less (b:∀i,S0 i->U i) (e:StU c U ms n fr h a w):StU c S0 ms n fr h a w:=
 let ⟨M,ρ,h1,h2,h3,h4,h5,h6,h7,h8⟩:=e
 ⟨M,ρ,h1,h2,h3,h4,h5,h6,h7,λi d=>h8 i (b i d)⟩
def StU.skip {dst:Option Tmp} (i:dn n dst=true) (j:StU c U ms n fr h a w):StU c U ms n (tP fr dst wO) h (a.put dst undef) w:=by
 obtain⟨M,ρ,h1,d,h3,e,h5,f,b,g⟩:=j;refine⟨M,ρ,h1,d,h3,e,?_,?_,?_,g⟩
 ·cases dst with
  |none=>exact h5
  |some t=>exact je h5 pk (by simpa [dn,b] using i)
 ·cases dst<;>exact f
 ·cases dst with
  |none=>exact b
  |some t=>simpa [Act.put] using b
def StU.op {k:D->Heap->Prop} {y:Act->World->Prop} (I:StU c U ms n fr h a w) (x:Tx o.op=true) (B:dn n o.dst=true) (G:yz o.op=none) (j:nid=h.next\/U nid) (b:wE P m nid o.op (yC fr) h k)
  (C:∀d h' z q,StU c (λi=>U i/\i≠nid) ms n (tP fr o.dst d) h' z q->k d h'->y z q):o.wpIn (Fr ro) 0 P a w y Q:=by
 obtain⟨M,ρ,h1,E,h3,A,h5,F,r,s⟩:=I;refine⟨λ_ _=>trivial,?_⟩;have u:∀c,o.op≠ .defer c:=by
  intro c e;unfold wE at b;rw[e] at b;simp[yz,vop] at b
 rw[Oper.semAt_eq _ _ _ u];unfold wE at b;rw[G] at b;simp only at b;split at b
 ·rename_i d h' f;have K:ρ nid=none:=by
   rcases j with rfl|J
   ·exact A _ (le_refl _)
   ·exact(s _ J).2
  obtain⟨N,v,q,M',L,k1,k2,k3,k4,k5,k6,k7⟩:=If h3 K h5 x f;have l:=Vl f;have p:StU c (λi=>U i/\i≠nid) ms n (tP fr o.dst d) h' (a.put o.dst v) q:=by
   refine⟨M',L,h1.trans k3,E.trans k4,k6,λi g=> ?_,?_,?_,?_,λi g=>⟨lt_of_lt_of_le (s i g.1).1 l,?_⟩⟩
   ·rw[k5 i (.inl g)];exact A i (le_trans l g)
   ·cases H:o.dst with
    |none=>exact rU k3 k4 h5
    |some t=>exact je (rU k3 k4 h5) k7 (by rw[H] at B;simpa [dn,r] using B)
   ·cases o.dst<;>exact F
   ·cases o.dst with
    |none=>exact r
    |some t=>simpa [Act.put] using r
   ·rw[k5 i (.inr g.2)];exact(s i g.1).2
  rw[k1];rcases k2 with rfl| ⟨rfl,rfl⟩
  ·exact C d h' _ _ p b
  ·exact C d h' _ _ p b
 ·exact b.elim
def GU (b:Nat) (l:List (Nat×Fl)) (i:Nat):Prop:=∃x∈l,∃k,x.2= .al k/\i=b+k
def StU.ux {st:Fl} {k:D->Heap->Prop} {x:Act->World->Prop} (r:StU c U ms n fr h a w) (b:ops[i]? =some o) (u:T5 n ops=true) (C:st.isSt=true->HLe h0 h) (s:yz o.op=none) (v:∀k,st= .al k->U (h0.next+k)) (g:ux P mu h0 st ops o fr h k)
  (t:∀d h' m p,StU c (λi=>U i/\∀k,st= .al k->i≠h0.next+k) ms n (tP fr o.dst d) h' m p->k d h'->x m p):wpOpIn (Fr ro) 0 P ops Q i x a w:=by
 obtain⟨k1,k2⟩:=gW u b;have q:∀i,U i->i<h.next:=λi b=>let ⟨_,_,_,_,_,_,_,_,_,h8⟩:=r;(h8 i b).1
 unfold wpOpIn;simp only[b,r.st.wanted];unfold V.ux at g;cases y:qA ops fr o.guard with
 |false=>
  rw[y] at g;simp only[false_eq_true,if_false];exact⟨λ_ _=>trivial,t _ _ _ _ ((r.skip k2).less λi b=>b.1) g⟩
 |true=>
  rw[y] at g;simp only[if_true];cases st with
  |no=>exact r.op k1 k2 s (.inl rfl) g λd h' m p f l=>t d h' m p (f.less λi b=>⟨b.1,λe=>Nat.ne_of_lt (q i b.1) e⟩) l
  |qu=>
   refine r.op k1 k2 s (.inl rfl) g λz h' m p f l=> ?_;obtain⟨rfl,l⟩:=l;exact t _ _ _ _ (f.less λi b=>⟨b.1,λe=>Nat.ne_of_lt (q i b.1) e⟩) l
  |st=>
   obtain⟨d,A,B⟩:=g;refine r.op k1 k2 s (.inl rfl) (A h (C rfl)) λz h' m p f l=> ?_;obtain⟨rfl,rfl⟩:=l;exact t _ _ _ _ (f.less λi b=>⟨b.1,λe=>Nat.ne_of_lt (q i b.1) e⟩) B
  |sq=>rw[s] at g;cases g.1
  |al j=>
   exact r.op k1 k2 s (.inr (v j rfl)) g λd h' m p f l=>t d h' m p (f.less λi b=>⟨b.1,b.2 j rfl⟩) l
def St.ux {st:Fl} {k:D->Heap->Prop} {u:Act->World->Prop} (g:St c ms n fr h a w) (t:st.isAl=false) (y:ops[i]? =some o) (p:T5 n ops=true) (z:st.isSt=true->HLe h0 h) (f:ux P mu h0 st ops o fr h k)
  (m:∀d h' l q,St c ms n (tP fr o.dst d) h' l q->k d h'->u l q):wpOpIn (Fr ro) 0 P ops Q i u a w:=by
 obtain⟨k1,k2⟩:=gW p y;unfold wpOpIn;simp only[y,g.wanted];unfold V.ux at f;cases x:qA ops fr o.guard with
 |false=>
  rw[x] at f;simp only[false_eq_true,if_false];exact⟨λ_ _=>trivial,m _ _ _ _ (g.skip k2) f⟩
 |true=>
  rw[x] at f;simp only[if_true];cases st with
  |no=>exact St.op g k1 k2 f m
  |qu=>
   refine St.op g k1 k2 f λv h' l q b e=> ?_;obtain⟨rfl,e⟩:=e;exact m _ _ _ _ b e
  |st=>
   obtain⟨d,r,s⟩:=f;refine St.op g k1 k2 (r h (z rfl)) λv h' l q b e=> ?_;obtain⟨rfl,rfl⟩:=e;exact m _ _ _ _ b s
  |sq=>
   obtain⟨_,S,_,r,s⟩:=f;refine St.op g k1 k2 (r h (z rfl)) λv h' l q b e=> ?_;obtain⟨e,rfl⟩:=e;exact m _ _ _ _ b (s _ e)
  |al j=>cases t
theorem Z8 {i:Nat×Fl} {d:List (Nat×Fl)} :∀ {b:List (Nat×Fl)},aI P mu ops (b++i::d)=true->aI P mu ops (b++d)=true/\∀j∈b,(clo ops ops.size i.1 j.1||o9 P mu ops j i)=true
 | [],a=>by
  simp only[nil_append,aI,and_eq_true] at a;exact⟨a.2,λj l=>by cases l⟩
 |j::b,a=>by
  simp only[cons_append,aI,and_eq_true,all_append,all_cons] at a⊢;obtain⟨⟨h1,g,h3⟩,h⟩:=a;obtain⟨e,f⟩:=Z8 h;exact⟨⟨⟨h1,h3⟩,e⟩,λk c=>by
   rcases mem_cons.1 c with rfl|c
   ·exact g
   ·exact f k c⟩
theorem Z9 {i:Nat×Fl} {d:List (Nat×Fl)} :∀ {b:List (Nat×Fl)},aJ ops (b++i::d)=true->aJ ops (b++d)=true
 | [],a=>by
  simp only[nil_append,aJ,and_eq_true] at a;exact a.2
 |j::b,a=>by
  simp only[cons_append,aJ,and_eq_true] at a⊢;refine⟨?_,Z9 a.2⟩;have h1:=a.1;cases c:ops[j.1]? with
  |none=>rw[c] at h1;cases h1
  |some o=>
   rw[c] at h1;simp only[Array.all_eq_true',or_eq_true,and_eq_true,all_append,all_cons] at h1⊢;intro e m;rcases h1 e m with g| ⟨⟨f,h⟩,k,_,l⟩
   ·exact .inl g
   ·exact .inr ⟨⟨f,h⟩,k,l⟩
def CX (h0:Heap) (ops:Array Oper) (l:List (Nat×Fl)):Prop:=
 (∀x∈l,x.2.isAl=false)\/((∀ (i:Nat) (o:Oper),ops[i]? =some o->yz o.op=none)/\(∀x∈l,∀y∈l,∀k,x.2= .al k->y.2= .al k->x.1=y.1)/\∀k,h0.at' (h0.next+k)=none)
def CX.less {l c:List (Nat×Fl)} (a:∀x∈c,x∈l):CX h0 ops l->CX h0 ops c
 | .inl h=> .inl λx b=>h x (a x b)
 | .inr ⟨h1,d,h3⟩=> .inr ⟨h1,λx b y e=>d x (a x b) y (a y e),h3⟩
theorem WO {bk : Nat -> Bool} (S : T5 n ops = true) (hK : ∀ fr h a w, St c ms n fr h a w -> K fr h -> Q .normal a w) : ∀ (fuel : Nat) (fl : Bool) (l : List (Nat × Fl)) (listed : Array Bool) (fr : Frm) (h : Heap) (a : Act) (w : World),
      l.length <= fuel -> (l.map (·.1)).Nodup -> (∀ i, i < ops.size -> (listed.getD i true = false ↔ i ∈ l.map (·.1))) -> listed.size = ops.size ->
      (∀ k o, ops[k]? = some o -> listed.getD k true = true -> ∀ e ∈ o.after, Region.binds .any e = true -> listed.getD e.on false = true) ->
      aI P mu ops l = true -> aJ ops l = true -> (fl = true -> HLe h0 h) -> (∀ x ∈ l, x.2.isSt = true -> fl = true) -> (∀ y ∈ l, bk y.1 = true -> ∀ x, o9 P mu ops y x = false) -> (∀ x ∈ l, bk x.1 = true -> ∀ z ∈ l, z.2.isSt = true -> clo ops ops.size x.1 z.1 = true) -> CX h0 ops l -> StU c (GU h0.next l) ms n fr h a w -> tH P mu h0 bk ops fl l K fr h ->
      wpAnyIn (Fr ro) 0 P .any ops Q fuel listed a w := by
  have t : ∀ (l : List (Nat × Fl)) (listed : Array Bool) (j : Nat × Fl) (l' : List (Nat × Fl)), l = j :: l' -> (∀ i, i < ops.size -> (listed.getD i true = false ↔ i ∈ l.map (·.1))) -> listed.size = ops.size -> aJ ops l = true -> j.1 ∈ Region.ready .any ops listed := by
    intro l listed j l' hl f u p;subst hl;simp only [aJ, and_eq_true] at p;have h1 := p.1;cases J : ops[j.1]? with
    | none => rw [J] at h1; cases h1
    | some o =>
      rw [J] at h1;have D : j.1 < ops.size := (Array.getElem?_eq_some_iff.1 J).1;refine mem_ready.2 ⟨(f j.1 D).2 (by simp), o, J, λe he V => ?_⟩;simp only [Array.all_eq_true', or_eq_true, Bool.not_eq_true', and_eq_true, decide_eq_true_eq] at h1;rcases h1 e he with g | ⟨⟨g1, g2⟩, g3⟩
      · rw [V] at g; cases g
      · have hn : ¬ (listed.getD e.on true = false) := λhf => by
          have N := (f e.on g1).1 hf;simp only [map_cons, mem_cons, mem_map] at N;rcases N with N | ⟨x, L, N⟩
          · rw [N] at g2; simp at g2
          · have := all_eq_true.1 g3 x L
            rw [N] at this; simp at this
        have au : e.on < listed.size := by omega
        simp [au] at hn ⊢;exact hn
  intro fuel
  induction fuel with
  | zero =>
    intro fl l listed fr h a w M ad f u s R p Z I W X m hs hv
    have : l = [] := length_eq_zero_iff.1 ow;subst this;refine ⟨?_, hK _ _ _ _ hs.st hv⟩;cases hr : Region.ready .any ops listed with
    | nil => rfl
    | cons i rs =>
      have Y : i ∈ Region.ready .any ops listed := by rw [hr]; simp
      obtain ⟨h1, o, H, _⟩ := mem_ready.1 Y;have := (f i (Array.getElem?_eq_some_iff.1 H).1).1 h1;simp at this
  | succ fuel ih =>
    intro fl l listed fr h a w M ad f u s R p Z I W X m hs hv;refine ⟨λhr => ?_, λi Y => ?_⟩
    · cases l with
      | nil => exact hK _ _ _ _ hs.st hv
      | cons j l' =>
        have := t _ listed j l' rfl f u p;rw [hr] at this; cases this
    · obtain ⟨h1, o, H, h3⟩ := mem_ready.1 Y
      have D := (Array.getElem?_eq_some_iff.1 H).1;have N := (f i D).1 h1;obtain ⟨x, L, rfl⟩ := mem_map.1 N;obtain ⟨v, G, rfl⟩ := append_of_mem L;obtain ⟨o1, o2⟩ := Z8 R;have O : ∀ j : Nat × Fl, j ∈ v ++ x :: G -> clo ops ops.size x.1 j.1 = true -> False := λj J g => by
        have hl := cS s ops.size x.1 j.1 o H h3 g;have B : j.1 < listed.size := by
          by_cases V : j.1 < listed.size
          · exact V
          · simp [V] at hl
        have hf := (f j.1 ow).2 (mem_map.2 ⟨j, J, rfl⟩);simp [B] at hl hf;rw [hl] at hf; cases hf
      have a5 : ∀ j ∈ v, o9 P mu ops j x = true /\ bk j.1 = false /\ (j.2.isAl = true -> ∀ k, h0.at' (h0.next + k) = none) := λj J => by
        have B : j ∈ v ++ x :: G := by simp [J]
        rcases or_eq_true _ _ ▸ o2 j J with g | g
        · exact (O j B g).elim
        · refine ⟨g, ?_⟩
          refine ⟨?_, λha => ?_⟩
          · cases A : bk j.1 with
            | false => rfl
            | true => rw [W j B A x] at g; cases g
          · rcases m with m | m
            · rw [m j B] at ha; cases ha
            · exact m.2.2
      have V := Ig H fl v fr h a5 hv;have E : ((v ++ G).map (·.1)).Nodup /\ x.1 ∉ (v ++ G).map (·.1) := by
        simp only [map_append, map_cons] at ad ⊢;have := (perm_middle (a := x.1) (l₁ := v.map (·.1)) (l₂ := G.map (·.1))).nodup_iff.1 ad;exact ⟨(nodup_cons.1 this).2, (nodup_cons.1 this).1⟩
      have b : ∀ y, y ∈ v ++ G -> y ∈ v ++ x :: G := λy r => by simp at r ⊢; rcases r with r | r <;> simp [r]
      have pick : ∀ {KC : Act -> World -> Prop}, (∀ d h' U w', StU c (GU h0.next (v ++ G)) ms n (tP fr o.dst d) h' U w' -> (((fl && !bk x.1) = true -> HLe h0 h') /\ tH P mu h0 bk ops (fl && !bk x.1) (v ++ G) K (tP fr o.dst d) h') -> KC U w') -> wpOpIn (Fr ro) 0 P ops Q x.1 KC a w := λC => by
        rcases m with m | ⟨m1, m2, m3⟩
        · exact St.ux hs.st (m x L) H S (λe => Z (I x L e)) V λd h' U w' F hq => C d h' U w' (F.stu λi Y => by
            obtain ⟨y, r, k, C, _⟩ := Y;have := m y (b y r);rw [C] at this; cases this) hq
        · exact StU.ux hs H S (λe => Z (I x L e)) (m1 _ _ H) (λk C => ⟨x, L, k, C, rfl⟩) V λd h' U w' F hq => C d h' U w' (F.less λi Y => by
            obtain ⟨y, r, k, C, rfl⟩ := Y;refine ⟨⟨y, b y r, k, C, rfl⟩, λk' a2 e => ?_⟩;have a3 : k = k' := by omega
            subst a3;exact E.2 (mem_map.2 ⟨y, r, m2 y (b y r) x L k C a2⟩)) hq
      refine pick λd h' U w' F hq => ?_;refine ih _ (v ++ G) _ _ _ _ _ (by simp at M ⊢; omega) E.1 (λk C => ?_) (by simpa using u) (λk ok ag ak e he ai => ?_) o1 (Z9 p) hq.1 (λy r a0 => ?_) (λy r => W y (b y r)) (λy r A z hz => X y (b y r) A z (b z hz)) (m.less b) F hq.2
      · by_cases hkx : k = x.1
        · subst hkx
          have : (listed.setIfInBounds x.1 true).getD x.1 true = true := by simp [u, D]
          rw [this];constructor
          · intro e; cases e
          · intro e; exact absurd e E.2
        · rw [getD_set_ne true (Ne.symm hkx), f k C]
          simp only [map_append, map_cons, mem_append, mem_cons];constructor
          · rintro (g | g | g)
            · exact .inl g
            · exact absurd g hkx
            · exact .inr g
          · rintro (g | g)
            · exact .inl g
            · exact .inr (.inr g)
      · have T : ∀ q, listed.getD q false = true -> (listed.setIfInBounds x.1 true).getD q false = true := λq a4 => by
          by_cases hqx : q = x.1
          · subst hqx; simp [u, D]
          · rw [getD_set_ne false (Ne.symm hqx)]; exact a4
        by_cases hkx : k = x.1
        · subst hkx
          rw [H] at ag; cases ag;exact T _ (h3 e he ai)
        · rw [getD_set_ne true (Ne.symm hkx)] at ak
          exact T _ (s k ok ag ak e he ai)
      · have a1 := I y (b y r) a0
        cases A : bk x.1 with
        | false => simp [a1]
        | true => exact (O y (b y r) (X x L A y (b y r) a0)).elim
end
structure Cfg where
 mu:Tmp->Bool
 dr:Nat->List (Nat×Fl)
def nO (K:Frm->Heap->Prop) (Q:Exit->Frm->Heap->Prop) (e:Exit) (fr:Frm) (h:Heap):Prop:=
 match e with
 | .normal=>K fr h
 |e=>Q e fr h
def mD (id:Nat) (Q:Exit->Frm->Heap->Prop) (e:Exit) (fr:Frm) (h:Heap):Prop:=
 match e with
 | .exit i=>if i=id then Q .normal fr h else Q (.exit i) fr h
 |e=>Q e fr h
def CY (Q:Exit->Frm->Heap->Prop) (e:Exit) (fr:Frm) (h:Heap):Prop:=
 match e with
 | .goto _=>False
 |e=>Q e fr h
def dp (p:Option Code) (Q:Exit->Frm->Heap->Prop) (fr:Frm) (h:Heap):Prop:=
 match p with
 |none=>Q .normal fr h
 |some c=>match c with
  | .ret=>Q .ret fr h
  | .exit i=>Q (.exit i) fr h
  |_=>False
def VFn (P:Program) (f:D) (args:List D) (h:Heap) (Q:D->Heap->Prop):Prop:=
 match f with
 | .fn g first cap=>match g with
  | .func g=>zA P g (first++args++cap) h Q
  |_=>False
 |_=>False
def vwp (P : Program) (g : Cfg) (n : Nat) (ro : Option Nat) : Code -> (Exit -> Frm -> Heap -> Prop) -> Frm -> Heap -> Prop
  | .skip, Q, fr, h => Q .normal fr h
  | .region id ops draw, Q, fr, h => match draw with
    | false => dY P g.mu ops ops.toList (Q .normal) fr h
    | true => ∃ h0, HLe h0 h /\ o8 P g.mu h0 (Lq P g.mu ops (g.dr id) (jK ops.toList 0 [])) ops ((g.dr id).any (·.2.isSt)) (g.dr id) (Q .normal) fr h
  | .seq a b, Q, fr, h => vwp P g n ro a (nO (vwp P g n ro b Q) Q) fr h
  | .cond c a b, Q, fr, h => match yC fr c with
    | .bool b' => match b' with
      | true => vwp P g n ro a Q fr h
      | false => vwp P g n ro b Q fr h
    | _ => False
  | .block id c, Q, fr, h => vwp P g n ro c (mD id Q) fr h
  | .exit id, Q, fr, h => Q (.exit id) fr h
  | .ret, Q, fr, h => Q .ret fr h
  | .label _, Q, fr, h => Q .normal fr h
  | .scope c, Q, fr, h => vwp P g n ro c (CY Q) fr h
  | .loop c, Q, fr, h => ∃ I : Nat -> Frm -> Heap -> Prop, (∃ k, I k fr h) /\ ∀ k fr h, I k fr h -> vwp P g n ro c (nO (λfr h => ∃ m, m < k /\ I m fr h) Q) fr h
  | .rangeFunc f ps as body, Q, fr, h =>
    (match ro with
     | none => True
     | some id => ∃ r, h.at' id = some (.loop r)) /\
    VFn P (yC fr f) [.yld h.next] (h.new h.next (.loop ⟨.ready, none, fr, ps, as, body, n⟩)) λ_ h' =>
      ∃ r, h'.at' h.next = some (.loop r) /\ r.st ≠ .busy /\ dp r.pending Q fr (h'.del h.next)
  | _, _, _, _ => False
def qw (P:Program) (g:Cfg) (n:Nat):Code->Bool
 | .skip=>true
 | .region id ops draw=>T5 n ops&&(!draw||QZ P g.mu ops (g.dr id))
 | .seq a b=>qw P g n a&&qw P g n b
 | .cond c a b=>Ie c&&qw P g n a&&qw P g n b
 | .block _ c=>qw P g n c
 | .exit _=>true
 | .ret=>true
 | .loop c=>qw P g n c
 | .rangeFunc f ps as body=>Ie f&&ps.toList.all (λt=>decide (t<n))&&qw P g n as&&qw P g n body
 | .refuse .. =>true
 | .label _=>true
 | .scope c=>qw P g n c
 |_=>false
def StM {P:Program} (c:Ctx P) (ms:List Nat) (n:Nat) (fr:Frm) (h:Heap) (a:Act) (w:World):Prop:=St c ms n fr h a w/\ms.Nodup/\∀b∈ms,b∉c.G
def zFg {P:Program} (c:Ctx P):Option Nat->Option Nat->Prop
 |none,none=>True
 |some id,some b=>∃l,c.ρ id=some l/\l.blk=b
 |_,_=>False
def CZ {P:Program} (c:Ctx P) (n:Nat) (Q:Exit->Frm->Heap->Prop) (e:Exit) (a:Act) (w:World):Prop:=∃ms fr h,StM c ms n fr h a w/\Q e fr h
section
variable {P:Program} {g:Cfg} {c:Ctx P} {ms:List Nat} {n:Nat} {fr:Frm} {h:Heap} {a:Act} {w:World} {ro rb:Option Nat}
def YA (h:Heap) (i:Nat) (o:Obj):(h.set i o).del i=h.del i:=by
 unfold Heap.set Heap.del;simp only[Heap.mk.injEq,true_and]
 funext j
 by_cases a:j=i<;>simp[a]
def Sim.mark {w0:Base} (d:Sim w0 I M ρ h w):Sim w0 (w.heap.size::I) M ρ h (w.alloc (.deferred (some []))):=by
 have a:=d.alloc (.deferred (some []));refine { below:=a.below,imm:=a.imm,live:=a.live,apart:=a.apart,gdef:=λb c=> ?_,old:=a.old };rcases List.mem_cons.1 c with rfl|c
 ·refine⟨d.nokeep (Nat.le_refl _),?_⟩;show(w.heap.push _)[w.heap.size]? =_;simp
 ·exact a.gdef b c
def Sim.gdef_lt {w0:Base} (c:Sim w0 I M ρ h w) {b:Nat} (a:b∈I):b<w.heap.size:=(Array.getElem?_eq_some_iff.1 (c.gdef b a).2).1
def rT.upd {o:Obj} (hf:rT ρ h.next):rT (uf ρ h.next l) (h.new h.next o).next:=λi a=>by
 simp only[Heap.new] at a
 have:i≠h.next:=ow;simp only[uf,this,if_false];exact hf i ow
def Sim.loop {w0:Base} (e:Sim w0 I M ρ h w) (hf:rT ρ h.next) (L:Go.Loop) (r:LRec) (e1:L.state=r.st) (e2:L.pending=r.pending) (e3:L.params=r.params) (a:L.assign=r.assign) (b:L.body=r.body)
  (c:L.tmps.size=r.n) (d:cL M ρ r.fr L.tmps):Sim w0 I M (uf ρ h.next ⟨w.heap.size,0,0⟩) (h.new h.next (.loop r)) (w.alloc (.loop L)):=by
 refine e.allocObj (hf _ (Nat.le_refl _)) (.loop L) (.loop r) ⟨w.heap.size,0,0⟩ rfl ⟨L,?_,e1,e2,e3,a,b,c,rU (MLe.refl _) (qL (hf _ (Nat.le_refl _))) d⟩;show(w.heap.push _)[w.heap.size]? =_;simp
def Sim.setLoop {w0:Base} (g:Sim w0 I M ρ h w) {r:LRec} (i:h.at' id=some (.loop r)) (j:ρ id=some l) (st:LoopState) (p:Option Code):
  ∃L:Go.Loop,w.heap[l.blk]? =some (.loop L)/\L.state=r.st/\L.pending=r.pending/\L.params=r.params/\L.assign=r.assign/\L.body=r.body/\L.tmps.size=r.n/\cL M ρ r.fr L.tmps/\
   Sim w0 I M ρ (h.set id (.loop { r with st:=st,pending:=p })) { w with heap:=w.heap.setIfInBounds l.blk (.loop { L with state:=st,pending:=p }) } :=by
 obtain⟨m,h1,c,L,a,k1,k2,k3,k4,k5,k6,k7⟩:=g.live id _ i;rw[j] at h1;cases h1;have f:l.blk<w.heap.size:=(Array.getElem?_eq_some_iff.1 a).1;refine⟨L,a,k1,k2,k3,k4,k5,k6,k7,?_⟩;refine g.put i j rfl rfl rfl (by simp) (λb k=>by simp only[Array.getElem?_setIfInBounds];rw[iq (λe=>k e.symm)]) (λo v e=> ?_) ⟨_,a,λd=>by simp⟩ ⟨{ L with state:=st,pending:=p },by simp[f],rfl,rfl,k3,k4,k5,k6,k7⟩;have:=g.imm _ _ _ e;simp[World.cell?,a] at this
def sN {b:Nat} {L:Go.Loop} (h:w.heap[b]? =some (.loop L)):(Instr.getLoop b).run P w= .ok L w:=by
 simp[Instr.getLoop,getObj,Sem.run,h]
def nP {b:Nat} {L:Go.Loop} {a:Go.Obj} (h:w.heap[b]? =some (.loop L)):(setObj b a).run P w= .ok () { w with heap:=w.heap.setIfInBounds b a } :=by
 simp[setObj,Sem.run,h]
def zCS {J:Nat->Prop} :∀k,J k->∃k,J k/\∀m,J m->k<=m:=by
 intro k
 induction k using Nat.strongRecOn with
 |_ k f=>
  intro e;by_cases b:∃m,m<k/\J m
  ·obtain⟨m,h1,c⟩:=b;exact f m h1 c
  ·refine⟨k,e,λm d=> ?_⟩;by_cases a:m<k
   ·exact absurd ⟨m,a,d⟩ b
   ·omega
theorem Vm:∀ {l:List (Nat×Fl)},alN l=0->∀x∈l,x.2.isAl=false
 | [],_,x,a=>by cases a
 |y::l,h,x,a=>by
  simp only[alN] at h;split at h
  ·omega
  ·rename_i b;rcases List.mem_cons.1 a with rfl|a
   ·unfold Fl.isAl;split
    ·rename_i k c;exact absurd c (b k)
    ·rfl
   ·exact Vm h x a
theorem Ih:∀ {l:List (Nat×Fl)} {x:Nat×Fl} {k:Nat},x∈l->x.2= .al k->k<alN l
 | [],x,k,a,_=>by cases a
 |y::l,x,k,a,b=>by
  simp only[alN];rcases List.mem_cons.1 a with rfl|a
  ·rw[b];simp only;omega
  ·have:=Ih a b;split<;>omega
def Qe {ops:Array Oper} {l:List (Nat×Fl)} {m:Nat} (d:alN l=m+1) (h:zCP ops l=true):(∀ (i:Nat) (o:Oper),ops[i]? =some o->yz o.op=none)/\∀x∈l,∀y∈l,∀k,x.2= .al k->y.2= .al k->x.1=y.1:=by
 unfold zCP at h;rw[d] at h;simp only[Bool.and_eq_true,List.all_eq_true] at h;refine⟨λi o b=> ?_,λx e y f k c a=> ?_⟩
 ·have:=h.1 o (by rw[<-Array.getElem?_toList] at b;exact List.mem_of_getElem? b);simpa using this
 ·have:=h.2 x e y f;rw[c,a] at this;simpa using this
def Sim.bump {w0:Base} (a:Sim w0 I M ρ h w) (m:Nat):Sim w0 I M ρ (h.bump m) w:=
 { below:=a.below,imm:=a.imm,live:=a.live,apart:=a.apart,gdef:=a.gdef,old:=a.old }
section
variable {b:Frame} {k:List Item} {cs:List Frame} {F:Fence} {P:Program} {a:Act} {w:World} {n:Nat} {Q:Exit->Act->World->Prop}
def uh {c:Code} :step P (lone (b.atR a (.code (.scope c)::k)) cs w)= .next (lone (b.atR a (.code c:: .inScope c::k)) cs w):=
 step_lone_go (by simp[stepG,stepG.exec,Frame.atR])
def aO {c:Code} :step P (lone (b.atR a (.inScope c::k)) cs w)= .next (lone (b.atR a k) cs w):=
 step_lone_go (by simp[stepG,stepG.exec,Frame.atR])
def T6 {c:Code} (h:c.wpIn F n P (Exit.noGoto Q) a w):(Code.scope c).wpIn F n P Q a w:=by
 intro b k cs p j hr;have h0:(lone (b.atR a (.code (.scope c)::k)) cs w).fenced P F:=fenced_calm j hr rfl;obtain⟨e,g,i,f,d⟩:=h b (.inScope c::k) cs p j hr;cases e with
 |normal=>exact⟨.normal,g,i,f, .head h0 uh (StepsIn.trans d (.one (fenced_calm j hr rfl) aO))⟩
 |exit id=>
  have q:exitTo id (.inScope c::k)=exitTo id k:=by simp[exitTo]
  exact⟨.exit id,g,i,f,λk' m=> .head h0 uh (d.1 k' (by rw[q];exact m)),λo m=>let ⟨k1,h1,h2⟩:=d.2 o (by rw[q];exact m);⟨k1,h1, .head h0 uh h2⟩⟩
 |goto l=>exact f.elim
 |ret=>exact⟨.ret,g,i,f, .of_steps (.one h0 uh) d⟩
 |panic r=>exact⟨.panic r,g,i,f, .of_steps (.one h0 uh) d⟩
 |outgrown=>exact⟨.outgrown,g,i,f, .of_steps (.one h0 uh) d⟩
end
theorem wk (q:P.follows .mixedOrders=true):∀ (co:Code) (c:Ctx P) (Q:Exit->Frm->Heap->Prop) (ms:List Nat) (fr:Frm) (h:Heap) (a:Act) (w:World),qw P g n co=true->zFg c ro rb->StM c ms n fr h a w->vwp P g n ro co Q fr h->
  co.wpIn (Fr rb) 0 P (CZ c n Q) a w
 | .skip,c,Q,ms,fr,h,a,w,d,p,s,j=>wpIn_skip ⟨ms,fr,h,s,j⟩
 | .exit id,c,Q,ms,fr,h,a,w,d,p,s,j=>wpIn_exit ⟨ms,fr,h,s,j⟩
 | .ret,c,Q,ms,fr,h,a,w,d,p,s,j=>wpIn_ret ⟨ms,fr,h,s,j⟩
 | .seq x y,c,Q,ms,fr,h,a,w,d,p,s,j=>by
  simp only[qw,Bool.and_eq_true] at d;simp only[vwp] at j;refine wpIn_seq (wpIn_mono (wk q x c _ ms fr h a w d.1 p s j) λe a' w' A=> ?_);obtain⟨D,B,h',C,A⟩:=A;cases e with
  |normal=>exact wk q y c Q D B h' a' w' d.2 p C A
  |_=>exact⟨D,B,h',C,A⟩
 | .block id x,c,Q,ms,fr,h,a,w,d,p,s,j=>by
  simp only[qw] at d;simp only[vwp] at j;refine wpIn_block (wpIn_mono (wk q x c _ ms fr h a w d p s j) λe a' w' A=> ?_);obtain⟨D,B,h',C,A⟩:=A;cases e with
  |exit i=>
   simp only[mD] at A;simp only[Exit.inBlock];split at A
   ·rename_i N;rw[ip N];exact⟨D,B,h',C,A⟩
   ·rename_i N;rw[iq N];exact⟨D,B,h',C,A⟩
  |_=>exact⟨D,B,h',C,A⟩
 | .cond x y z,c,Q,ms,fr,h,a,w,d,p,s,j=>by
  simp only[qw,Bool.and_eq_true] at d;simp only[vwp] at j;obtain⟨M,ρ,h1,S,h3,W,h5,h6,h7⟩:=s.1;have K:=n8 h5 d.1.1;split at j
  ·rename_i b T;rw[T] at K;simp only[rel] at K;refine wpIn_cond (t:=b) K ?_;cases b with
   |true=>exact wk q y c Q ms fr h a w d.1.2 p s j
   |false=>exact wk q z c Q ms fr h a w d.2 p s j
  ·exact j.elim
 | .region id ops a5,c,Q,ms,fr,h,a,w,d,p,s,j=>by
  simp only[qw,Bool.and_eq_true] at d;simp only[vwp] at j;obtain⟨H,Z,ad⟩:=s;have hK:∀fr h a w,St c ms n fr h a w->Q .normal fr h->CZ c n Q .normal a w:=λfr h a w k1 k2=>⟨ms,fr,h,⟨k1,Z,ad⟩,k2⟩;cases a5 with
  |false=>
   refine wpIn_region ?_;have:=cT (ro:=rb) d.1 hK ops.toList [] rfl fr h a w H j;simpa [List.range_eq_range'] using this
  |true=>
   have hd:QZ P g.mu ops (g.dr id)=true:=by simpa using d.2
   unfold QZ at hd;simp only[Bool.and_eq_true,beq_iff_eq] at hd;obtain⟨⟨⟨⟨⟨d1,d2⟩,d5⟩,ba⟩,d4⟩,d6⟩:=hd;have d3:=T0 ba;have a8:∀i,i<ops.size->i∈(g.dr id).map (·.1):=λi N=>by
    have:=List.all_eq_true.1 d1 i (List.mem_range.2 N);simpa using this
   obtain⟨h0,U,j⟩:=j;obtain⟨hh,bk,R,b1,j⟩:∃hh,HLe h0 hh/\StU c (GU h0.next (g.dr id)) ms n fr hh a { w with drawn:=w.drawn+1 } /\CX h0 ops (g.dr id)/\tH P g.mu h0 (Lq P g.mu ops (g.dr id) (jK ops.toList 0 [])) ops ((g.dr id).any (·.2.isSt)) (g.dr id) (Q .normal) fr hh:=by
    have R:St c ms n fr h a { w with drawn:=w.drawn+1 } :=by
     obtain⟨M,ρ,h1,S,h3,W⟩:=H;exact⟨M,ρ,h1,S,h3.drew,W⟩
    cases X:alN (g.dr id) with
    |zero=>
     rw[n9 X] at j;have a9:=Vm X;refine⟨h,U,R.stu λi N=> ?_, .inl a9,j⟩;obtain⟨x,K,k,hk,_⟩:=N;have:=a9 x K;rw[hk] at this;cases this
    |succ m=>
     rw[QU X] at j;obtain⟨b8,j⟩:=j;obtain⟨c1,c2⟩:=Qe X d6;obtain⟨M,ρ,h1,S,h3,W,h5,h6,h7⟩:=R;refine⟨h.bump (m+1),U,⟨M,ρ,h1,S,h3.bump _,λi N=>W i ?_,h5,h6,h7,λi N=> ?_⟩, .inr ⟨c1,c2,λk=> ?_⟩,j⟩
     ·simp only[Heap.bump] at N;omega
     ·obtain⟨x,K,k,hk,rfl⟩:=N;have:=Ih K hk;refine⟨?_,W _ ow⟩;simp only[Heap.bump];omega
     ·cases hz:h0.at' (h0.next+k) with
      |none=>rfl
      |some ob=>
       obtain⟨l,hl,_⟩:=h3.live _ _ (U _ _ hz);rw[W _ ow] at hl;cases hl
   have a2:((g.dr id).map (·.1)).Nodup:=by simpa using d5
   refine wpIn_region_any q (WO (ro:=rb) (h0:=h0) d.1 hK ops.size ((g.dr id).any (·.2.isSt)) (g.dr id) _ fr hh a _ ow a2 (λi N=> ?_) (by simp) (λk o hk hl=> ?_) d3 d4 (λ_=>bk) (λx K ak=>List.any_eq_true.2 ⟨x,K,ak⟩) (λy hy T x=>Qd hy T x) (λx K T z hz H=>KL T hz H) b1 R j)
   ·simp[N,a8 i N]
   ·have:=(Array.getElem?_eq_some_iff.1 hk).1;simp[this] at hl
 | .loop x,c,Q,ms,fr,h,a,w,d,p,s,j=>by
  simp only[qw] at d;simp only[vwp] at j;obtain⟨I,⟨k,hI⟩,ag⟩:=j
  classical
  let J:Nat->Act->World->Prop:=λk a w=>∃ms fr h,StM c ms n fr h a w/\I k fr h
  have O:∀a w,∃m,(∃k,J k a w)->J m a w/\∀k,J k a w->m<=k:=λa w=>by
   by_cases K:∃k,J k a w
   ·obtain⟨k,hk⟩:=K;obtain⟨m,h1,S⟩:=zCS (J:=λk=>J k a w) k hk;exact⟨m,λ_=>⟨h1,S⟩⟩
   ·exact⟨0,λh=>absurd h K⟩
  let μ:Act->World->Nat:=λa w=>Classical.choose (O a w)
  have hμ:∀a w,(∃k,J k a w)->J (μ a w) a w/\∀k,J k a w->μ a w<=k:=λa w=>Classical.choose_spec (O a w);refine wpIn_loop (λa w=>∃k,J k a w) μ ⟨k,ms,fr,h,s,hI⟩ λa w K=> ?_;obtain⟨⟨D,B,h',C,bb⟩,_⟩:=hμ a w K;refine wpIn_mono (wk q x c _ D B h' a w d p C (ag _ _ _ bb)) λe a' w' A=> ?_;obtain⟨a4,au,S,a3,A⟩:=A;cases e with
  |normal=>
   obtain⟨m,bx,a6⟩:=A;have ak:∃k,J k a' w':=⟨m,a4,au,S,a3,a6⟩;exact⟨ak,Nat.lt_of_le_of_lt ((hμ a' w' ak).2 m ⟨a4,au,S,a3,a6⟩) bx⟩
  |_=>exact⟨a4,au,S,a3,A⟩
 | .rangeFunc f ps as body,c,Q,ms,fr,h,a,w,d,p,s,j=>by
  simp only[qw,Bool.and_eq_true] at d;obtain⟨⟨⟨o1,o2⟩,o3⟩,o4⟩:=d;simp only[vwp] at j;obtain⟨b5,V⟩:=j;obtain⟨⟨M,ρ,h1,S,h3,W,h5,h6,h7⟩,Z,ad⟩:=s;have rf:=n8 h5 o1;generalize hD:yC fr f=D0 at V rf;cases D0<;>simp only[VFn] at V;rename_i g0 first cap
  cases g0<;>simp only at V;rename_i g1;simp only[rel] at rf;obtain⟨_,va,vc,ef,b6,b7⟩:=rf;refine wpIn_rangeFunc λfn _=> ?_;obtain⟨E,L,u,Y,b4,a2,b2,l1,l2,l3,l4,l5,l6⟩:∃ (E:List Nat) (L:Go.Loop) (u:World),(Instr.enterLoop fn a.tmps ps as body rb).run P w= .ok (u.heap.size,E.map Z6) (u.alloc (.loop L))/\
    Sim c.w0 (E++ms++c.G) M ρ h u/\(E++ms).Nodup/\(∀b∈E++ms,b∉c.G)/\L.state= .ready/\L.pending=none/\L.tmps=a.tmps/\L.params=ps/\L.assign=as/\L.body=body:=by
   cases rb with
   |none=>
    refine⟨[w.heap.size],{ state:= .ready,pending:=none,fn:=fn,tmps:=a.tmps,params:=ps,assign:=as,body:=body,defers:=w.heap.size },w.alloc (.deferred (some [])),?_,h3.mark,?_,?_,rfl,rfl,rfl,rfl,rfl,rfl⟩
    ·simp[Instr.enterLoop,Z6]
    ·rw[List.singleton_append,List.nodup_cons];exact⟨λT=>Nat.lt_irrefl _ (h3.gdef_lt (List.mem_append_left _ T)),Z⟩
    ·intro b T hg;rcases List.mem_cons.1 T with rfl|T
     ·exact Nat.lt_irrefl _ (h3.gdef_lt (List.mem_append_right _ hg))
     ·exact ad b T hg
   |some b=>
    cases ro with
    |none=>exact p.elim
    |some id=>
     obtain⟨l,bo,bs⟩:=p;obtain⟨r,hr⟩:=b5;obtain⟨l',g1,_,L0,g2,_⟩:=h3.live id _ hr;rw[S _ _ bo] at g1;cases g1;rw[bs] at g2;refine⟨[],{ state:= .ready,pending:=none,fn:=fn,tmps:=a.tmps,params:=ps,assign:=as,body:=body,defers:=L0.defers },w,?_,h3,Z,ad,rfl,rfl,rfl,rfl,rfl,rfl⟩;simp[Instr.enterLoop,sN g2]
  have b3:=b4.loop W L ⟨.ready,none,fr,ps,as,body,n⟩ l1 l2 l4 l5 l6 (by rw[l3];exact h7) (by rw[l3];exact h5);have ai:RLe ρ (uf ρ h.next ⟨u.heap.size,0,0⟩):=qL (W _ (Nat.le_refl _));refine⟨u.heap.size,E.map Z6,u.alloc (.loop L),{ target:= .fn (.func g1) vc,args:=va++ #[.func (.yield u.heap.size) #[] #[]] },u.alloc (.loop L),g1,va++ #[.func (.yield u.heap.size) #[] #[]]++vc,u.alloc (.loop L),Y,?_,λ_ _=>trivial,?_,λe=>(by cases e),?_⟩
  ·simp only[resolve,rangeCall,ef,Deferred.ofValue];simp[Act.eval]
  ·exact kZ V.1 _ _
  ·have a1:=V.2 c.w0 (E++ms++c.G) M _ _ (va++ #[.func (.yield u.heap.size) #[] #[]]++vc) c.good b3 (rT.upd W) (by
    simp only[Array.toList_append];refine qH (qH (wR (MLe.refl _) ai _ _ b6) ?_) (wR (MLe.refl _) ai _ _ b7);simp only[yD,rel];exact⟨_,[],rfl,⟨_,by simp[uf];rfl,rfl⟩,rfl⟩)
   refine CallsIn.mono (F:=Fr rb) (n:=0-1) (callsIn_wide.2 a1) λe w3 he=> ?_;obtain⟨v,M',ρ',d',h',rfl,q1,q2,q3,q4,q5,r,r1,r2,r3⟩:=he;have hl:ρ' h.next=some ⟨u.heap.size,0,0⟩:=q2 _ _ (by simp[uf]);obtain⟨L3,e1,e2,e3,_,_,_,_,_,hS⟩:=q3.setLoop r1 hl .exhausted r.pending;have a7:({ L3 with state:= .exhausted,pending:=r.pending } :Go.Loop)= { L3 with state:= .exhausted } :=by rw[<-e3]
   rw[a7] at hS;have hS:=hS.del h.next;rw[YA] at hS;have a0:(L3.state==LoopState.busy)=false:=by rw[e2];simpa using r2
   refine⟨r.pending,{ w3 with heap:=w3.heap.setIfInBounds u.heap.size (.loop { L3 with state:= .exhausted }) },?_,?_⟩
   ·simp only[Instr.endLoop,Sem.run_bind,sN e1,Result.andThen_ok,a0,Bool.false_eq_true,if_false,nP e1,Sem.run_pure,e3]
   ·have H:StM c (E++ms) n fr (h'.del h.next) { a with defers:=E.map Z6++a.defers } { w3 with heap:=w3.heap.setIfInBounds u.heap.size (.loop { L3 with state:= .exhausted }) } :=
     ⟨⟨M',ρ',h1.trans q1,(S.trans ai).trans q2,hS,q4,rU q1 (ai.trans q2) h5,by simp[h6],h7⟩,a2,b2⟩
    cases hp:r.pending with
    |none=>rw[hp] at r3;exact⟨_,_,_,H,r3⟩
    |some cc=>
     rw[hp] at r3;cases cc<;>simp only[dp] at r3
     ·exact wpIn_exit ⟨_,_,_,H,r3⟩
     ·exact wpIn_ret ⟨_,_,_,H,r3⟩
 | .label _,c,Q,ms,fr,h,a,w,d,p,s,j=>wpIn_label ⟨ms,fr,h,s,j⟩
 | .goto _,_,_,_,_,_,_,_,d,_,_,_=>by simp[qw] at d
 | .scope x,c,Q,ms,fr,h,a,w,d,p,s,j=>by
  simp only[qw] at d;simp only[vwp] at j;refine T6 (wpIn_mono (wk q x c _ ms fr h a w d p s j) λe a' w' A=> ?_);obtain⟨D,B,h',C,A⟩:=A;cases e with
  |goto l=>exact A.elim
  |_=>exact⟨D,B,h',C,A⟩
 | .refuse ..,_,_,_,_,_,_,_,_,_,_,j=>by simp[vwp] at j
end
def lU (fr:Frm):List Tmp->List D->Frm
 |t::ts,d::ds=>lU (tP fr (some t) d) ts ds
 |_,_=>fr
def aP (Q:D->Heap->Prop) (id:Nat) (L:LRec) (e:Exit) (h:Heap):Prop:=
 match e with
 | .normal=>Q (.bool true) (h.set id (.loop { L with st:= .ready,pending:=none }))
 | .ret=>Q (.bool false) (h.set id (.loop { L with st:= .done,pending:=some .ret }))
 | .exit i=>Q (.bool false) (h.set id (.loop { L with st:= .done,pending:=some (.exit i) }))
 |_=>False
def Qf (P:Program) (fr:Frm) (h:Heap):ResultVar->Option D
 | .tmp t=>some (fr t)
 | .cell a t=>sH P t (fr a) h
def sO (P:Program) (fr:Frm) (h:Heap):List ResultVar->Option (List D)
 | []=>some []
 |r::rs=>match Qf P fr h r with
  |none=>none
  |some d=>match sO P fr h rs with
   |none=>none
   |some ds=>some (d::ds)
def lV (ds:List D):D:=
 match ds with
 | [d]=>d
 |ds=> .tuple ds
def aQ (args:List D):Frm:=λi=>match args[i]? with
 |some d=>d
 |none=>wO
def Ii (P : Program) (rs : List ResultVar) (Q : D -> Heap -> Prop) (e : Exit) (fr : Frm) (h : Heap) : Prop :=
  (match e with
   | .normal => True
   | .ret => True
   | _ => False) /\
  match sO P fr h rs with
  | some ds => Q (lV ds) h
  | none => False
section
variable {P:Program} {g:Cfg} {c:Ctx P} {ms:List Nat} {n:Nat} {fr:Frm} {h:Heap} {a:Act} {w:World} {ro rb:Option Nat} {M:Imm} {ρ:Ren} {w0:Base} {G:List Nat}
def cU (tmps:Array Value):ResultVar->Sem Value
 | .tmp t=>pure (tmps.getD t undef)
 | .cell a t=>do loadVar t (<-asAddr (tmps.getD a undef))
def KO (j:Sim w0 G M ρ h w) (hf:cL M ρ fr tmps) {r:ResultVar} (hr:Qf P fr h r=some d):
  ∃v,(cU tmps r).run P w= .ok v w/\rel M ρ d v:=by
 cases r with
 |tmp t=>cases hr;exact⟨_,rfl,hf t⟩
 |cell b t=>
  simp only[Qf] at hr;have f:=hf b;unfold sH at hr;split at hr
  ·cases hr
  ·rename_i ag a;split at hr
   ·rename_i cs off c;rw[c] at f;simp only[rel] at f;obtain⟨b',p,e,m⟩:=f;obtain⟨v,h1,g⟩:=(j.holds m).loadVar a hr;exact⟨v,by simp[cU,e,asAddr,h1],g⟩
   ·rename_i id off c;rw[c] at f;simp only[rel] at f;obtain⟨l,k,e⟩:=f;split at hr
    ·rename_i cs i;obtain⟨v,h1,g⟩:=(j.row i k).loadVar a hr;rw[Nat.zero_add] at h1;exact⟨v,by simp[cU,e,asAddr,h1],g⟩
    ·rename_i u full cs i;obtain⟨v,h1,g⟩:=(j.trow i k).loadVar a hr;rw[Nat.zero_add] at h1;exact⟨v,by simp[cU,e,asAddr,h1],g⟩
    ·cases hr
   ·cases hr
theorem Vn (b:Sim w0 G M ρ h w) (hf:cL M ρ fr tmps):∀ {rs:List ResultVar} {ds:List D},sO P fr h rs=some ds->
  ∃vs,(rs.mapM (cU tmps)).run P w= .ok vs w/\yD M ρ ds vs
 | [],ds,hr=>by cases hr;exact⟨[],rfl,rfl⟩
 |r::rs,ds,hr=>by
  simp only[sO] at hr;split at hr
  ·cases hr
  ·rename_i d e;split at hr
   ·cases hr
   ·rename_i c a;cases hr;obtain⟨v,v1,f⟩:=KO (P:=P) b hf e;obtain⟨vs,s1,s2⟩:=Vn b hf a;refine⟨v::vs,?_,⟨v,vs,rfl,f,s2⟩⟩;rw[mapM_cons];simp only[Sem.run_bind,v1,Result.andThen_ok,s1,Sem.run_pure]
def WP (b:Sim w0 G M ρ h w) (hf:cL M ρ fr tmps) {fn:Func} (hr:sO P fr h fn.results.toList=some ds):
  ∃v,(results fn tmps).run P w= .ok v w/\rel M ρ (lV ds) v:=by
 obtain⟨vs,s1,s2⟩:=Vn (P:=P) b hf hr;have a:=zW s2;refine⟨if h:vs.toArray.size=1 then vs.toArray[0] else .tuple vs.toArray,?_,?_⟩
 ·unfold results;rw[Array.mapM_eq_mapM_toList];change (do
   let vs<-Functor.map toArray (mapM (cU tmps) fn.results.toList)
   pure (if h:vs.size=1 then vs[0] else .tuple vs):Sem Value).run P w=_
  simp only[Sem.run_bind,Sem.run_map,s1,Result.andThen_ok,Sem.run_pure]
 ·match ds,vs,a,s2 with
  | [],[],_,_=>simp only[lV,rel,yD];exact⟨#[],rfl,rfl⟩
  | [d],[v],_,s2=>
   simp only[yD] at s2;obtain⟨_,_,e,h1,_⟩:=s2;cases e;simpa [lV] using h1
  |d::c::ds,v::f::vs,_,s2=>
   simp only[lV,rel];exact⟨_,by simp;rfl,by simpa using s2⟩
variable {k:Nat}
theorem cV {fn:Func} {R:Ending->World->Prop} {F:Fence} :∀ (ms:List Nat) (w:World),Sim w0 (ms++G) M ρ h w->ms.Nodup->(∀b∈ms,b∉G)->
  (∀s,Sim w0 G M ρ h s->∃v,(results fn tmps).run P s= .ok v s/\R (.returned v) s)->LeavesInM F k P fn tmps R (ms.map Z6) .returning w
 | [],w,a,_,_,y=>by
  simp only[map_nil,LeavesInM,LeavesIn];exact y w a
 |b::ms,w,a,n,p,y=>by
  simp only[map_cons,LeavesInM];obtain⟨h1,c⟩:=a.gdef b (by simp);have B:=(Array.getElem?_eq_some_iff.1 c).1;refine⟨by simp, .inl ⟨b,{ w with heap:=w.heap.setIfInBounds b (.deferred none) },rfl,?_,?_⟩⟩
  ·simp[Instr.takeDeferred,getObj,setObj,Sem.run,c]
  ·refine cV ms _ ?_ (nodup_cons.1 n).2 (λx C=>p x (by simp[C])) y;have r:∀b',b'≠b->(w.heap.setIfInBounds b (.deferred none))[b']? =w.heap[b']? :=λb' d=>by
    rw[Array.getElem?_setIfInBounds];rw[iq (λe=>d e.symm)]
   refine { below:=⟨a.below.os,a.below.tape,a.below.output,by simpa using a.below.size,λq z=> ?_,a.below.drawn⟩,imm:=λb' o v e=> ?_,live:=λi A e=> ?_,apart:=a.apart,gdef:=λb' d=> ?_,old:=a.old }
   ·rw[r q (λe=>h1 (e▸z))];exact a.below.block q z
   ·have:=a.imm b' o v e;have j:b'≠b:=by
     intro m;subst m;simp[World.cell?,c] at this
    rw[<-this];exact World.cell?_of_block (w:=w) (r b' j)
   ·obtain⟨l,t,u,f⟩:=a.live i A e;refine⟨l,t,u,qv (r _ λm=> ?_) f⟩;rw[<-m] at c;cases A with
    |row _=>obtain⟨_,_,_,g,_⟩:=f;rw[c] at g;cases g
    |tok=>obtain⟨_,_,_,_,g,_⟩:=f;rw[c] at g;cases g
    |map _=>obtain⟨_,_,g,_⟩:=f;rw[c] at g;cases g
    |loop _=>obtain⟨_,g,_⟩:=f;rw[c] at g;cases g
    |siter _ _=>obtain⟨_,g,_⟩:=f;rw[c] at g;cases g
    |trow _ _ _=>obtain⟨_,_,_,g,_⟩:=f;rw[c] at g;cases g
   ·have j:b'≠b:=by
     intro m;subst m;rcases mem_append.1 d with d|d
     ·exact(nodup_cons.1 n).1 d
     ·exact p b' (by simp) d
    obtain⟨t,u⟩:=a.gdef b' (by simp only[cons_append,mem_cons];exact .inr d);exact⟨t,by rw[<-u];exact r b' j⟩
def T7 (hr:yD M ρ args va.toList) (k:Nat):cL M ρ (aQ args) (va++Array.replicate k undef):=by
 intro i;have g:=zW hr;rw[Array.length_toList] at g;unfold aQ;cases b:args[i]? with
 |some d=>
  obtain⟨v,h1,f⟩:=qC hr i d b;have c:i<va.size:=by have:=(List.getElem?_eq_some_iff.1 b).1;omega
  have:(va++Array.replicate k undef).getD i undef=v:=by
   rw[Array.getD_eq_getD_getElem?,Array.getElem?_append_left c,<-Array.getElem?_toList,h1];rfl
  rw[this];exact f
 |none=>
  have a:va.size<=i:=by have:=List.getElem?_eq_none_iff.1 b;omega
  have:(va++Array.replicate k undef).getD i undef=undef:=by
   rw[Array.getD_eq_getD_getElem?,Array.getElem?_append_right a];by_cases e:i-va.size<k
   ·simp[e]
   ·simp[e]
  rw[this];exact pk
variable {Q:D->Heap->Prop}
def zA.of_body (j:P.follows .mixedOrders=true) {fn:Func} {co:Code} (hf:P.funcs[f]? =some fn) (l:fn.body=some co) (z:(fn.name== "runtime.NumGoroutine")=false) (p:qw P g fn.ntmps co=true)
  (D:args.length<=fn.ntmps) (B:vwp P g fn.ntmps none co (Ii P fn.results.toList Q) (aQ args) h):zA P f args h Q:=by
 refine⟨by simp[wu,hf,l,bne,z],λw0 G M ρ w t i A o hr=> ?_⟩;have r:=zW hr;rw[Array.length_toList] at r;refine callsIn_wide.1 (callsIn_of_wp_marks (F:=Fence.wide) (n:=0) hf l trivial ?_);have q:StM ⟨w0,G,M,ρ,i⟩ [] fn.ntmps (aQ args) h { tmps:=t++Array.replicate (fn.ntmps-t.size) undef,defers:=[] } w:=
  ⟨⟨M,ρ,MLe.refl _,RLe.refl _,A,o,T7 hr _,rfl,by simp;omega⟩,nodup_nil,λb l=>by cases l⟩
 refine wpIn_mono (wk (ro:=none) (rb:=none) j co ⟨w0,G,M,ρ,i⟩ _ [] _ _ _ _ p trivial q B) λe s u c=> ?_;obtain⟨ms,m,h',⟨⟨M',C,k1,k2,k3,k4,k5,k6,k7⟩,k8,k9⟩,c⟩:=c;have d:∀ds,sO P m h' fn.results.toList=some ds->Q (lV ds) h'->LeavesInM Fence.wide 0 P fn s.tmps (Ret w0 G M ρ Q) s.defers .returning u:=λds a x=>by
  rw[k6];refine cV ms u k3 k8 k9 λE k=> ?_;obtain⟨v,r1,r2⟩:=WP (P:=P) k k5 a;exact⟨v,r1,v,M',C,_,h',rfl,k1,k2,k,k4,r2,x⟩
 unfold Ii at c;obtain⟨y,c⟩:=c;split at c
 ·rename_i ds a;cases e with
  |normal=>exact d ds a c
  |ret=>exact d ds a c
  |_=>exact y.elim
 ·exact c.elim
def Sim.fewer (a:Sim w0 G M ρ h w) (d:∀x∈I,x∈G):Sim w0 I M ρ h w:=
 { below:=a.below,imm:=a.imm,live:=a.live,apart:=a.apart,gdef:=λb c=>a.gdef b (d b c),old:=a.old }
theorem cW:∀ (a:List Tmp) (ds:List D) (vs:List Value) (fr:Frm) (tmps:Array Value),cL M ρ fr tmps->yD M ρ ds vs->(∀t∈a,t<tmps.size)->a.length=ds.length->
  cL M ρ (lU fr a ds) ((a.zip vs).foldl (λtmps p=>tmps.setIfInBounds p.1 p.2) tmps)/\((a.zip vs).foldl (λtmps p=>tmps.setIfInBounds p.1 p.2) tmps).size=tmps.size
 | [],[],vs,fr,tmps,hf,hr,c,b=>by
  simp only[yD] at hr;subst hr;exact⟨hf,rfl⟩
 |t::a,d::ds,vs,fr,tmps,hf,hr,c,b=>by
  simp only[yD] at hr;obtain⟨v,e,rfl,h1,f⟩:=hr;simp only[zip_cons_cons,foldl_cons,lU];have:=cW a ds e (tP fr (some t) d) (tmps.setIfInBounds t v) (je hf h1 (c t (by simp))) f (λu g=>by simpa using c u (by simp[g])) (by simpa using b);exact⟨this.1,by rw[this.2];simp⟩
 | [],_::_,_,_,_,_,_,_,b=>by simp at b
 |_::_,[],_,_,_,_,_,_,b=>by simp at b
theorem yo.of_round (j:P.follows .mixedOrders=true) {L:LRec} (hL:h.at' id=some (.loop L)) (r:args.length=L.params.size) (V:L.params.toList.all (λt=>decide (t<L.n))=true)
  (Z:qw P g L.n L.assign=true) (ad:qw P g L.n L.body=true)
  (hv:vwp P g L.n (some id) L.assign (λe o h1=>match e with
   | .normal=>∃k,h1.at' id=some (.loop k)/\k.st= .ready/\vwp P g L.n (some id) L.body (λe _ H=>∃E,H.at' id=some (.loop E)/\aP Q id E e H) o (h1.set id (.loop { k with st:= .busy }))
   |_=>False) (lU L.fr L.params.toList args) h):yo P id args h Q:=by
 intro w0 G M ρ w D l f hs S hr I;obtain⟨l',h1,R,m,g1,g2,g3,g4,g5,g6,g7,g8⟩:=hs.live id _ hL;rw[I] at h1;cases h1;have Y:=zW hr;rw[Array.length_toList] at Y;have s:∀t∈L.params.toList,t<m.tmps.size:=λt ht=>by
  have:=all_eq_true.1 V t ht;rw[g7];simpa using this
 obtain⟨p1,p2⟩:=cW L.params.toList args D.toList L.fr m.tmps g8 hr s (by rw[Array.length_toList];exact r.symm);have B:((L.params.zip D).foldl (λtmps x=>match x with|(t,a)=>tmps.setIfInBounds t a) m.tmps)=(L.params.toList.zip D.toList).foldl (λtmps p=>tmps.setIfInBounds p.1 p.2) m.tmps:=by
  rw[<-Array.foldl_toList,Array.toList_zip]
 refine⟨m.fn,(L.params.toList.zip D.toList).foldl (λtmps p=>tmps.setIfInBounds p.1 p.2) m.tmps,L.assign,L.body,?_,?_⟩
 ·unfold Instr.yield;simp only[Sem.run_bind,sN g1,Result.andThen_ok,g4,g5,g6];rw[iq ow];simp only[Sem.run_pure];rw[<-B]
 ·refine roundIn_of_wpIn trivial ?_;have X:StM ⟨w0,G,M,ρ,f⟩ [] L.n (lU L.fr L.params.toList args) h { tmps:=(L.params.toList.zip D.toList).foldl (λtmps p=>tmps.setIfInBounds p.1 p.2) m.tmps,defers:=[] } w:=
   ⟨⟨M,ρ,MLe.refl _,RLe.refl _,hs,S,p1,rfl,by rw[p2,g7]⟩,nodup_nil,λb O=>by cases O⟩
  have u:zFg ⟨w0,G,M,ρ,f⟩ (some id) (some l.blk):=⟨l,I,rfl⟩;refine wpIn_mono (wk (rb:=some l.blk) j L.assign ⟨w0,G,M,ρ,f⟩ _ [] _ _ _ _ Z u X hv) λe a1 K J=> ?_;obtain⟨C,o,h1,z,J⟩:=J;cases e with
  |normal=>
   obtain⟨k,j1,j2,j3⟩:=J;obtain⟨⟨M1,ρ1,k1,k2,k3,k4,k5,k6,k7⟩,k8,k9⟩:=z;have T:ρ1 id=some l:=k2 _ _ I;obtain⟨F,e1,e2,e3,_,_,_,_,_,hS⟩:=k3.setLoop j1 T .busy k.pending;have q:({ F with state:= .busy,pending:=k.pending } :Go.Loop)= { F with state:= .busy } :=by rw[<-e3]
   rw[q] at hS;refine⟨{ K with heap:=K.heap.setIfInBounds l.blk (.loop { F with state:= .busy }) },?_,?_⟩
   ·simp only[Instr.beginRound,Sem.run_bind,sN e1,Result.andThen_ok,nP e1,e2,j2,Sem.run_pure]
   ·have A:StM ⟨w0,G,M,ρ,f⟩ C L.n o (h1.set id (.loop { k with st:= .busy })) a1 { K with heap:=K.heap.setIfInBounds l.blk (.loop { F with state:= .busy }) } :=
     ⟨⟨M1,ρ1,k1,k2,hS,k4,k5,k6,k7⟩,k8,k9⟩
    refine wpIn_mono (wk (rb:=some l.blk) j L.body ⟨w0,G,M,ρ,f⟩ _ C _ _ _ _ ad u A j3) λe2 a2 w2 W=> ?_;obtain⟨ai,ag,H,⟨⟨M2,ρ2,q1,q2,q3,q4,q5,q6,q7⟩,q8,q9⟩,E,t1,t2⟩:=W;have U:ρ2 id=some l:=q2 _ _ I;have d:∀ (c:Option Code) (b:Bool) (st:LoopState),(c.isNone=b)->st=(if c.isNone then .ready else .done)->Q (.bool b) (H.set id (.loop { E with st:=st,pending:=c }))->
      ∃v w',(Instr.endRound l.blk c).run P w2= .ok v w'/\Ret w0 G M ρ Q (.returned v) w':=λc b st O y hQ=>by
     obtain⟨Ly,y1,_,_,_,_,_,_,_,N⟩:=q3.setLoop t1 U st c;refine⟨.bool b,{ w2 with heap:=w2.heap.setIfInBounds l.blk (.loop { Ly with state:=st,pending:=c }) },?_, .bool b,M2,ρ2, .bool b,_,rfl,q1,q2,N.fewer (λx hx=>mem_append_right _ hx),q4,yy b,hQ⟩;simp only[Instr.endRound,Sem.run_bind,sN y1,Result.andThen_ok,nP y1,Sem.run_pure,O,y]
    cases e2 with
    |normal=>exact d none true .ready rfl rfl t2
    |ret=>exact d (some .ret) false .done rfl rfl t2
    |exit i=>exact d (some (.exit i)) false .done rfl rfl t2
    |_=>exact t2.elim
  |_=>exact J.elim
end
mutual
def below (k:Nat):D->Prop
 | .bool _=>True
 | .int _ _=>True
 | .str _=>True
 | .nilptr=>True
 | .ptr id _=>id<k
 | .iptr cs _=>zf k cs
 | .nilsl=>True
 | .sl _ xs tk=>tY k xs/\(match tk with| .own t=>t<k|_=>True)
 | .rs id _ _ _=>id<k
 | .nilmap=>True
 | .map id=>id<k
 | .fn _ a c=>zf k a/\zf k c
 | .yld id=>id<k
 | .nilfn=>True
 | .agg cs=>zf k cs
 | .tuple cs=>zf k cs
 | .iface _ d=>below k d
 | .niliface=>True
def zf (k:Nat):List D->Prop
 | []=>True
 |d::ds=>below k d/\zf k ds
def tY (k:Nat):List (List D)->Prop
 | []=>True
 |x::xs=>zf k x/\tY k xs
end
def Ls (k:Nat) (ρ:Ren):Ren:=λi=>if i<k then ρ i else none
variable {k n:Nat}{M:Imm}{fr:Frm}{P:Program}{w:World}{h h0:Heap}{K Q:D->Heap->Prop}{b:Bool}
def ui (h:i<k):Ls k ρ i=ρ i:=ip h
section
variable {M:Imm} {ρ:Ren} {k:Nat}
mutual
theorem wp (k:Nat) (M:Imm) (ρ:Ren):∀ (d:D) (v:Value),below k d->rel M ρ d v->rel M (Ls k ρ) d v
 | .bool _,_,_,h=>by simpa [rel] using h
 | .int _ _,_,_,h=>by simpa [rel] using h
 | .str _,_,_,h=>by simpa [rel] using h
 | .nilptr,_,_,h=>by simpa [rel] using h
 | .ptr id off,_,b,h=>by simp only[below] at b;simpa only[rel,ui b] using h
 | .iptr cs off,_,b,h=>by
  simp only[rel,below] at h b⊢;obtain⟨x,p,h1,e⟩:=h;exact⟨x,p,h1,gX k M ρ cs x p b e⟩
 | .nilsl,_,_,h=>by simpa [rel] using h
 | .sl sz xs tk,_,b,h=>by
  simp only[rel,below] at h b⊢;obtain⟨h0,m,x,p,cap,h1,e,h3,g⟩:=h;refine⟨h0,m,x,p,cap,h1,e,YB k M ρ sz xs x p b.1 h3,?_⟩;cases tk with
  |no=>trivial
  |full=>exact g
  |own t=>
   obtain⟨l,i,j⟩:=g;exact⟨l,by rw[ui b.2];exact i,j⟩
 | .rs id _ _ _,_,b,h=>by simp only[below] at b;simpa only[rel,ui b] using h
 | .nilmap,_,_,h=>by simpa [rel] using h
 | .map id,_,b,h=>by simp only[below] at b;simpa only[rel,ui b] using h
 | .fn f a c,_,b,h=>by
  simp only[rel,below] at h b⊢;obtain⟨h0,n,o,h1,e,h3⟩:=h;exact⟨h0,n,o,h1,sP k M ρ a _ b.1 e,sP k M ρ c _ b.2 h3⟩
 | .yld id,_,b,h=>by simp only[below] at b;simpa only[rel,ui b] using h
 | .nilfn,_,_,h=>by simpa [rel] using h
 | .agg cs,_,b,h=>by
  simp only[rel,below] at h b⊢;obtain⟨vs,h1,e,h3⟩:=h;exact⟨vs,h1,sP k M ρ cs _ b e,h3⟩
 | .tuple cs,_,b,h=>by
  simp only[rel,below] at h b⊢;obtain⟨vs,h1,e⟩:=h;exact⟨vs,h1,sP k M ρ cs _ b e⟩
 | .iface t d,_,b,h=>by
  simp only[rel,below] at h b⊢;obtain⟨u,h1,e⟩:=h;exact⟨u,h1,wp k M ρ d u b e⟩
 | .niliface,_,_,h=>by simpa [rel] using h
theorem sP (k:Nat) (M:Imm) (ρ:Ren):∀ (ds:List D) (vs:List Value),zf k ds->yD M ρ ds vs->yD M (Ls k ρ) ds vs
 | [],_,_,h=>by simpa [yD] using h
 |d::ds,_,b,h=>by
  simp only[yD,zf] at h b⊢;obtain⟨v,a,h1,c,h3⟩:=h;exact⟨v,a,h1,wp k M ρ d v b.1 c,sP k M ρ ds a b.2 h3⟩
theorem gX (k:Nat) (M:Imm) (ρ:Ren):∀ (ds:List D) (b p:Nat),zf k ds->sj M ρ ds b p->sj M (Ls k ρ) ds b p
 | [],_,_,_,_=>by simp[sj]
 |d::ds,b,p,a,h=>by
  simp only[sj,zf] at h a⊢;obtain⟨⟨h0,v,h1,c⟩,h3⟩:=h;exact⟨⟨h0,v,h1,wp k M ρ d v a.1 c⟩,gX k M ρ ds b (p+1) a.2 h3⟩
theorem YB (k:Nat) (M:Imm) (ρ:Ren):∀ (sz:Nat) (xs:List (List D)) (b p:Nat),tY k xs->rn M ρ sz xs b p->rn M (Ls k ρ) sz xs b p
 |_,[],_,_,_,_=>by simp[rn]
 |sz,x::xs,b,p,a,h=>by
  simp only[rn,tY] at h a⊢;exact⟨h.1,gX k M ρ x b p a.1 h.2.1,YB k M ρ sz xs b (p+sz) a.2 h.2.2⟩
end
def rT.lt (hf:rT ρ k) (h:ρ i=some l):i<k:=by
 by_cases a:i<k
 ·exact a
 ·rw[hf i ow] at h;cases h
mutual
theorem tI (hf:rT ρ k):∀ (d:D) (v:Value),rel M ρ d v->below k d
 | .bool _,_,_=>trivial
 | .int _ _,_,_=>trivial
 | .str _,_,_=>trivial
 | .nilptr,_,_=>trivial
 | .ptr id off,_,h=>by simp only[rel] at h;obtain⟨l,h1,_⟩:=h;exact hf.lt h1
 | .iptr cs off,_,h=>by
  simp only[rel,below] at h⊢;obtain⟨x,p,h1,b⟩:=h;exact lW hf cs x p b
 | .nilsl,_,_=>trivial
 | .sl sz xs tk,_,h=>by
  simp only[rel,below] at h⊢;obtain⟨h0,j,x,p,cap,h1,b,h3,g⟩:=h;refine⟨cX hf sz xs x p h3,?_⟩;cases tk with
  |no=>trivial
  |full=>trivial
  |own t=>
   obtain⟨l,e,i⟩:=g;exact hf.lt e
 | .rs id _ _ _,_,h=>by simp only[rel] at h;obtain⟨_,_,l,_,_,h1,_⟩:=h;exact hf.lt h1
 | .nilmap,_,_=>trivial
 | .map id,_,h=>by simp only[rel] at h;obtain⟨l,h1,_⟩:=h;exact hf.lt h1
 | .fn f a c,_,h=>by
  simp only[rel,below] at h⊢;obtain⟨h0,m,n,h1,b,h3⟩:=h;exact⟨uj hf a _ b,uj hf c _ h3⟩
 | .yld id,_,h=>by simp only[rel] at h;obtain⟨l,h1,_⟩:=h;exact hf.lt h1
 | .nilfn,_,_=>trivial
 | .agg cs,_,h=>by
  simp only[rel,below] at h⊢;obtain⟨vs,h1,b,h3⟩:=h;exact uj hf cs _ b
 | .tuple cs,_,h=>by
  simp only[rel,below] at h⊢;obtain⟨vs,h1,b⟩:=h;exact uj hf cs _ b
 | .iface t d,_,h=>by
  simp only[rel,below] at h⊢;obtain⟨u,h1,b⟩:=h;exact tI hf d u b
 | .niliface,_,_=>trivial
theorem uj (hf:rT ρ k):∀ (ds:List D) (vs:List Value),yD M ρ ds vs->zf k ds
 | [],_,_=>trivial
 |d::ds,_,h=>by
  simp only[yD,zf] at h⊢;obtain⟨v,a,h1,b,h3⟩:=h;exact⟨tI hf d v b,uj hf ds a h3⟩
theorem lW (hf:rT ρ k):∀ (ds:List D) (b p:Nat),sj M ρ ds b p->zf k ds
 | [],_,_,_=>trivial
 |d::ds,b,p,h=>by
  simp only[sj,zf] at h⊢;obtain⟨⟨h0,v,h1,a⟩,h3⟩:=h;exact⟨tI hf d v a,lW hf ds b (p+1) h3⟩
theorem cX (hf:rT ρ k):∀ (sz:Nat) (xs:List (List D)) (b p:Nat),rn M ρ sz xs b p->tY k xs
 |_,[],_,_,_=>trivial
 |sz,x::xs,b,p,h=>by
  simp only[rn,tY] at h⊢;exact⟨lW hf x b p h.2.1,cX hf sz xs b (p+sz) h.2.2⟩
end
theorem cY (hf:rT ρ' k):∀ (ds:List (D×D)) (f c:List MapEntry),qj M' ρ' ds c->qj M ρ ds f->qj M (Ls k ρ) ds f
 | [],_,_,_,h=>by simpa [qj] using h
 |(x,d)::ds,_,_,h0,h=>by
  simp only[qj] at h h0⊢;obtain⟨e,a,h1,l,h3,m⟩:=h;obtain⟨n,b,_,g,i,j⟩:=h0;exact⟨e,a,h1,wp k M ρ _ _ (tI hf _ _ g) l,wp k M ρ _ _ (tI hf _ _ i) h3,cY hf ds a b j m⟩
def WQ {l E:Loc} (hf:rT ρ' k):∀ (n:Obj),qX M' ρ' w' E n->qX M ρ w l n->qX M (Ls k ρ) w l n
 | .row cs,h0,h=>by
  obtain⟨a,c,e,h1,b,h3,f⟩:=h;obtain⟨_,p,_,_,_,_,m⟩:=h0;refine⟨a,c,e,h1,b,h3,λi d j=> ?_⟩;obtain⟨h5,v,x,y⟩:=f i d j;obtain⟨_,_,_,o⟩:=m i d j;exact⟨h5,v,x,wp k M ρ _ _ (tI hf _ _ o) y⟩
 | .tok,_,h=>h
 | .map G,h0,h=>by
  obtain⟨s,q,h1,b⟩:=h;obtain⟨u,_,_,z⟩:=h0;exact⟨s,q,h1,cY hf _ _ _ z b⟩
 | .loop r,h0,h=>by
  obtain⟨L,h1,b,h3,f,h5,B,C,D⟩:=h;obtain⟨F,_,_,_,_,_,_,_,A⟩:=h0;exact⟨L,h1,b,h3,f,h5,B,C,λi=>wp k M ρ _ _ (tI hf _ _ (A i)) (D i)⟩
 | .siter _ _,_,h=>h
 | .trow t full cs,h0,h=>by
  obtain⟨a,c,e,h1,b,h3,f,g⟩:=h;obtain⟨_,p,_,_,_,_,m,_⟩:=h0;refine⟨a,c,e,h1,b,h3,λi d j=> ?_,g⟩;obtain⟨h5,v,x,y⟩:=f i d j;obtain⟨_,_,_,o⟩:=m i d j;exact⟨h5,v,x,wp k M ρ _ _ (tI hf _ _ o) y⟩
end
def zA.gc {Q:D->Prop} (A:zf h.next args->zA P f args h λd h'=>HLe h h'/\below h.next d/\Q d) (y:wu P f=true):
  zA P f args h λd h'=>h'=h/\Q d:=by
 refine⟨y,λw0 G M ρ w J n c a hr=> ?_⟩;refine((A (uj a _ _ hr)).2 w0 G M ρ w J n c a hr).mono λe N z=> ?_;obtain⟨v,M',u,d,h',rfl,k1,k2,k3,k4,k5,k6,k7,k8⟩:=z;have o:RLe ρ (Ls h.next u):=λi l b=>by rw[ui (a.lt b)];exact k2 i l b
 refine⟨v,M',Ls h.next u,d,h,rfl,k1,o,?_,λi b=>iq ow,wp _ _ _ _ _ k7 k5,rfl,k8⟩;refine { below:=k3.below,imm:=k3.imm,live:=λi g b=> ?_,apart:=λi j q r H I b p s t e=> ?_,gdef:=k3.gdef,old:=k3.old }
 ·obtain⟨F,k,K,x⟩:=c.live i g b;obtain⟨l,B,C,E⟩:=k3.live i g (k6 i g b);exact⟨l,by rw[ui (a.lt k)];exact B,C,WQ a g x E⟩
 ·obtain⟨F,k,_⟩:=c.live i q b;obtain⟨L,m,_⟩:=c.live j r p;rw[ui (a.lt k)] at s;rw[ui (a.lt m)] at t;exact k3.apart i j q r H I (k6 _ _ b) (k6 _ _ p) s t e
end Go.V
