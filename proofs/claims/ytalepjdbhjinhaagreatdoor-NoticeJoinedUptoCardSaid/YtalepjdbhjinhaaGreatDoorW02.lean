/- A machine of abstract values for programs of the model, and its soundness, part 2. No condition. -/
import Derived.Test.YtalepjdbhjinhaaGreatDoorW01
import Derived.Laws.CopyRow
import Derived.ChangeKeysEq
import Derived.Laws.StructEq
import Derived.Laws.Concat
import Derived.Lib.Builder
import Derived.Laws.Slices
import Derived.Great.FillDense
set_option linter.all false
namespace Go.V
open Go.RowKit (Below)
theorem qF (b o j:Nat):(⟨b,o,none⟩:Addr).add j= ⟨b,o+j,none⟩:=by
 unfold Addr.add;split<;>simp_all
section ty
variable {P:Program} {w:World}
theorem zD7 {t:TypeId} {d:TypeDesc} (hu:P.underlying t=some d):∃i,P.info? t=some i:=by
 unfold Program.underlying at hu;cases e:P.info? t with
 |none=>rw[e] at hu;cases hu
 |some i=>exact⟨i,rfl⟩
theorem z6 {t:TypeId} (hz:szT P t≠0):(sizeOf t).run P w= .ok (szT P t) w:=by
 cases e:P.info? t with
 |none=>simp[szT,Program.cellsOf,e] at hz
 |some i=>exact run_sizeOf _ e
theorem zCY {t:TypeId} {d:TypeDesc} (hu:P.underlying t=some d):(sizeOf t).run P w= .ok (szT P t) w:=by
 obtain⟨i,hi⟩:=zD7 hu;exact run_sizeOf _ hi
theorem zGO {t:TypeId} {ag:Bool} (h:agT P t=some ag):∃d,P.underlying t=some d∧(isAgg t).run P w= .ok ag w:=by
 unfold agT at h;cases e:P.underlying t with
 |none=>simp[e] at h
 |some d=>
  refine⟨d,rfl,?_⟩;simp only[isAgg,Sem.run_bind,run_underlying e,Result.andThen_ok];rw[e] at h;cases d<;>simp_all
theorem qv {t e:TypeId} (h:yr P t=some e):P.underlying t=some (.slice e):=by
 unfold yr at h;split at h<;>simp_all
theorem zD8 {t e:TypeId} {n:Nat} (h:zKx P t=some (n,e)):P.underlying t=some (.array n e):=by
 unfold zKx at h;split at h<;>simp_all
theorem zGs {t k e:TypeId} (h:zN5 P t=some (k,e)):P.underlying t=some (.map k e):=by
 unfold zN5 at h;split at h<;>simp_all
theorem zGt {t ft:TypeId} {f off:Nat} (h:zq P t f=some (off,ft)):∃ (fs:Array Field) (fl:Field),P.underlying t=some (.struct fs)∧fs[f]? =some fl∧fl.offset=off∧fl.type=ft:=by
 unfold zq at h;split at h
 ·rename_i fs hu;split at h
  ·rename_i fl hf;simp only[Option.some.injEq,Prod.mk.injEq] at h;exact⟨fs,fl,hu,hf,h.1,h.2⟩
  ·cases h
 ·cases h
end ty
def zJd (M:Imm) (ρ:Ren) (w:World) (cs:List D) (b p:Nat):Prop:=
 ∀ (i:Nat) (d:D),cs[i]? =some d→d.flat=true∧∃v,w.cell? ⟨b,p+i,none⟩ =some v∧rel M ρ d v
section
variable {P:Program} {w0:Base} {G:List Nat} {M:Imm} {ρ:Ren} {h:Heap} {w:World}
theorem Sim.holds (hs:Sim w0 G M ρ h w) {cs:List D} {b p:Nat} (hc:zBP M ρ cs b p):zJd M ρ w cs b p:=fun i d hi=>by
 obtain⟨h0,v,h1,h2⟩:=zAp hc i d hi;exact⟨h0,v,hs.imm _ _ _ h1,h2⟩
theorem Sim.row (hs:Sim w0 G M ρ h w) {id:Nat} {cs:List D} (hi:h.at' id=some (.row cs)) {l:Loc} (hl:ρ id=some l):zJd M ρ w cs l.blk 0:=fun i d hd=>by
 obtain⟨l',h1,_,_,c,e,h2,_,_,h3⟩:=hs.live id _ hi;rw[hl] at h1;cases h1;obtain⟨h6,v,h4,h5⟩:=h3 i d hd;exact⟨h6,v,by simp[World.cell?,h2,h4],h5⟩
theorem Sim.trow (hs:Sim w0 G M ρ h w) {id:Nat} {u:TypeId} {full:Bool} {cs:List D} (hi:h.at' id=some (.trow u full cs)) {l:Loc} (hl:ρ id=some l):zJd M ρ w cs l.blk 0:=fun i d hd=>by
 obtain⟨l',h1,_,_,c,e,h2,_,_,h3,_⟩:=hs.live id _ hi;rw[hl] at h1;cases h1;obtain⟨h6,v,h4,h5⟩:=h3 i d hd;exact⟨h6,v,by simp[World.cell?,h2,h4],h5⟩
theorem zJd.loadCells {cs:List D} {b p:Nat} (hh:zJd M ρ w cs b p) {off n:Nat} (hl:off+n≤cs.length):
  ∃vs:List Value,vs.length=n∧(loadCells ⟨b,p+off,none⟩ n).run P w= .ok vs.toArray w∧zy M ρ ((cs.drop off).take n) vs∧((cs.drop off).take n).all D.flat=true∧∀ (j:Nat) (v:Value),vs[j]? =some v→w.cell? ⟨b,p+off+j,none⟩ =some v:=by
 let f:Nat→Value:=fun j=>(w.cell? ⟨b,p+off+j,none⟩).getD undef
 have hf:∀j,j<n→w.cell? ((⟨b,p+off,none⟩:Addr).add j)=some (f j):=fun j hj=>by
  obtain⟨_,v,h1,_⟩:=hh (off+j) cs[off+j] (List.getElem?_eq_getElem (by omega));rw[←Nat.add_assoc] at h1;rw[qF];simp[f,h1]
 refine⟨(List.range n).map f,by simp,run_loadCells w _ n f hf,yD (by simp;omega) fun i d v hd hv=> ?_,List.all_eq_true.2 fun d hd=> ?_,fun j v hv=> ?_⟩
 ·simp only[List.getElem?_take,List.getElem?_drop] at hd;split at hd
  ·rename_i hi;obtain⟨_,u,h1,h2⟩:=hh (off+i) d hd;rw[←Nat.add_assoc] at h1;simp[hi] at hv;subst hv;simpa [f,h1] using h2
  ·cases hd
 ·obtain⟨i,hi⟩:=List.mem_iff_getElem?.1 hd;simp only[List.getElem?_take,List.getElem?_drop] at hi;split at hi
  ·exact(hh _ d hi).1
  ·cases hi
 ·simp only[List.getElem?_map] at hv;by_cases hj:j<n
  ·simp[hj] at hv;subst hv;have:=hf j hj
   rwa [qF] at this
  ·simp[hj] at hv
theorem zJd.loadVar {cs:List D} {b p:Nat} (hh:zJd M ρ w cs b p) {t:TypeId} {ag:Bool} (hag:agT P t=some ag) {off:Nat} {d:D} (hv:ze ag (szT P t) cs off=some d):
  ∃v,(loadVar t ⟨b,p+off,none⟩).run P w= .ok v w∧rel M ρ d v:=by
 obtain⟨td,hu,hia⟩:=zGO (w:=w) hag;cases ag with
 |true=>
  simp only[ze,if_true] at hv;split at hv
  ·cases hv
  ·split at hv
   ·rename_i hl;obtain⟨vs,h1,h2,h3,h4,_⟩:=hh.loadCells (P:=P) hl;cases hv;refine⟨.agg vs.toArray,?_,?_⟩
    ·simp[Go.loadVar,hia,zCY hu,h2]
    ·simp only[rel];exact⟨_,rfl,by simpa using h3,h4⟩
   ·cases hv
 |false=>
  simp only[ze,Bool.false_eq_true,if_false] at hv;obtain⟨_,v,h1,h2⟩:=hh off d hv;exact⟨v,by simp[Go.loadVar,hia,h1],h2⟩
def YV (P:Program) (w0:Base) (G:List Nat) (M:Imm) (ρ:Ren) (nid:Nat) (w:World) (s:Sem Value) (d:D) (h':Heap):Prop:=
 ∃v w' M' ρ',s.run P w= .ok v w'∧MLe M M'∧RLe ρ ρ'∧(∀i,h'.next≤i∨i≠nid→ρ' i=ρ i)∧Sim w0 G M' ρ' h' w'∧rel M' ρ' d v
theorem zBk {h:Heap} {nid i:Nat} {ob:Obj} (hi:(h.new nid ob).next≤i∨i≠nid):i≠nid:=by
 rcases hi with hi|hi
 ·simp only[Heap.new] at hi;omega
 ·exact hi
theorem YV.pure {nid:Nat} {s:Sem Value} {d:D} {v:Value} (hs:Sim w0 G M ρ h w) (hr:s.run P w= .ok v w) (hd:rel M ρ d v):YV P w0 G M ρ nid w s d h:=
 ⟨v,w,M,ρ,hr,MLe.refl _,RLe.refl _,fun _ _=>rfl,hs,hd⟩
theorem zUJ {nid:Nat} (hs:Sim w0 G M ρ h w) {t:TypeId} {a d:D} {va:Value} (ha:rel M ρ a va) (hv:zBi P t a h=some d):YV P w0 G M ρ nid w (Instr.loadAt t va) d h:=by
 unfold zBi at hv;split at hv
 ·cases hv
 ·rename_i ag hag;split at hv
  ·rename_i cs off;simp only[rel] at ha;obtain⟨b,p,rfl,hc⟩:=ha;obtain⟨v,h1,h2⟩:=(hs.holds hc).loadVar hag hv;exact .pure hs (by simp[Instr.loadAt,Instr.sureAddr,h1]) h2
  ·rename_i id off;simp only[rel] at ha;obtain⟨l,hl,rfl⟩:=ha;split at hv
   ·rename_i cs hi;obtain⟨v,h1,h2⟩:=(hs.row hi hl).loadVar hag hv;rw[Nat.zero_add] at h1;exact .pure hs (by simp[Instr.loadAt,Instr.sureAddr,h1]) h2
   ·rename_i u full cs hi;obtain⟨v,h1,h2⟩:=(hs.trow hi hl).loadVar hag hv;rw[Nat.zero_add] at h1;exact .pure hs (by simp[Instr.loadAt,Instr.sureAddr,h1]) h2
   ·cases hv
  ·cases hv
theorem zJe {nid:Nat} (hs:Sim w0 G M ρ h w) {t:TypeId} {x d:D} {f:Nat} {vx:Value} (hx:rel M ρ x vx) (hv:zI P t x f=some d):YV P w0 G M ρ nid w (Instr.fieldAt t vx f) d h:=by
 unfold zI at hv;split at hv
 ·rename_i off ft hft;obtain⟨fs,fl,hu,hfl,rfl,rfl⟩:=zGt hft;split at hv
  ·cases hv
  ·rename_i hz;have hsz:=z6 (P:=P) (w:=w) hz;have hfp:∀b o,(fieldPlace ⟨b,o,none⟩ fl).run P w= .ok ⟨b,o+fl.offset,none⟩ w:=fun b o=>by
    simp[fieldPlace,hsz,hz,qF]
   split at hv
   ·rename_i cs o;cases hv;simp only[rel] at hx;obtain⟨b,p,rfl,hc⟩:=hx;refine .pure hs (v:= .pointer (some ⟨b,p+o+fl.offset,none⟩)) ?_ ?_
    ·simp[Instr.fieldAt,run_underlying hu,hfl,Instr.sureAddr,hfp]
    ·simp only[rel];exact⟨b,p,by rw[Nat.add_assoc],hc⟩
   ·rename_i id o;cases hv;simp only[rel] at hx;obtain⟨l,hl,rfl⟩:=hx;refine .pure hs (v:= .pointer (some ⟨l.blk,o+fl.offset,none⟩)) ?_ ?_
    ·simp[Instr.fieldAt,run_underlying hu,hfl,Instr.sureAddr,hfp]
    ·simp only[rel];exact⟨l,hl,rfl⟩
   ·cases hv
 ·cases hv
theorem zJf {nid:Nat} (hs:Sim w0 G M ρ h w) {t:TypeId} {x i d:D} {vx vi:Value} (hx:rel M ρ x vx) (hi:rel M ρ i vi) (hv:zR P t x i=some d):YV P w0 G M ρ nid w (Instr.indexAt t vx vi) d h:=by
 unfold zR at hv;split at hv
 ·rename_i k n;simp only[rel] at hi;obtain⟨rfl,_⟩:=hi;split at hv
  ·rename_i e he;have hu:=qv he;split at hv
   ·rename_i sz xs tk;split at hv
    ·rename_i hsz;split at hv
     ·rename_i h0;split at hv
      ·rename_i c hc;cases hv;have hx':=hx;simp only[rel] at hx;obtain⟨hpos,hlim,b,p,cap,⟨sp,rfl,hsp⟩,hcap,hE,_⟩:=hx;obtain⟨hlen,hC⟩:=zGN hE _ _ hc;have hlt:n.toNat<xs.length:=(List.getElem?_eq_some_iff.1 hc).1;obtain rfl:sp=none:=hsp.resolve_right (by omega);have hn:n<(xs.length:Int):=by omega
       have hz:szT P e≠0:=by omega
       refine .pure hs (v:= .pointer (some ⟨b,p+n.toNat*sz,none⟩)) ?_ ?_
       ·simp[Instr.indexAt,asIntOf,run_underlying hu,h0,hn,z6 hz,qF,hsz]
       ·simp only[rel];exact⟨b,p+n.toNat*sz,rfl,hC⟩
      ·cases hv
     ·cases hv
    ·cases hv
   ·rename_i id sz off len;split at hv
    ·rename_i hcond;simp only[Bool.and_eq_true,decide_eq_true_eq] at hcond;obtain⟨⟨hsz,h0⟩,hn⟩:=hcond;cases hv;simp only[rel] at hx;obtain⟨hpos,hlim,l,cap,o,hl,rfl,hcap,_,ho⟩:=hx;obtain rfl:o=off:=by omega
     have hz:szT P e≠0:=by omega
     refine .pure hs (v:= .pointer (some ⟨l.blk,o+n.toNat*sz,none⟩)) ?_ ?_
     ·simp[Instr.indexAt,asIntOf,run_underlying hu,h0,hn,z6 hz,qF,hsz]
     ·simp only[rel];exact⟨l,hl,rfl⟩
    ·cases hv
   ·cases hv
  ·split at hv
   ·rename_i len e ha;have hu:=zD8 ha;split at hv
    ·rename_i hcond;simp only[Bool.and_eq_true,decide_eq_true_eq] at hcond;obtain⟨⟨h0,hn⟩,hz⟩:=hcond;split at hv
     ·rename_i cs o;cases hv;simp only[rel] at hx;obtain⟨b,p,rfl,hc⟩:=hx;refine .pure hs (v:= .pointer (some ⟨b,p+o+n.toNat*szT P e,none⟩)) ?_ ?_
      ·simp[Instr.indexAt,asIntOf,run_underlying hu,Instr.sureAddr,h0,hn,z6 hz,qF]
      ·simp only[rel];exact⟨b,p,by rw[Nat.add_assoc],hc⟩
     ·rename_i id o;cases hv;simp only[rel] at hx;obtain⟨l,hl,rfl⟩:=hx;refine .pure hs (v:= .pointer (some ⟨l.blk,o+n.toNat*szT P e,none⟩)) ?_ ?_
      ·simp[Instr.indexAt,asIntOf,run_underlying hu,Instr.sureAddr,h0,hn,z6 hz,qF]
      ·simp only[rel];exact⟨l,hl,rfl⟩
     ·cases hv
    ·cases hv
   ·cases hv
 ·cases hv
end
theorem yg {M:Imm} {ρ:Ren} {k:IntKind} {n:Int} (h:fits k n):rel M ρ (.int k n) (.int k n):=by simp only[rel];exact⟨trivial,h⟩
theorem ym {M:Imm} {ρ:Ren} (b:Bool):rel M ρ (.bool b) (.bool b):=by simp only[rel]
theorem wF (k:IntKind) (n:Int):fits k (k.wrap n):=by
 unfold fits IntKind.wrap;cases k<;>simp[IntKind.bits,IntKind.signed]<;>(repeat' split)<;>omega
theorem wY (k:IntKind) (n:Int):fits k n↔k.min≤n∧n≤k.max:=by
 unfold fits IntKind.wrap IntKind.min IntKind.max;cases k<;>simp[IntKind.bits,IntKind.signed]<;>(repeat' split)<;>omega
theorem zQr {k:IntKind} {a b:Int} (ha:fits k a):fits k (a.tmod b):=by
 rw[wY] at ha⊢;have h0:(a.tmod b).natAbs≤a.natAbs:=by rw[Int.natAbs_tmod];exact Nat.mod_le _ _
 have h2:0≤a→0≤a.tmod b:=fun h=>Int.tmod_nonneg b h;have h3:a≤0→a.tmod b≤0:=fun h=>by
  have:=Int.tmod_nonneg b (a:= -a) (by omega);rw[Int.neg_tmod] at this;omega
 have hm:k.min≤0∧0≤k.max:=by cases k<;>simp[IntKind.min,IntKind.max,IntKind.bits,IntKind.signed]
 rcases Int.le_total 0 a with h|h
 ·have:=h2 h;omega
 ·have:=h3 h;omega
theorem zQs {k:IntKind} {a:Int} (ha:fits k a) (n:Nat):fits k (a.fdiv (2^n)):=by
 rw[wY] at ha⊢;have hm:k.min≤0∧0≤k.max:=by cases k<;>simp[IntKind.min,IntKind.max,IntKind.bits,IntKind.signed]
 have hp:(1:Int)≤2^n:=Int.pow_pos (by omega);generalize(2:Int)^n=m at hp⊢;rw[Int.fdiv_eq_ediv_of_nonneg _ (by omega)];rcases(show a<0∨0≤a by omega) with h|h
 ·have h3:=Int.ediv_neg_of_neg_of_pos h (by omega:(0:Int)<m);have h4:a≤a/m:=Int.le_ediv_of_mul_le (by omega) (by
   have:a*m≤a*1:=Int.mul_le_mul_of_nonpos_left (by omega) (by omega);omega)
  omega
 ·have h3:0≤a/m:=Int.ediv_nonneg h (by omega);have h4:=Int.ediv_le_self m h;omega
section
variable {P:Program} {w0:Base} {G:List Nat} {M:Imm} {ρ:Ren} {h:Heap} {w:World} {nid:Nat}
theorem zUK {op:BinOp} {k:IntKind} {a b:Int} {d:D} (ha:fits k a) (hv:zN3 op k a b=some d) (hop:op≠ .shl∧op≠ .shr) (t:TypeId):
  ∃v,(binOp op t (.int k a) (.int k b)).run P w= .ok v w∧rel M ρ d v:=by
 cases op with
 |shl=>exact absurd rfl hop.1
 |shr=>exact absurd rfl hop.2
 |quo=>
  simp only[zN3] at hv;split at hv
  ·cases hv
  ·rename_i hb;injection hv with hv;subst hv;exact⟨.int k (k.wrap (a.tdiv b)),by simp[binOp,Op.intDiv,hb],yg (wF _ _)⟩
 |rem=>
  simp only[zN3] at hv;split at hv
  ·cases hv
  ·rename_i hb;injection hv with hv;subst hv;exact⟨.int k (a.tmod b),by simp[binOp,Op.intDiv,hb],yg (zQr ha)⟩
 |add=>cases hv;exact⟨.int k (k.wrap (a+b)),by simp[binOp,Op.intArith],yg (wF _ _)⟩
 |sub=>cases hv;exact⟨.int k (k.wrap (a-b)),by simp[binOp,Op.intArith],yg (wF _ _)⟩
 |mul=>cases hv;exact⟨.int k (k.wrap (a*b)),by simp[binOp,Op.intArith],yg (wF _ _)⟩
 |and=>cases hv;exact⟨.int k (k.wrap (BitVec.ofInt k.bits a &&& BitVec.ofInt k.bits b).toNat),by simp[binOp,Op.intBits],yg (wF _ _)⟩
 |or=>cases hv;exact⟨.int k (k.wrap (BitVec.ofInt k.bits a |||BitVec.ofInt k.bits b).toNat),by simp[binOp,Op.intBits],yg (wF _ _)⟩
 |xor=>cases hv;exact⟨.int k (k.wrap (BitVec.ofInt k.bits a ^^^ BitVec.ofInt k.bits b).toNat),by simp[binOp,Op.intBits],yg (wF _ _)⟩
 |andNot=>cases hv;exact⟨.int k (k.wrap (BitVec.ofInt k.bits a &&& ~~~ BitVec.ofInt k.bits b).toNat),by simp[binOp,Op.intBits],yg (wF _ _)⟩
 |eql=>cases hv;exact⟨.bool (a==b),by simp[binOp,Op.intCmp],ym _⟩
 |neq=>cases hv;exact⟨.bool (a !=b),by simp[binOp,Op.intCmp],ym _⟩
 |lss=>cases hv;exact⟨.bool (decide (a<b)),by simp[binOp,Op.intCmp],ym _⟩
 |leq=>cases hv;exact⟨.bool (decide (a≤b)),by simp[binOp,Op.intCmp],ym _⟩
 |gtr=>cases hv;exact⟨.bool (decide (a>b)),by simp[binOp,Op.intCmp],ym _⟩
 |geq=>cases hv;exact⟨.bool (decide (a≥b)),by simp[binOp,Op.intCmp],ym _⟩
theorem zPb {op:BinOp} {k k':IntKind} {a b:Int} {d:D} (ha:fits k a) (hv:zK3 op k a b=some d) (t:TypeId):
  ∃v,(binOp op t (.int k a) (.int k' b)).run P w= .ok v w∧rel M ρ d v:=by
 unfold zK3 at hv;split at hv
 ·cases hv
 ·rename_i hb;cases op<;>simp only at hv<;>first
   |(injection hv with hv;subst hv;exact⟨.int k (k.wrap (a*2^ (min b.toNat k.bits))),by simp[binOp,Op.shift,hb],yg (wF _ _)⟩)
   |(injection hv with hv;subst hv;exact⟨.int k (a.fdiv (2^ (min b.toNat k.bits))),by simp[binOp,Op.shift,hb],yg (zQs ha _)⟩)
   |cases hv
theorem yc (b:ByteArray):b.toList=b.data.toList:=ByteArray.toList_eq b
theorem zUL {op:BinOp} {a b:ByteArray} {d:D} (hv:zF3 op a.data.toList b.data.toList=some d) (t:TypeId):
  ∃v,(binOp op t (.string a) (.string b)).run P w= .ok v w∧rel M ρ d v:=by
 cases op with
 |add=>
  simp only[zF3] at hv;split at hv
  ·rename_i hl;injection hv with hv;subst hv;refine⟨.string (a++b),?_,?_⟩
   ·simp only[binOp];refine run_string_add_sum w a b ?_;have h1:a.size=a.data.toList.length:=by rw[Array.length_toList];rfl
    have h2:b.size=b.data.toList.length:=by rw[Array.length_toList];rfl
    unfold lim at hl;omega
   ·simp only[rel];exact⟨_,rfl,by simp,by simpa using hl⟩
  ·cases hv
 |eql=>cases hv;exact⟨.bool (a.data.toList==b.data.toList),by rw[←yc,←yc];rfl,ym _⟩
 |neq=>cases hv;exact⟨.bool (!(a.data.toList==b.data.toList)),by rw[←yc,←yc];rfl,ym _⟩
 |lss=>cases hv;exact⟨.bool (zIB a.data.toList b.data.toList),by simp only[binOp,Op.stringOp,yc,zIB,Sem.run_pure],ym _⟩
 |leq=>cases hv;exact⟨.bool (zIB a.data.toList b.data.toList||a.data.toList==b.data.toList),by simp only[binOp,Op.stringOp,yc,zIB,Sem.run_pure],ym _⟩
 |gtr=>cases hv;exact⟨.bool (!(zIB a.data.toList b.data.toList||a.data.toList==b.data.toList)),by simp only[binOp,Op.stringOp,yc,zIB,Sem.run_pure],ym _⟩
 |geq=>cases hv;exact⟨.bool (!(zIB a.data.toList b.data.toList)),by simp only[binOp,Op.stringOp,yc,zIB,Sem.run_pure],ym _⟩
 |_=>cases hv
theorem zAF:∀ {ks:List Kd} {as bs:List D} {r:Bool},eqK ks as bs=some r→as.length=ks.length∧bs.length=ks.length
 | [],[],[],_,_=>⟨rfl,rfl⟩
 | .b::ks, .bool x::as, .bool y::bs,r,h=>by
  simp only[eqK,Option.map_eq_some_iff] at h;obtain⟨q,h,_⟩:=h;have:=zAF h;simp[this]
 | .i::ks, .int k x::as, .int k' y::bs,r,h=>by
  simp only[eqK] at h;split at h
  ·simp only[Option.map_eq_some_iff] at h;obtain⟨q,h,_⟩:=h;have:=zAF h;simp[this]
  ·cases h
 | .s::ks, .str x::as, .str y::bs,r,h=>by
  simp only[eqK,Option.map_eq_some_iff] at h;obtain⟨q,h,_⟩:=h;have:=zAF h;simp[this]
theorem zBl:∀ {k1 k2:List Kd} {as bs:List D} {r:Bool},eqK (k1++k2) as bs=some r→
  ∃r1 r2,eqK k1 (as.take k1.length) (bs.take k1.length)=some r1∧eqK k2 (as.drop k1.length) (bs.drop k1.length)=some r2∧r=(r1&&r2)
 | [],k2,as,bs,r,h=>⟨true,r,by simp[eqK],by simpa using h,by simp⟩
 | .b::k1,k2, .bool x::as, .bool y::bs,r,h=>by
  simp only[List.cons_append,eqK,Option.map_eq_some_iff] at h;obtain⟨q,h,rfl⟩:=h;obtain⟨r1,r2,h1,h2,rfl⟩:=zBl h;exact⟨x==y&&r1,r2,by simp[eqK,h1],by simpa using h2,by simp[Bool.and_assoc]⟩
 | .i::k1,k2, .int k x::as, .int k' y::bs,r,h=>by
  simp only[List.cons_append,eqK] at h;split at h
  ·rename_i hk;simp only[Option.map_eq_some_iff] at h;obtain⟨q,h,rfl⟩:=h;obtain⟨r1,r2,h1,h2,rfl⟩:=zBl h;exact⟨x==y&&r1,r2,by simp[eqK,h1,hk],by simpa using h2,by simp[Bool.and_assoc]⟩
  ·cases h
 | .s::k1,k2, .str x::as, .str y::bs,r,h=>by
  simp only[List.cons_append,eqK,Option.map_eq_some_iff] at h;obtain⟨q,h,rfl⟩:=h;obtain⟨r1,r2,h1,h2,rfl⟩:=zBl h;exact⟨x==y&&r1,r2,by simp[eqK,h1],by simpa using h2,by simp[Bool.and_assoc]⟩
theorem zK4 {ds:List D} {vs:Array Value} (h:zy M ρ ds vs.toList) (a n:Nat):zy M ρ ((ds.drop a).take n) (vs.extract a (a+n)).toList:=by
 have hl:=zU h;refine yD ?_ fun i d v hd hv=> ?_
 ·simp at hl⊢;omega
 ·simp only[List.getElem?_take,List.getElem?_drop] at hd;split at hd
  ·rename_i hi;obtain⟨u,h1,h2⟩:=yq h (a+i) d hd
   have:v=u:=by
    have h3:(vs.extract a (a+n)).toList[i]? =vs.toList[a+i]? :=by
     simp[hi]
    rw[h3,h1] at hv;cases hv;rfl
   rw[this];exact h2
  ·cases hd
theorem zC6 {t:TypeId} {ag:Bool} (hag:agT P t=some ag) {ds:List D} {vs:Array Value} (hr:zy M ρ ds vs.toList) (hf:ds.all D.flat=true) {off:Nat} {d:D} (hv:ze ag (szT P t) ds off=some d):
  ∃v,(part t vs off).run P w= .ok v w∧rel M ρ d v:=by
 obtain⟨td,hu,hia⟩:=zGO (w:=w) hag;cases ag with
 |true=>
  simp only[ze,if_true] at hv;split at hv
  ·cases hv
  ·split at hv
   ·cases hv;refine⟨.agg (vs.extract off (off+szT P t)),by simp[part,hia,zCY hu],?_⟩;simp only[rel];exact⟨_,rfl,zK4 hr off _,List.all_eq_true.2 fun d hd=>List.all_eq_true.1 hf d (List.mem_of_mem_drop (List.mem_of_mem_take hd))⟩
   ·cases hv
 |false=>
  simp only[ze,Bool.false_eq_true,if_false] at hv;obtain⟨v,h1,h2⟩:=yq hr off d hv;refine⟨v,?_,h2⟩;have h1':vs[off]? =some v:=by simpa using h1
  simp[part,hia,h1']
theorem zBR {d : Nat} {t : TypeId} {ks : List Kd} (h : wS P d t = some ks) (hag : agT P t = some false) : ∃ c, ks = [c] := by
  cases d with
  | zero => simp [wS] at h
  | succ d =>
    unfold wS at h;unfold agT at hag;cases hu : P.underlying t with
    | none => rw [hu] at h; cases h
    | some td =>
      rw [hu] at h hag;cases td <;> simp only at h hag <;> first
        | (split at h
           · cases h; exact ⟨_, rfl⟩
           · cases h)
        | (cases h; done)
        | (cases hag; done)
theorem zId {d k : Nat} (ih : ∀ (t : TypeId) (ks : List Kd) (ag : Bool), wS P d t = some ks → agT P t = some ag → ∀ (da db : D) (a b : Value) (r : Bool), zT ag da = true → zT ag db = true →
      rel M ρ da a → rel M ρ db b → eqK ks da.cells db.cells = some r → (Op.equalIn (d + k) t a b).run P w = .ok r w) :
    ∀ (fs : List Field) (off n : Nat) (ks : List Kd), zGo (wS P d) P.cellsOf fs off n = some ks → ∀ (as bs : List D) (xs ys : Array Value) (r : Bool), zy M ρ as xs.toList → zy M ρ bs ys.toList → as.all D.flat = true → bs.all D.flat = true →
      eqK ks (as.drop off) (bs.drop off) = some r → (Op.eqFields (d + k) xs ys fs).run P w = .ok r w
  | [], off, n, ks, hk, as, bs, xs, ys, r, ha, hb, fa, fb, he => by
    simp only [zGo] at hk;split at hk
    · cases hk
      have := zAF he;cases hq : as.drop off with
      | nil => cases hq' : bs.drop off with
        | nil => rw [hq, hq'] at he; simp [eqK] at he; simp [Op.eqFields, he]
        | cons _ _ => rw [hq'] at this; simp at this
      | cons _ _ => rw [hq] at this; simp at this
    · cases hk
  | f :: fs, off, n, ks, hk, as, bs, xs, ys, r, ha, hb, fa, fb, he => by
    simp only [zGo] at hk;split at hk
    · rename_i hcond
      simp only [Bool.and_eq_true, bne_iff_ne, ne_eq, beq_iff_eq] at hcond;obtain ⟨⟨hname, hoff⟩, hnz⟩ := hcond;split at hk
      · rename_i kf hkf
        split at hk
        · rename_i hlen
          simp only [beq_iff_eq] at hlen;simp only [Option.map_eq_some_iff] at hk;obtain ⟨kr, hkr, rfl⟩ := hk;obtain ⟨r1, r2, h1, h2, rfl⟩ := zBl he;obtain ⟨ag, hag⟩ : ∃ ag, agT P f.type = some ag := by
            cases hd : d with
            | zero => rw [hd] at hkf; simp [wS] at hkf
            | succ d' =>
              rw [hd] at hkf;unfold wS at hkf;unfold agT;cases hu : P.underlying f.type with
              | none => rw [hu] at hkf; cases hkf
              | some td => cases td <;> simp
          have hl1 := zAF h1;have hsz : szT P f.type = kf.length := hlen.symm;have cell : ∀ (cs : List D) (vs : Array Value), zy M ρ cs vs.toList → cs.all D.flat = true → ((cs.drop off).take kf.length).length = kf.length →
              (∀ c, ag = false → (cs.drop off).take kf.length = [c] → zT false c = true ∧ c.cells = [c]) → (ag = true → kf.length ≠ 0) → (ag = false → kf.length = 1) →
              ∃ v dv, (part f.type vs f.offset).run P w = .ok v w ∧ rel M ρ dv v ∧ zT ag dv = true ∧ dv.cells = (cs.drop off).take kf.length := by
            intro cs vs hr hfl hl hsc hag0 hag1;rw [hoff];cases ag with
            | true =>
              have hle : off + kf.length ≤ cs.length := by
                have := hag0 rfl;simp only [List.length_take, List.length_drop] at hl; omega
              obtain ⟨v, p1, p2⟩ := zC6 (w := w) hag hr hfl (off := off) (d := .agg ((cs.drop off).take kf.length)) (by simp [ze, hsz, hag0 rfl, hle]);exact ⟨v, _, p1, p2, rfl, rfl⟩
            | false =>
              have h1' := hag1 rfl;have hlt : off < cs.length := by simp only [List.length_take, List.length_drop] at hl; omega
              have hone : (cs.drop off).take kf.length = [cs[off]] := by rw [h1', List.drop_eq_getElem_cons hlt, List.take_succ_cons, List.take_zero]
              obtain ⟨v, p1, p2⟩ := zC6 (w := w) hag hr hfl (off := off) (d := cs[off]) (by simp [ze, hlt]);obtain ⟨q1, q2⟩ := hsc _ rfl hone;exact ⟨v, _, p1, p2, q1, by rw [q2, hone]⟩
          have hkinds : (ag = true → kf.length ≠ 0) ∧ (ag = false → kf.length = 1) := by
            refine ⟨fun _ => by rw [hlen]; exact hnz, fun e => ?_⟩;subst e;obtain ⟨c, rfl⟩ := zBR hkf hag;rfl
          have scal : ∀ (c e : D) (rr : Bool), ag = false → (eqK kf [c] [e] = some rr) → (zT false c = true ∧ c.cells = [c]) ∧ (zT false e = true ∧ e.cells = [e]) := by
            intro c e rr hf hq;subst hf;obtain ⟨kk, rfl⟩ := zBR hkf hag;cases kk <;> cases c <;> cases e <;> simp [eqK, zT, D.cells] at hq ⊢
          have one : ∀ cs : List D, ((cs.drop off).take kf.length).length = kf.length → ag = false → ∃ c, (cs.drop off).take kf.length = [c] := by
            intro cs hl hf;have := hkinds.2 hf;rw [this] at hl;exact List.length_eq_one_iff.1 (by rw [← this] at hl; rw [hl, this])
          obtain ⟨va, dva, pa1, pa2, pa3, pa4⟩ := cell as xs ha fa hl1.1 (fun c hf hc => by
            obtain ⟨e, he'⟩ := one bs hl1.2 hf;rw [hc, he'] at h1;exact (scal c e r1 hf h1).1) hkinds.1 hkinds.2
          obtain ⟨vb, dvb, pb1, pb2, pb3, pb4⟩ := cell bs ys hb fb hl1.2 (fun c hf hc => by
            obtain ⟨e, he'⟩ := one as hl1.1 hf;rw [hc, he'] at h1;exact (scal e c r1 hf h1).2) hkinds.1 hkinds.2
          have hq := ih f.type kf ag hkf hag dva dvb va vb r1 pa3 pb3 pa2 pb2 (by rw [pa4, pb4]; exact h1);have hrest := zId ih fs (off + kf.length) n kr hkr as bs xs ys r2 ha hb fa fb (by rw [List.drop_drop, List.drop_drop] at h2; exact h2);simp only [Op.eqFields, ne_eq, hname, not_false_eq_true, if_true, Sem.run_bind, pa1, pb1, Result.andThen_ok, hq];cases r1 with
          | true => simpa using hrest
          | false => simp
        · cases hk
      · cases hk
    · cases hk
theorem zMl (k : Nat) : ∀ (d : Nat) (t : TypeId) (ks : List Kd) (ag : Bool), wS P d t = some ks → agT P t = some ag → ∀ (da db : D) (a b : Value) (r : Bool), zT ag da = true → zT ag db = true →
      rel M ρ da a → rel M ρ db b → eqK ks da.cells db.cells = some r → (Op.equalIn (d + k) t a b).run P w = .ok r w
  | 0, t, ks, ag, h, _, _, _, _, _, _, _, _, _, _, _ => by simp [wS] at h
  | d + 1, t, ks, ag, h, hag, da, db, a, b, r, sa, sb, ra, rb, he => by
    rw [show d + 1 + k = (d + k) + 1 by omega];have h' := h;unfold wS at h;cases hu : P.underlying t with
    | none => rw [hu] at h; cases h
    | some td =>
      rw [hu] at h;have hb0 : ∀ x : Bool, (match td with | .struct _ => true | .array _ _ => true | _ => false) = x → ag = x := by
        intro x hx;unfold agT at hag;rw [hu] at hag;cases td <;> simp_all
      cases td <;> simp only at h <;> (try (cases h; done))
      · split at h
        · cases h
          obtain rfl := hb0 false rfl;cases da <;> simp [zT] at sa <;> cases db <;> simp [zT] at sb <;> simp [D.cells, eqK] at he;simp only [rel] at ra rb;subst ra rb he;simp [Op.equalIn, run_underlying hu]
        · cases h
      · split at h
        · cases h
          obtain rfl := hb0 false rfl;cases da <;> simp [zT] at sa <;> cases db <;> simp [zT] at sb <;> simp [D.cells, eqK] at he;simp only [rel] at ra rb;obtain ⟨rfl, _⟩ := ra;obtain ⟨rfl, _⟩ := rb;obtain ⟨rfl, rfl⟩ := he;simp [Op.equalIn, run_underlying hu]
        · cases h
      · split at h
        · cases h
          obtain rfl := hb0 false rfl;cases da <;> simp [zT] at sa <;> cases db <;> simp [zT] at sb <;> simp [D.cells, eqK] at he;simp only [rel] at ra rb;obtain ⟨x, rfl, rfl, _⟩ := ra;obtain ⟨y, rfl, rfl, _⟩ := rb;rw [run_equalIn_string w _ t x y hu, yc, yc, he]
        · cases h
      · rename_i fs
        split at h
        · cases h
        · rename_i hst
          obtain rfl := hb0 true rfl;cases da <;> simp [zT] at sa;cases db <;> simp [zT] at sb;rename_i as bs;simp only [rel] at ra rb;obtain ⟨xs, rfl, hxs, fxs⟩ := ra;obtain ⟨ys, rfl, hys, fys⟩ := rb;have hf : P.fieldsOf t = fs := by simp [Program.fieldsOf, hu]
          rw [run_equalIn_struct w (d + k) t xs ys (by rw [hf]; exact hu) (by simpa using hst), hf];exact zId (fun t' ks' ag' h1 h2 => zMl k d t' ks' ag' h1 h2) fs.toList 0 _ ks h as bs xs ys r hxs hys fxs fys (by simpa [D.cells] using he)
end
section
variable {P:Program} {w0:Base} {G:List Nat} {M:Imm} {ρ:Ren} {h:Heap} {w:World} {nid:Nat}
def zeE (P:Program) (w:World) (t:TypeId) (a b:Value) (r:Bool):Prop:=
 (∀o o',(eqGuard .eql t o o' a b).run P w= .ok () w∧(eqGuard .neq t o o' a b).run P w= .ok () w)∧
  (binOp .eql t a b).run P w= .ok (.bool r) w∧(binOp .neq t a b).run P w= .ok (.bool (!r)) w
theorem zJg {t:TypeId} {a b:Value} {r:Bool} (h1:∀o o',eqGuard .eql t o o' a b=pure ()∧eqGuard .neq t o o' a b=pure ())
  (h2:binOp .eql t a b=do pure (.bool (←Op.equal t a b))) (h3:binOp .neq t a b=do pure (.bool (!(←Op.equal t a b))))
  (h4:∀d,(Op.equalIn (d+1) t a b).run P w= .ok r w):zeE P w t a b r:=by
 have h5:(Op.equal t a b).run P w= .ok r w:=h4 9999;refine⟨fun o o'=>⟨by rw[(h1 o o').1];rfl,by rw[(h1 o o').2];rfl⟩,?_,?_⟩
 ·rw[h2];simp only[Sem.run_bind,h5,Result.andThen_ok,Sem.run_pure]
 ·rw[h3];simp only[Sem.run_bind,h5,Result.andThen_ok,Sem.run_pure]
theorem zXr {t:TypeId} {x y:D} {a b:Value} {r:Bool} (ha:rel M ρ x a) (hb:rel M ρ y b) (hv:veq (P.underlying t) x y=some r):zeE P w t a b r:=by
 unfold veq at hv;split at hv<;>(try (cases hv;done))<;>(injection hv with hv;subst hv)<;>simp only[rel] at ha hb<;>rename_i hu
 all_goals
  first
   |(subst ha;subst hb)
   |(subst ha;obtain⟨_,_,rfl⟩:=hb)
   |(subst hb;obtain⟨_,_,rfl⟩:=ha)
   |(subst ha;obtain⟨_,_,rfl,_⟩:=hb)
   |(subst hb;obtain⟨_,_,rfl,_⟩:=ha)
   |(subst ha;obtain⟨_,_,_,_,_,⟨_,rfl,_⟩,_⟩:=hb)
   |(subst hb;obtain⟨_,_,_,_,_,⟨_,rfl,_⟩,_⟩:=ha)
   |(subst ha;obtain⟨_,_,_,_,_,rfl,_⟩:=hb)
   |(subst hb;obtain⟨_,_,_,_,_,rfl,_⟩:=ha)
   |(subst ha;obtain⟨_,_,_,_,_,_,rfl,_⟩:=hb)
   |(subst hb;obtain⟨_,_,_,_,_,_,rfl,_⟩:=ha)
   |(subst hb;obtain⟨_,_,rfl⟩:=ha)
   |(subst ha;obtain⟨_,_,_,_,_,rfl,_⟩:=hb)
   |(subst ha;obtain⟨_,_,_,rfl,_⟩:=hb)
   |(subst hb;obtain⟨_,_,_,rfl,_⟩:=ha)
   |(subst ha;obtain⟨_,_,_,_,_,rfl⟩:=hb)
 all_goals
  first
   |exact zJg (fun o o'=>⟨rfl,rfl⟩) rfl rfl (fun d=>by simp[Op.equalIn,run_underlying hu])
   |skip
theorem zIG {t:TypeId} {ks:List Kd} (ht:eqT P t=some ks) {as bs:List D} {xs ys:Array Value} {r:Bool} (ha:zy M ρ as xs.toList∧as.all D.flat=true) (hb:zy M ρ bs ys.toList∧bs.all D.flat=true) (he:eqK ks as bs=some r):zeE P w t (.agg xs) (.agg ys) r:=by
 unfold eqT at ht;split at ht
 ·rename_i fs hu;split at ht
  ·cases ht
  ·rename_i hg;have hg':P.eqGuardType P.depth t=false:=by simpa using hg
   have hq:=fun d=>zMl (P:=P) (M:=M) (ρ:=ρ) (w:=w) d 8 t ks true ht (by simp[agT,hu]) (.agg as) (.agg bs) (.agg xs) (.agg ys) r rfl rfl (by simp only[rel];exact⟨xs,rfl,ha⟩) (by simp only[rel];exact⟨ys,rfl,hb⟩) he;refine⟨fun o o'=>⟨run_eqGuard_agg w .eql t o o' xs ys hg',run_eqGuard_agg w .neq t o o' xs ys hg'⟩,?_,?_⟩
   ·rw[run_eql_struct,show(10000:Nat)=8+9992 from rfl,hq];rfl
   ·rw[run_neq_struct,show(10000:Nat)=8+9992 from rfl,hq];rfl
 ·cases ht
theorem zMm (op:BinOp) (t:TypeId) (o o':Operand) (k k':IntKind) (a b:Int):eqGuard op t o o' (.int k a) (.int k' b)=pure ():=by cases op<;>rfl
theorem zMn (op:BinOp) (t:TypeId) (o o':Operand) (a b:ByteArray):eqGuard op t o o' (.string a) (.string b)=pure ():=by cases op<;>rfl
theorem zXs (hs:Sim w0 G M ρ h w) {op:BinOp} {t:TypeId} {x y d:D} {a b:Value} (o o':Operand) (ha:rel M ρ x a) (hb:rel M ρ y b) (hv:zD1 P op t (isC o||isC o') x y=some d):
  YV P w0 G M ρ nid w (do eqGuard op t o o' a b;binOp op t a b) d h:=by
 have fin:∀v,(eqGuard op t o o' a b).run P w= .ok () w→(binOp op t a b).run P w= .ok v w→rel M ρ d v→YV P w0 G M ρ nid w (do eqGuard op t o o' a b;binOp op t a b) d h:=fun v h1 h2 h3=>
  .pure hs (by simp only[Sem.run_bind,h1,Result.andThen_ok,h2]) h3
 have eqs:∀r,zeE P w t a b r→∀f g:Option D,f=some (.bool r)→g=some (.bool (!r))→zAk op f g=some d→YV P w0 G M ρ nid w (do eqGuard op t o o' a b;binOp op t a b) d h:=fun r hq f g hf hg he=>by
  cases op<;>simp only[zAk] at he<;>(try (cases he;done))
  ·rw[hf] at he;cases he;exact fin _ (hq.1 o o').1 hq.2.1 (ym _)
  ·rw[hg] at he;cases he;exact fin _ (hq.1 o o').2 hq.2.2 (ym _)
 have other:zWJ P op t x y=some d→YV P w0 G M ρ nid w (do eqGuard op t o o' a b;binOp op t a b) d h:=fun he=>by
  cases hr:veq (P.underlying t) x y with
  |none=>unfold zWJ at he;rw[hr] at he;cases op<;>simp[zAk] at he
  |some r=>exact eqs r (zXr ha hb hr) _ _ (by rw[hr];rfl) (by rw[hr];rfl) he
 cases x with
 |niliface=>
  simp only[zD1] at hv;simp only[rel] at ha;subst ha;split at hv
  ·simp only[rel] at hb;subst hb;split at hv
   ·rename_i hc;unfold zPa at hv;split at hv
    ·rename_i ms hu;have hg:∀op,(eqGuard op t o o' .nilIface .nilIface).run P w= .ok () w:=fun op=>by
      cases o<;>cases o'<;>simp only[isC,Bool.or_self,Bool.or_true,Bool.or_false,Bool.false_eq_true,Bool.true_or] at hc<;>cases op<;>rfl
     have h6:∀d,(Op.equalIn (d+1) t .nilIface .nilIface).run P w= .ok true w:=fun d=>by simp[Op.equalIn,run_underlying hu]
     have h5:(Op.equal t .nilIface .nilIface).run P w= .ok true w:=h6 9999;cases op<;>simp only[zAk] at hv<;>(try (cases hv;done))
     ·cases hv;exact fin (.bool true) (hg _) (by show((do pure (.bool (←Op.equal t .nilIface .nilIface))):Sem Value).run P w=_;simp only[Sem.run_bind,h5,Result.andThen_ok,Sem.run_pure]) (ym _)
     ·cases hv;exact fin (.bool false) (hg _) (by show((do pure (.bool (!(←Op.equal t .nilIface .nilIface)))):Sem Value).run P w=_;simp only[Sem.run_bind,h5,Result.andThen_ok,Sem.run_pure];rfl) (ym _)
    ·cases hv
   ·cases hv
  ·simp only[rel] at hb;obtain⟨u,rfl,_⟩:=hb;rename_i ti di;unfold zPa at hv;split at hv
   ·rename_i ms hu;exact eqs false (zJg (fun o o'=>⟨rfl,rfl⟩) rfl rfl (fun d=>by simp[Op.equalIn,run_underlying hu])) _ _ rfl rfl hv
   ·cases hv
  ·cases hv
 |iface ti di=>
  simp only[zD1] at hv;simp only[rel] at ha;obtain⟨u,rfl,_⟩:=ha;split at hv
  ·simp only[rel] at hb;subst hb;unfold zPa at hv;split at hv
   ·rename_i ms hu;exact eqs false (zJg (fun o o'=>⟨rfl,rfl⟩) rfl rfl (fun d=>by simp[Op.equalIn,run_underlying hu])) _ _ rfl rfl hv
   ·cases hv
  ·cases hv
 |int k p=>
  simp only[zD1] at hv;split at hv
  ·rename_i k' q;simp only[rel] at ha hb;obtain⟨rfl,fa⟩:=ha;obtain⟨rfl,fb⟩:=hb;have hg:(eqGuard op t o o' (.int k p) (.int k' q)).run P w= .ok () w:=by rw[zMm];rfl
   have go:∀ (hv:zK3 op k p q=some d),YV P w0 G M ρ nid w (do eqGuard op t o o' (.int k p) (.int k' q);binOp op t (.int k p) (.int k' q)) d h:=fun hv=>by
    obtain⟨v,h1,h2⟩:=zPb (P:=P) (w:=w) (M:=M) (ρ:=ρ) (k':=k') fa hv t;exact fin v hg h1 h2
   unfold zA1 at hv;split at hv
   ·exact go hv
   ·exact go hv
   ·rename_i h1 h2;split at hv
    ·rename_i hk;subst hk;obtain⟨v,h3,h4⟩:=zUK (P:=P) (w:=w) (M:=M) (ρ:=ρ) fa hv ⟨h1,h2⟩ t;exact fin v hg h3 h4
    ·cases hv
  ·cases hv
 |str s=>
  simp only[zD1] at hv;split at hv
  ·simp only[rel] at ha hb;obtain⟨ba,rfl,rfl,la⟩:=ha;obtain⟨bb,rfl,rfl,lb⟩:=hb;obtain⟨v,h1,h2⟩:=zUL (P:=P) (w:=w) (M:=M) (ρ:=ρ) hv t;exact fin v (by rw[zMn];rfl) h1 h2
  ·cases hv
 |agg as=>
  simp only[zD1] at hv;split at hv
  ·rename_i bs;simp only[rel] at ha hb;obtain⟨xs,rfl,hxs⟩:=ha;obtain⟨ys,rfl,hys⟩:=hb;split at hv
   ·rename_i ks ht;cases hr:eqK ks as bs with
    |none=>unfold zQn at hv;rw[hr] at hv;cases op<;>simp[zAk] at hv
    |some r=>exact eqs r (zIG ht hxs hys hr) _ _ (by rw[hr];rfl) (by rw[hr];rfl) hv
   ·cases hv
  ·cases hv
 |ptr i k=>
  simp only[zD1] at hv;split at hv
  ·rename_i j q;split at hv
   ·rename_i hb2;simp only[Bool.and_eq_true] at hb2;have e1:=Nat.eq_of_beq_eq_true hb2.1;have e2:=Nat.eq_of_beq_eq_true hb2.2;subst e1 e2;simp only[rel] at ha hb;obtain⟨l,hl,rfl⟩:=ha;obtain⟨l',hl',rfl⟩:=hb;rw[hl] at hl';cases hl';unfold zWK at hv;split at hv
    ·rename_i e hu;split at hv
     ·rename_i ji hj;exact eqs true (zJg (fun o o'=>⟨rfl,rfl⟩) rfl rfl (fun d=>by simp[Op.equalIn,run_underlying hu,sizeOf,typeInfo,hj,run_sameAddr_same])) _ _ rfl rfl hv
     ·cases hv
    ·cases hv
   ·cases hv
  ·exact other hv
 |_=>exact other hv
theorem zbN (hs:Sim w0 G M ρ h w) {op:UnOp} {x d:D} {a:Value} (ha:rel M ρ x a) (hv:vun op x=some d):YV P w0 G M ρ nid w (Op.unary op a) d h:=by
 unfold vun at hv;split at hv
 ·cases hv;simp only[rel] at ha;obtain⟨rfl,_⟩:=ha;exact .pure hs (by simp only[Op.unary,Op.intArith,Sem.run_pure]) (yg (wF _ _))
 ·cases hv;simp only[rel] at ha;subst ha;exact .pure hs (by simp only[Op.unary,Sem.run_pure]) (ym _)
 ·cases hv
theorem zQt (hs:Sim w0 G M ρ h w) {t:TypeId} {x i d:D} {vx vi:Value} (hx:rel M ρ x vx) (hi:rel M ρ i vi) (hv:zA2 P t x i=some d):YV P w0 G M ρ nid w (Instr.index t vx vi) d h:=by
 unfold zA2 at hv;split at hv
 ·rename_i k n;simp only[rel] at hi;obtain⟨rfl,_⟩:=hi;split at hv
  ·rename_i s;simp only[rel] at hx;obtain⟨b,rfl,rfl,_⟩:=hx;split at hv
   ·rename_i hu;split at hv
    ·rename_i h0;split at hv
     ·rename_i c hc;cases hv;have hb:b[n.toNat]? =some c:=by
       have:b.data[n.toNat]? =some c:=by simpa using hc
       rw[←this];rfl
      refine .pure hs (v:= .int .u8 c.toNat) ?_ (yg ?_)
      ·simp[Instr.index,asIntOf,run_underlying hu,h0,hb]
      ·rw[wY];have:=c.toNat_lt;simp[IntKind.min,IntKind.max,IntKind.signed,IntKind.bits];omega
     ·cases hv
    ·cases hv
   ·cases hv
  ·rename_i cs;simp only[rel] at hx;obtain⟨vs,rfl,hvs,fvs⟩:=hx;split at hv
   ·rename_i len e he;split at hv
    ·rename_i ag hag;split at hv
     ·rename_i hc;simp only[Bool.and_eq_true,decide_eq_true_eq] at hc;obtain⟨v,h1,h2⟩:=zC6 (w:=w) hag hvs fvs hv;obtain⟨td,htd,_⟩:=zGO (w:=w) hag;exact .pure hs (by simp[Instr.index,asIntOf,run_underlying (zD8 he),hc,zCY htd,h1]) h2
     ·cases hv
    ·cases hv
   ·cases hv
  ·cases hv
 ·cases hv
theorem zQu (hs:Sim w0 G M ρ h w) {t ft:TypeId} {f off:Nat} {cs:List D} {d:D} {ag:Bool} {vx:Value} (hx:rel M ρ (.agg cs) vx) (hf:zq P t f=some (off,ft)) (hag:agT P ft=some ag) (hv:ze ag (szT P ft) cs off=some d):
  YV P w0 G M ρ nid w (Instr.field t vx f) d h:=by
 obtain⟨fs,fl,hu,hfl,rfl,rfl⟩:=zGt hf;simp only[rel] at hx;obtain⟨vs,rfl,hvs,fvs⟩:=hx;obtain⟨v,h1,h2⟩:=zC6 (w:=w) hag hvs fvs hv;exact .pure hs (by simp[Instr.field,run_underlying hu,hfl,asAgg,h1]) h2
theorem zMo (hs:Sim w0 G M ρ h w) {x d:D} {i:Nat} {vx:Value} (hx:rel M ρ x vx) (hv:zo x i=some d):YV P w0 G M ρ nid w (Instr.extract vx i) d h:=by
 unfold zo at hv;split at hv
 ·simp only[rel] at hx;obtain⟨vs,rfl,hvs⟩:=hx;obtain⟨v,h1,h2⟩:=yq hvs i d hv;have h1':vs[i]? =some v:=by simpa using h1
  exact .pure hs (by simp[Instr.extract,h1']) h2
 ·cases hv
end
section
variable {P:Program} {w0:Base} {G:List Nat} {M:Imm} {ρ:Ren} {h:Heap} {w:World} {nid:Nat}
theorem zFc {n:Nat} {lo hi:Option D} {l u:Nat} (hv:qj n lo hi=some (l,u)):zIC n hi=some u∧zJa u lo=some l:=by
 unfold qj at hv;split at hv
 ·cases hv
 ·rename_i h' hq;split at hv
  ·cases hv
  ·rename_i l' hl';cases hv;exact⟨hq,hl'⟩
theorem zJh {n:Nat} {hi:Option D} {u:Nat} (hv:zIC n hi=some u) {vhi:Option Value} (hhi:∀d,hi=some d→∃v,vhi=some v∧rel M ρ d v) (hhi':hi=none→vhi=none):
  (vhi=none∧u=n)∨∃k x,vhi=some (.int k x)∧0≤x∧x≤n∧u=x.toNat:=by
 cases hi with
 |none=>simp[zIC] at hv;exact .inl ⟨hhi' rfl,hv.symm⟩
 |some d=>
  cases d with
  |int k x=>
   simp only[zIC,Bool.and_eq_true,decide_eq_true_eq] at hv;split at hv
   ·rename_i hc;obtain⟨v,rfl,hr⟩:=hhi _ rfl;simp only[rel] at hr;obtain⟨rfl,_⟩:=hr;cases hv;exact .inr ⟨k,x,rfl,hc.1,hc.2,rfl⟩
   ·cases hv
  |_=>simp[zIC] at hv
theorem zN7 {n:Nat} {lo:Option D} {l:Nat} (hv:zJa n lo=some l) {vlo:Option Value} (hlo:∀d,lo=some d→∃v,vlo=some v∧rel M ρ d v) (hlo':lo=none→vlo=none):
  (vlo=none∧l=0)∨∃k x,vlo=some (.int k x)∧0≤x∧x≤n∧l=x.toNat:=by
 cases lo with
 |none=>simp[zJa] at hv;exact .inl ⟨hlo' rfl,hv.symm⟩
 |some d=>
  cases d with
  |int k x=>
   simp only[zJa,Bool.and_eq_true,decide_eq_true_eq] at hv;split at hv
   ·rename_i hc;obtain⟨v,rfl,hr⟩:=hlo _ rfl;simp only[rel] at hr;obtain⟨rfl,_⟩:=hr;cases hv;exact .inr ⟨k,x,rfl,hc.1,hc.2,rfl⟩
   ·cases hv
  |_=>simp[zJa] at hv
theorem wg {n:Nat} {lo hi:Option D} {l u:Nat} (hv:qj n lo hi=some (l,u)):l≤u∧u≤n:=by
 obtain⟨h1,h2⟩:=zFc hv;refine⟨?_,?_⟩
 ·cases lo with
  |none=>simp[zJa] at h2;omega
  |some d=>
   cases d with
   |int k x=>
    simp only[zJa,Bool.and_eq_true,decide_eq_true_eq] at h2;split at h2
    ·cases h2;omega
    ·cases h2
   |_=>simp[zJa] at h2
 ·cases hi with
  |none=>simp[zIC] at h1;omega
  |some d=>
   cases d with
   |int k x=>
    simp only[zIC,Bool.and_eq_true,decide_eq_true_eq] at h1;split at h1
    ·cases h1;omega
    ·cases h1
   |_=>simp[zIC] at h1
theorem zA4 {n cap:Nat} {lo hi:Option D} {l u:Nat} (hv:qj n lo hi=some (l,u)) (hcap:n≤cap) (isS:Bool) {vlo vhi:Option Value}
  (hlo:∀d,lo=some d→∃v,vlo=some v∧rel M ρ d v) (hlo':lo=none→vlo=none) (hhi:∀d,hi=some d→∃v,vhi=some v∧rel M ρ d v) (hhi':hi=none→vhi=none):
  (Instr.sliceBounds isS n cap vlo vhi none).run P w= .ok (l,u,cap) w:=by
 obtain⟨h1,h2⟩:=zFc hv;rcases zJh h1 hhi hhi' with⟨rfl,rfl⟩ | ⟨k,x,rfl,x0,x1,rfl⟩ <;>rcases zN7 h2 hlo hlo' with⟨rfl,rfl⟩ | ⟨k',y,rfl,y0,y1,rfl⟩
 ·simp[Instr.sliceBounds]
 ·simp[Instr.sliceBounds,run_sliceBound w k' y _ _ y0 y1]
 ·simp[Instr.sliceBounds,run_sliceBound w k x cap _ x0 (by omega)]
 ·simp[Instr.sliceBounds,run_sliceBound w k x cap _ x0 (by omega),run_sliceBound w k' y x.toNat _ y0 y1]
theorem zJi {sz:Nat} {xs:List (List D)} {b p:Nat} (hE:zB2 M ρ sz xs b p) (l u:Nat):zB2 M ρ sz ((xs.take u).drop l) b (p+l*sz):=
 zAD fun i x hx=>by
  have h1:xs[l+i]? =some x:=by
   simp only[List.getElem?_drop,List.getElem?_take] at hx;split at hx
   ·exact hx
   ·cases hx
  have:=zGN hE _ _ h1;rw[Nat.add_mul,←Nat.add_assoc] at this;exact this
theorem zD9 {n:Nat} {lo:Option D} {hi m:D} {l u:Nat} (hv:zB3 n lo hi m=some (l,u)):zIC n (some m)=some u∧zIC u (some hi)=some u∧zJa u lo=some l:=by
 unfold zB3 at hv;split at hv
 ·cases hv
 ·rename_i mm hm;split at hv
  ·cases hv
  ·rename_i u' hu;split at hv
   ·rename_i he;split at hv
    ·cases hv
    ·rename_i l' hl;cases hv;subst he;exact⟨hm,hu,hl⟩
   ·cases hv
theorem zEA {n:Nat} {lo:Option D} {hi m:D} {l u:Nat} (hv:zB3 n lo hi m=some (l,u)):l≤u∧u≤n:=by
 obtain⟨h1,h2,h3⟩:=zD9 hv;have k1:qj n lo (some m)=some (l,u):=by unfold qj;rw[h1];simp only;rw[h3]
 exact wg k1
theorem zCZ {n cap:Nat} {lo:Option D} {hi m:D} {l u:Nat} (hv:zB3 n lo hi m=some (l,u)) (hcap:n≤cap) (isS:Bool) {vlo:Option Value} {vhi vm:Value}
  (hlo:∀d,lo=some d→∃v,vlo=some v∧rel M ρ d v) (hlo':lo=none→vlo=none) (hhi:rel M ρ hi vhi) (hm:rel M ρ m vm):
  (Instr.sliceBounds isS n cap vlo (some vhi) (some vm)).run P w= .ok (l,u,u) w:=by
 obtain⟨h1,h2,h3⟩:=zD9 hv;rcases zJh (M:=M) (ρ:=ρ) (vhi:=some vm) h1 (fun d e=>by cases e;exact⟨vm,rfl,hm⟩) (fun e=>by cases e) with⟨e,_⟩ | ⟨k,x,e,x0,x1,hu⟩
 ·cases e
 ·cases e;rcases zJh (M:=M) (ρ:=ρ) (vhi:=some vhi) h2 (fun d e=>by cases e;exact⟨vhi,rfl,hhi⟩) (fun e=>by cases e) with⟨e,_⟩ | ⟨k',y,e,y0,y1,hu'⟩
  ·cases e
  ·cases e;rcases zN7 h3 hlo hlo' with⟨rfl,rfl⟩ | ⟨k'',z,rfl,z0,z1,rfl⟩
   ·simp[Instr.sliceBounds,run_sliceBound w k x cap _ x0 (by omega),←hu,run_sliceBound w k' y u _ y0 y1,←hu']
   ·simp[Instr.sliceBounds,run_sliceBound w k x cap _ x0 (by omega),←hu,run_sliceBound w k' y u _ y0 y1,←hu',run_sliceBound w k'' z u _ z0 z1]
theorem zPc (hs:Sim w0 G M ρ h w) {t:TypeId} {x d hi m:D} {lo:Option D} {vx vhi vm:Value} {vlo:Option Value} (hx:rel M ρ x vx)
  (hlo:∀d,lo=some d→∃v,vlo=some v∧rel M ρ d v) (hlo':lo=none→vlo=none) (hhi:rel M ρ hi vhi) (hm:rel M ρ m vm)
  (hv:zMk P t x lo hi m=some d):YV P w0 G M ρ nid w (Instr.sliceAt t vx vlo (some vhi) (some vm)) d h:=by
 unfold zMk at hv;split at hv
 ·cases hv
 ·rename_i e he;split at hv
  ·cases hv
  ·rename_i hez;have hu:=qv he;have hz:=z6 (P:=P) (w:=w) hez;have hu':P.underlying t=some (.slice (P.elem t)):=by rw[hu];simp[Program.elem,hu]
   split at hv
   ·rename_i sz xs tk;split at hv
    ·rename_i hsz;split at hv
     ·rename_i l u hb;cases hv;simp only[rel] at hx;obtain⟨h0,hlim,b,p,cap,⟨sp,rfl,hsp⟩,hcap,hE,htk⟩:=hx;have hrun:=zCZ (P:=P) (w:=w) (M:=M) (ρ:=ρ) hb hcap true hlo hlo' hhi hm;have hspc:=zEA hb;rcases hsp with rfl|rfl
      case inr=>
       obtain rfl:xs= []:=List.eq_nil_of_length_eq_zero (by omega);simp only[List.length_nil] at hspc;obtain rfl:u=0:=by omega
       obtain rfl:l=0:=by omega
       refine .pure hs (v:= .slice (some ⟨b,p,sp⟩) 0 0) ?_ ?_
       ·rw[run_sliceAt_slice (w:=w) t _ _ _ _ hu'];simp only[Instr.slice,Sem.run_bind,run_underlying hu,Result.andThen_ok,hrun,hz,Sem.run_pure];rfl
       ·simp only[rel];exact⟨h0,by simp,b,p,0,⟨sp,rfl, .inr rfl⟩,by simp,by simp[zB2],by simp⟩
      refine .pure hs (v:= .slice (some ⟨b,if u=l then p else p+l*sz,none⟩) (u-l) (u-l)) ?_ ?_
      ·rw[run_sliceAt_slice (w:=w) t _ _ _ _ hu'];simp only[Instr.slice,Sem.run_bind,run_underlying hu,Result.andThen_ok,hrun,hz,Sem.run_pure];congr 2;split<;>simp[qF,←hsz]
      ·simp only[rel];have hlen:((xs.take u).drop l).length=u-l:=by simp only[List.length_drop,List.length_take];omega
       refine⟨h0,by omega,b,_,_,by rw[hlen];exact zQq.mk _ _ _ _,by omega,?_,hlen.symm⟩;by_cases hc:u=l
       ·have:(xs.take u).drop l= []:=by apply List.eq_nil_of_length_eq_zero;omega
        rw[this];simp[zB2]
       ·rw[if_neg hc];exact zJi hE l u
     ·cases hv
    ·cases hv
   ·rename_i id sz off len;split at hv
    ·rename_i hsz;split at hv
     ·rename_i l u hb;split at hv
      ·rename_i hlu;cases hv;simp only[rel] at hx;obtain⟨h0,hlim,lc,cap,o,hl,rfl,hcap,hsize,ho⟩:=hx;have hrun:=zCZ (P:=P) (w:=w) (M:=M) (ρ:=ρ) hb hcap.1 true hlo hlo' hhi hm;refine .pure hs (v:= .slice (some ⟨lc.blk,o,none⟩) 0 0) ?_ ?_
       ·rw[run_sliceAt_slice (w:=w) t _ _ _ _ hu'];simp only[Instr.slice,Sem.run_bind,run_underlying hu,Result.andThen_ok,hrun,hz,Sem.run_pure];rw[if_pos hlu.symm,hlu,Nat.sub_self]
       ·simp only[rel];exact⟨h0,by simp,lc.blk,o,0,zQq.mk _ _ _ _,Nat.le_refl _,by simp[zB2],rfl⟩
      ·cases hv
     ·cases hv
    ·cases hv
   ·split at hv
    ·rename_i q hb;cases hv;simp only[rel] at hx;subst hx;obtain⟨l,u⟩:=q;have hrun:=zCZ (P:=P) (w:=w) (M:=M) (ρ:=ρ) hb (Nat.le_refl 0) true hlo hlo' hhi hm;have hsp:=zEA hb;obtain rfl:l=0:=by omega
     obtain rfl:u=0:=by omega
     refine .pure hs (v:= .slice none 0 0) ?_ (by simp only[rel]);rw[run_sliceAt_slice (w:=w) t _ _ _ _ hu'];simp only[Instr.slice,Sem.run_bind,run_underlying hu,Result.andThen_ok,hrun,hz,Sem.run_pure];rfl
    ·cases hv
   ·cases hv
theorem zQv (hs:Sim w0 G M ρ h w) {t:TypeId} {x d:D} {lo hi:Option D} {vx:Value} {vlo vhi:Option Value} (hx:rel M ρ x vx)
  (hlo:∀d,lo=some d→∃v,vlo=some v∧rel M ρ d v) (hlo':lo=none→vlo=none) (hhi:∀d,hi=some d→∃v,vhi=some v∧rel M ρ d v) (hhi':hi=none→vhi=none)
  (hv:zCN P t x lo hi none=some d):YV P w0 G M ρ nid w (Instr.sliceAt t vx vlo vhi none) d h:=by
 simp only[zCN] at hv;split at hv
 ·rename_i s;split at hv
  ·rename_i hu;split at hv
   ·rename_i l u hb;cases hv;simp only[rel] at hx;obtain⟨b,rfl,rfl,hlim⟩:=hx;have hsz:b.size=b.data.toList.length:=by rw[Array.length_toList];rfl
    rw[←hsz] at hb;have hrun:=zA4 (P:=P) (w:=w) (M:=M) (ρ:=ρ) hb (Nat.le_refl _) false hlo hlo' hhi hhi';have hsp:=wg hb;refine .pure hs (v:= .string (b.extract l u)) ?_ ?_
    ·rw[run_sliceAt_string (w:=w) t _ _ _ _ hu];simp only[Instr.slice,Sem.run_bind,run_underlying hu,Result.andThen_ok,Option.isSome_none,Bool.false_eq_true,if_false,hrun,Sem.run_pure]
    ·simp only[rel];refine⟨_,rfl,?_,?_⟩
     ·simp[ByteArray.data_extract,List.drop_take]
     ·simp only[List.length_drop,List.length_take];omega
   ·cases hv
  ·cases hv
 ·rename_i sz xs tk;split at hv
  ·rename_i e he;split at hv
   ·rename_i hsz;split at hv
    ·rename_i l u hb;cases hv;simp only[rel] at hx;obtain⟨h0,hlim,b,p,cap,⟨sp,rfl,hsp⟩,hcap,hE,htk⟩:=hx;have hrun:=zA4 (P:=P) (w:=w) (M:=M) (ρ:=ρ) hb hcap true hlo hlo' hhi hhi';have hspc:=wg hb;have hu:=qv he;have hz:=z6 (P:=P) (w:=w) (t:=e) (by omega);rcases hsp with rfl|rfl
     case inr=>
      obtain rfl:xs= []:=List.eq_nil_of_length_eq_zero (by omega);simp only[List.length_nil] at hspc;obtain rfl:u=0:=by omega
      obtain rfl:l=0:=by omega
      refine .pure hs (v:= .slice (some ⟨b,p,sp⟩) 0 0) ?_ ?_
      ·have hu':P.underlying t=some (.slice (P.elem t)):=by rw[hu];simp[Program.elem,hu]
       rw[run_sliceAt_slice (w:=w) t _ _ _ _ hu'];simp only[Instr.slice,Sem.run_bind,run_underlying hu,Result.andThen_ok,hrun,hz,Sem.run_pure];rfl
      ·simp only[rel];refine⟨h0,by simp,b,p,0,⟨sp,rfl, .inr rfl⟩,by simp,by simp[zB2],?_⟩;cases tk<;>simp[zMj]
     refine .pure hs (v:= .slice (some ⟨b,if cap=l then p else p+l*sz,none⟩) (u-l) (cap-l)) ?_ ?_
     ·have hu':P.underlying t=some (.slice (P.elem t)):=by rw[hu];simp[Program.elem,hu]
      rw[run_sliceAt_slice (w:=w) t _ _ _ _ hu'];simp only[Instr.slice,Sem.run_bind,run_underlying hu,Result.andThen_ok,hrun,hz,Sem.run_pure];congr 2;split<;>simp[qF,←hsz]
     ·simp only[rel];have hlen:((xs.take u).drop l).length=u-l:=by simp only[List.length_drop,List.length_take];omega
      refine⟨h0,by omega,b,_,_,by rw[hlen];exact zQq.mk _ _ _ _,by omega,?_,?_⟩
      ·by_cases hc:cap=l
       ·have:(xs.take u).drop l= []:=by apply List.eq_nil_of_length_eq_zero;omega
        rw[this];simp[zB2]
       ·rw[if_neg hc];exact zJi hE l u
      ·cases tk with
       |no=>simp only[zMj]
       |own t=>simp only[zMj]
       |full=>
        simp only at htk;by_cases hc':u=xs.length
        ·simp only[zMj,hc',if_true,List.take_length,List.length_drop];omega
        ·simp only[zMj,hc',if_false]
    ·cases hv
   ·cases hv
  ·cases hv
 ·rename_i id sz off len;split at hv
  ·rename_i e he;split at hv
   ·rename_i hsz;split at hv
    ·rename_i l u hb;cases hv;simp only[rel] at hx;obtain⟨h0,hlim,lc,cap,o,hl,rfl,hcap,hsize,ho⟩:=hx;have hrun:=zA4 (P:=P) (w:=w) (M:=M) (ρ:=ρ) hb hcap.1 true hlo hlo' hhi hhi';have hsp:=wg hb;have hu:=qv he;have hz:=z6 (P:=P) (w:=w) (t:=e) (by omega);refine .pure hs (v:= .slice (some ⟨lc.blk,if cap=l then o else o+l*sz,none⟩) (u-l) (cap-l)) ?_ ?_
     ·have hu':P.underlying t=some (.slice (P.elem t)):=by rw[hu];simp[Program.elem,hu]
      rw[run_sliceAt_slice (w:=w) t _ _ _ _ hu'];simp only[Instr.slice,Sem.run_bind,run_underlying hu,Result.andThen_ok,hrun,hz,Sem.run_pure];congr 2;split<;>simp[qF,←hsz]
     ·simp only[rel];refine⟨h0,by omega,lc,cap-l,_,hl,rfl,by omega,?_,?_⟩
      ·have:(cap-l)*sz+l*sz=cap*sz:=by rw[←Nat.add_mul];congr 1;omega
       omega
      ·by_cases hc:cap=l
       ·left;omega
       ·right;rw[if_neg hc];rcases ho with ho|ho
        ·omega
        ·rw[ho]
    ·cases hv
   ·cases hv
  ·cases hv
 ·split at hv
  ·rename_i e he;split at hv
   ·cases hv
   rename_i hez;split at hv
   ·rename_i q hb;cases hv;simp only[rel] at hx;subst hx;have hrun:=zA4 (P:=P) (w:=w) (M:=M) (ρ:=ρ) hb (Nat.le_refl 0) true hlo hlo' hhi hhi';have hsp:=wg hb;have hu:=qv he;obtain⟨l,u⟩:=q;obtain rfl:l=0:=by omega
    obtain rfl:u=0:=by omega
    refine .pure hs (v:= .slice none 0 0) ?_ (by simp only[rel]);have hu':P.underlying t=some (.slice (P.elem t)):=by rw[hu];simp[Program.elem,hu]
    rw[run_sliceAt_slice (w:=w) t _ _ _ _ hu'];have hn:=z6 (P:=P) (w:=w) hez;simp only[Instr.slice,Sem.run_bind,run_underlying hu,Result.andThen_ok,hrun,hn,Sem.run_pure];rfl
   ·cases hv
  ·cases hv
 ·cases hv
theorem qO (sz:Nat):∀ (n:Nat) (cs:List D),(yT sz n cs).length=n
 |0,_=>rfl
 |n+1,cs=>by simp[yT,qO sz n]
theorem zGu (sz:Nat):∀ (n:Nat) (ds:List D),yT sz n (ds.take (n*sz))=yT sz n ds
 |0,_=>rfl
 |n+1,ds=>by
  simp only[yT];rw[List.take_take,Nat.min_eq_left (by rw[Nat.succ_mul];omega),List.drop_take,show(n+1)*sz-sz=n*sz by rw[Nat.succ_mul];omega,zGu sz n]
theorem zCa {M:Imm} {ρ:Ren} {sz b:Nat} :∀ (n:Nat) {ds:List D} {p:Nat},ds.length=n*sz→zBP M ρ ds b p→zB2 M ρ sz (yT sz n ds) b p
 |0,_,_,_,_=>trivial
 |n+1,ds,p,hl,h=>by
  have hl2:ds.length=n*sz+sz:=by rw[hl,Nat.succ_mul]
  have hx:=zAp h;simp only[yT,zB2];refine⟨by simp;omega,yi fun i d hd=> ?_,zCa n (by simp;omega) (yi fun i d hd=> ?_)⟩
  ·rw[List.getElem?_take] at hd;split at hd
   ·exact hx i d hd
   ·cases hd
  ·rw[List.getElem?_drop] at hd;obtain⟨h1,v,h2,h3⟩:=hx _ d hd;exact⟨h1,v,by rw[←h2];congr 1;omega,h3⟩
theorem zPd (hs:Sim w0 G M ρ h w) {t e:TypeId} {n:Nat} {x d:D} {lo hi:Option D} {vx:Value} {vlo vhi:Option Value} (ht:zKx P t=some (n,e)) (hx:rel M ρ x vx)
  (hlo:∀d,lo=some d→∃v,vlo=some v∧rel M ρ d v) (hlo':lo=none→vlo=none) (hhi:∀d,hi=some d→∃v,vhi=some v∧rel M ρ d v) (hhi':hi=none→vhi=none)
  (hv:zJb P n e x lo hi h=some d):YV P w0 G M ρ nid w (Instr.sliceAt t vx vlo vhi none) d h:=by
 unfold zJb at hv;split at hv
 ·rename_i hc;simp only[Bool.and_eq_true,decide_eq_true_eq] at hc;obtain⟨h0,hlim⟩:=hc;have hu:=zD8 ht;have hz:=z6 (P:=P) (w:=w) (t:=e) (by omega);split at hv
  ·cases hv
  ·rename_i l u hb;have hrun:=zA4 (P:=P) (w:=w) (M:=M) (ρ:=ρ) hb (Nat.le_refl _) false hlo hlo' hhi hhi';have hsp:=wg hb;split at hv
   ·rename_i id off;split at hv
    ·rename_i cs hi';split at hv
     ·rename_i hle;cases hv;simp only[rel] at hx;obtain⟨lc,hl,rfl⟩:=hx;obtain⟨lc',h1,_,hM,c,ty,hw,hls,hlen,_⟩:=hs.live id _ hi';rw[hl] at h1;cases h1;refine .pure hs (v:= .slice (some ⟨lc.blk,if n=l then off else off+l*szT P e,none⟩) (u-l) (n-l)) ?_ ?_
      ·simp only[Instr.sliceAt,Sem.run_bind,run_underlying hu,Result.andThen_ok,Instr.sureAddr,Sem.run_pure,hrun,hz];congr 2;split<;>simp[qF]
      ·simp only[rel];refine⟨h0,by omega,lc,n-l,_,hl,rfl,⟨by omega,by unfold maxLen;unfold lim at *;omega⟩,?_,?_⟩
       ·have:(n-l)*szT P e+l*szT P e=n*szT P e:=by rw[←Nat.add_mul];congr 1;omega
        omega
       ·by_cases hcc:n=l
        ·left;omega
        ·right;rw[if_neg hcc]
     ·cases hv
    ·cases hv
   ·rename_i cs off;split at hv
    ·rename_i hle;cases hv;simp only[rel] at hx;obtain⟨b,p,rfl,hC⟩:=hx;have hg:=zAp hC;have hE:zB2 M ρ (szT P e) (yT (szT P e) n ((cs.drop off).take (n*szT P e))) b (p+off):=zCa _ (by simp;omega) (yi fun i d hi=>by
      rw[List.getElem?_take] at hi;split at hi
      ·rw[List.getElem?_drop] at hi;obtain⟨g1,v,g2,g3⟩:=hg _ d hi;exact⟨g1,v,by rw[←g2];congr 1;omega,g3⟩
      ·cases hi)
     have hch:yT (szT P e) n ((cs.drop off).take (n*szT P e))=yT (szT P e) n (cs.drop off):=zGu _ _ _;rw[hch] at hE;refine .pure hs (v:= .slice (some ⟨b,if n=l then p+off else p+off+l*szT P e,none⟩) (u-l) (n-l)) ?_ ?_
     ·simp only[Instr.sliceAt,Sem.run_bind,run_underlying hu,Result.andThen_ok,Instr.sureAddr,Sem.run_pure,hrun,hz];congr 2;split<;>simp[qF]
     ·have hl2:(((yT (szT P e) n (cs.drop off)).take u).drop l).length=u-l:=by rw[List.length_drop,List.length_take,qO];omega
      simp only[rel];refine⟨h0,by omega,b,_,n-l,by rw[hl2];exact zQq.mk _ _ _ _,by omega,?_,?_⟩
      ·by_cases hcc:n=l
       ·have:((yT (szT P e) n (cs.drop off)).take u).drop l= []:=by apply List.eq_nil_of_length_eq_zero;omega
        rw[this];simp[zB2]
       ·rw[if_neg hcc];exact zJi hE l u
      ·by_cases hun:u=n
       ·rw[if_pos hun];simp only;omega
       ·rw[if_neg hun];trivial
    ·cases hv
   ·cases hv
 ·cases hv
theorem zN8 {ds:List D} {vs:List Value} {b:Nat} (hr:zy M ρ ds vs) (hf:ds.all D.flat=true) (hM:∀o,M b o=none):zBP (zBg M b 0 vs) ρ ds b 0:=
 yi fun i d hi=>by
  obtain⟨v,h1,h2⟩:=yq hr i d hi;exact⟨List.all_eq_true.1 hf d (List.mem_of_getElem? hi),v,zJc h1,qE (zB4 fun o _=>hM o) (RLe.refl _) _ _ h2⟩
theorem qo {d:D} {v:Value} (hr:rel M ρ d v):zy M ρ d.cells v.cells.toList:=by
 cases d<;>first
  |(simp only[rel] at hr;obtain⟨vs,rfl,h,_⟩:=hr;simpa [D.cells,Value.cells] using h;done)
  |skip
 all_goals
  have hc:v.cells= #[v]:=by
   simp only[rel] at hr
   first
    |(subst hr;rfl)
    |(obtain⟨rfl,_⟩:=hr;rfl)
    |(obtain⟨_,rfl,_⟩:=hr;rfl)
    |(obtain⟨_,_,rfl⟩:=hr;rfl)
    |(obtain⟨_,_,rfl,_⟩:=hr;rfl)
    |(obtain⟨_,_,_,_,_,⟨_,rfl,_⟩,_⟩:=hr;rfl)
    |(obtain⟨_,_,_,_,_,rfl,_⟩:=hr;rfl)
    |(obtain⟨_,_,_,_,_,_,rfl,_⟩:=hr;rfl)
    |(obtain⟨_,_,_,rfl,_⟩:=hr;rfl)
  rw[hc];simp only[D.cells];exact yD (by simp) fun i d u h1 h2=>by
   cases i with
   |zero=>simp at h1 h2;subst h1 h2;exact hr
   |succ i=>simp at h1
theorem wM {d:D} {v:Value} (hr:rel M ρ d v) (ht:d.notTuple=true):d.cells.all D.flat=true:=by
 cases d with
 |agg cs=>simp only[rel] at hr;exact(by obtain⟨_,_,_,h⟩:=hr;exact h)
 |tuple cs=>cases ht
 |_=>rfl
theorem zEz (t:TypeId) (v:Value):(newVar t v).run P w= .ok ⟨w.heap.size,0,none⟩ (w.alloc (.cells v.cells t)):=by
 simp[newVar,newRow]
theorem zMp (hs:Sim w0 G M ρ h w) {t:TypeId} {x:D} {v:Value} (hx:rel M ρ x v) (ht:x.notTuple=true):YV P w0 G M ρ nid w (Instr.box t v) (.iptr x.cells 0) h:=by
 have hm:∀o,M w.heap.size o=none:=hs.none_at (Nat.le_refl _);have hi:=hs.allocImm v.cells t v.cells.size;rw[show v.cells.toList.take v.cells.size=v.cells.toList by rw[←Array.length_toList];exact List.take_length] at hi;refine⟨.pointer (some ⟨w.heap.size,0,none⟩),_,zBg M w.heap.size 0 v.cells.toList,ρ,?_,zB4 fun o _=>hm o,RLe.refl _,fun _ _=>rfl,hi,?_⟩
 ·simp[Instr.box,zEz]
 ·simp only[rel];exact⟨w.heap.size,0,rfl,zN8 (qo hx) (wM hx ht) hm⟩
theorem zC7 {w:World} {c:Array Value} {t:TypeId} {l:Loc} {ds:List D} (hM:∀o,M l.blk o=none) (hw:w.heap[l.blk]? =some (.cells c t (0,0))) (hsz:l.size=c.size) (hle:ds.length≤c.size)
  (hr:zy M ρ ds (c.toList.take ds.length)) (hf:ds.all D.flat=true):qJ M ρ w l (.row ds):=
 ⟨hM,c,t,hw,hsz,hle,fun i d hi=>by
  obtain⟨v,h1,h2⟩:=yq hr i d hi;have hlt:i<ds.length:=(List.getElem?_eq_some_iff.1 hi).1;exact⟨List.all_eq_true.1 hf d (List.mem_of_getElem? hi),v,by simpa [List.getElem?_take,hlt] using h1,h2⟩⟩
theorem Sim.newRow (hs:Sim w0 G M ρ h w) (hn:ρ nid=none) {ds:List D} {c:Array Value} (t:TypeId) (hle:ds.length≤c.size) (hr:zy M ρ ds (c.toList.take ds.length)) (hf:ds.all D.flat=true):
  Sim w0 G M (zAE ρ nid ⟨w.heap.size,0,c.size⟩) (h.new nid (.row ds)) (w.alloc (.cells c t)):=by
 refine hs.allocObj hn _ _ _ rfl (zC7 (l:=⟨w.heap.size,0,c.size⟩) (hs.none_at (Nat.le_refl _)) (t:=t) (c:=c) ?_ rfl hle ?_ hf)
 ·show(w.heap.push _)[w.heap.size]? =_;simp
 ·have:=wD (MLe.refl M) (yw (l:=⟨w.heap.size,0,c.size⟩) hn) _ _ hr;exact this
theorem zB5 {w:World} {c:Array Value} {t:TypeId} {full:Bool} {l:Loc} {ds:List D} (hM:∀o,M l.blk o=none) (hw:w.heap[l.blk]? =some (.cells c t (0,0))) (hsz:l.size=c.size) (hle:ds.length≤c.size) (hfu:full=true→c.size=ds.length)
  (hr:zy M ρ ds (c.toList.take ds.length)) (hf:ds.all D.flat=true):qJ M ρ w l (.trow t full ds):=by
 obtain⟨h0,c',e,h1,h2,h3,h4⟩:=zC7 hM hw hsz hle hr hf;have h1':=h1;rw[hw] at h1';cases h1';exact⟨h0,c,t,h1,h2,h3,h4,rfl,hfu⟩
theorem Sim.newTRow (hs:Sim w0 G M ρ h w) (hn:ρ nid=none) {ds:List D} {c:Array Value} (t:TypeId) (full:Bool) (hle:ds.length≤c.size) (hfu:full=true→c.size=ds.length) (hr:zy M ρ ds (c.toList.take ds.length)) (hf:ds.all D.flat=true):
  Sim w0 G M (zAE ρ nid ⟨w.heap.size,0,c.size⟩) (h.new nid (.trow t full ds)) (w.alloc (.cells c t)):=by
 refine hs.allocObj hn _ _ _ rfl (zB5 (l:=⟨w.heap.size,0,c.size⟩) (hs.none_at (Nat.le_refl _)) (t:=t) (c:=c) ?_ rfl hle hfu ?_ hf)
 ·show(w.heap.push _)[w.heap.size]? =_;simp
 ·have:=wD (MLe.refl M) (yw (l:=⟨w.heap.size,0,c.size⟩) hn) _ _ hr;exact this
theorem zK5 (hs:Sim w0 G M ρ h w) (hn:ρ nid=none) {t:TypeId} {x:D} {v:Value} (hx:rel M ρ x v) (ht:x.notTuple=true):YV P w0 G M ρ nid w (Instr.box t v) (.ptr nid 0) (h.new nid (.trow t true x.cells)):=by
 have hc:=qo hx;have hl:=zU hc;have hlen:x.cells.length=v.cells.size:=by rw[←hl];simp
 have hrow:=hs.newTRow hn t true (ds:=x.cells) (c:=v.cells) (by omega) (fun _=>hlen.symm) (by rw[hlen,←Array.length_toList,List.take_length];exact hc) (wM hx ht);refine⟨.pointer (some ⟨w.heap.size,0,none⟩),_,M,_,?_,MLe.refl _,yw hn,fun i hi=>by simp[zAE,zBk hi],hrow,?_⟩
 ·simp[Instr.box,zEz]
 ·simp only[rel];exact⟨_,by simp[zAE];rfl,rfl⟩
theorem zGv (hs:Sim w0 G M ρ h w) (hn:ρ nid=none) {t:TypeId} {x:D} {v:Value} (hx:rel M ρ x v) (ht:x.notTuple=true):YV P w0 G M ρ nid w (Instr.box t v) (.ptr nid 0) (h.new nid (.row x.cells)):=by
 have hc:=qo hx;have hl:=zU hc;have hlen:x.cells.length=v.cells.size:=by rw[←hl];simp
 have hrow:=hs.newRow hn t (ds:=x.cells) (c:=v.cells) (by omega) (by rw[hlen,←Array.length_toList,List.take_length];exact hc) (wM hx ht);refine⟨.pointer (some ⟨w.heap.size,0,none⟩),_,M,_,?_,MLe.refl _,yw hn,fun i hi=>by simp[zAE,zBk hi],hrow,?_⟩
 ·simp[Instr.box,zEz]
 ·simp only[rel];exact⟨_,by simp[zAE];rfl,rfl⟩
end
section
variable {P:Program} {w0:Base} {G:List Nat} {M:Imm} {ρ:Ren} {h:Heap} {w:World} {nid:Nat}
theorem zQw (v:Value) (h:zBh v=true) (ho:v.oneCell'=true):(cst v).flat=true:=by
 unfold zBh at h;split at h<;>(first|rfl|cases ho|cases h)
theorem zN9:∀ (vs:List Value),zGn vs=true→vs.all (·.oneCell')=true→(zUI vs).all D.flat=true
 | [],_,_=>by simp[zUI]
 |v::vs,h,ho=>by
  simp only[List.all_cons,Bool.and_eq_true] at ho;simp only[zGn,Bool.and_eq_true] at h;simp only[zUI,List.all_cons,Bool.and_eq_true];exact⟨zQw v h.1 ho.1,zN9 vs h.2 ho.2⟩
mutual
theorem zMq:∀ (v:Value),zBh v=true→rel M ρ (cst v) v
 | .bool b,_=>by simp only[cst,rel]
 | .int k n,h=>by simp only[zBh,beq_iff_eq] at h;simp only[cst];exact yg h
 | .string s,h=>by simp only[zBh,decide_eq_true_eq] at h;simp only[cst,rel];exact⟨s,rfl,rfl,h⟩
 | .pointer none,_=>by simp only[cst,rel]
 | .pointer (some _),h=>by simp[zBh] at h
 | .slice none 0 0,_=>by simp only[cst,rel]
 | .slice none 0 (_+1),h=>by simp[zBh] at h
 | .slice none (_+1) _,h=>by simp[zBh] at h
 | .slice (some _) _ _,h=>by simp[zBh] at h
 | .map none,_=>by simp only[cst,rel]
 | .map (some _),h=>by simp[zBh] at h
 | .nilFunc,_=>by simp only[cst,rel]
 | .nilIface,_=>by simp only[cst,rel]
 | .agg cs,h=>by simp only[zBh,Bool.and_eq_true] at h;simp only[cst,rel];exact⟨cs,rfl,zJj cs.toList h.1,zN9 cs.toList h.1 h.2⟩
 | .tuple cs,h=>by simp only[zBh] at h;simp only[cst,rel];exact⟨cs,rfl,zJj cs.toList h⟩
 | .float _ _,h=>by simp[zBh] at h
 | .complex _ _ _,h=>by simp[zBh] at h
 | .chan _,h=>by simp[zBh] at h
 | .func _ _ _,h=>by simp[zBh] at h
 | .iface _ _,h=>by simp[zBh] at h
theorem zJj:∀ (vs:List Value),zGn vs=true→zy M ρ (zUI vs) vs
 | [],_=>by simp only[zUI,zy]
 |v::vs,h=>by
  simp only[zGn,Bool.and_eq_true] at h;simp only[zUI,zy];exact⟨v,vs,rfl,zMq v h.1,zJj vs h.2⟩
end
theorem wh {t:TypeId} {z:D} (hz:qS P t=some z):∃i v,P.info? t=some i∧i.zero=some v∧rel M ρ z v∧(zeroValue t).run P w= .ok v w:=by
 unfold qS at hz;cases hi:P.info? t with
 |none=>rw[hi] at hz;cases hz
 |some i=>
  rw[hi] at hz;simp only[Option.bind_some] at hz;cases hq:i.zero with
  |none=>rw[hq] at hz;cases hz
  |some v=>
   rw[hq] at hz;simp only at hz;split at hz
   ·rename_i hc;cases hz;exact⟨i,v,rfl,hq,zMq v hc,by simp[zeroValue,typeInfo,hi,hq]⟩
   ·cases hz
theorem zMr (t:TypeId) (cs:List D):zD4 t cs= .row cs∨zD4 t cs= .trow t true cs:=by
 unfold zD4;split
 ·exact .inl rfl
 ·split
  ·split
   ·exact .inl rfl
   ·split
    ·split
     ·exact .inr rfl
     ·exact .inl rfl
    ·exact .inl rfl
  ·exact .inl rfl
theorem zQx (hs:Sim w0 G M ρ h w) (hn:ρ nid=none) {t:TypeId} {z:D} (hz:qS P t=some z) (ht:z.notTuple=true):YV P w0 G M ρ nid w (Instr.alloc t true (.tuple #[])) (.ptr nid 0) (h.new nid (zD4 t z.cells)):=by
 obtain⟨i,v,_,_,hr,hrun⟩:=wh (M:=M) (ρ:=ρ) (w:=w) hz;obtain⟨u,w',M',ρ',h1,h2⟩:YV P w0 G M ρ nid w (Instr.box t v) (.ptr nid 0) (h.new nid (zD4 t z.cells)):=by
  rcases zMr t z.cells with e|e
  ·rw[e];exact zGv (P:=P) hs hn (t:=t) hr ht
  ·rw[e];exact zK5 (P:=P) hs hn (t:=t) hr ht
 refine⟨u,w',M',ρ',?_,h2⟩;rw[←h1];simp[Instr.alloc,Instr.box,hrun]
theorem zFd {d:D} {v:Value} (hr:rel M ρ d v) (hf:d.flat=true):v.oneCell'=true:=by
 cases d<;>simp[D.flat] at hf<;>simp only[rel] at hr<;>first
  |(subst hr;rfl)
  |(obtain⟨rfl,_⟩:=hr;rfl)
  |(obtain⟨_,rfl,_⟩:=hr;rfl)
  |(obtain⟨_,_,rfl⟩:=hr;rfl)
  |(obtain⟨_,_,rfl,_⟩:=hr;rfl)
  |(obtain⟨_,_,_,_,_,⟨_,rfl,_⟩,_⟩:=hr;rfl)
  |(obtain⟨_,_,_,_,_,rfl,_⟩:=hr;rfl)
  |(obtain⟨_,_,_,_,_,_,rfl,_⟩:=hr;rfl)
  |(obtain⟨_,_,_,rfl,_⟩:=hr;rfl)
theorem wN:∀ {ds:List D} {vs:List Value},zy M ρ ds vs→ds.all D.flat=true→∀v∈vs,v.oneCell'=true
 | [],_,h,_,v,hv=>by simp only[zy] at h;subst h;simp at hv
 |d::ds,_,h,hf,v,hv=>by
  simp only[zy] at h;obtain⟨u,us,rfl,h1,h2⟩:=h;simp only[List.all_cons,Bool.and_eq_true] at hf;rcases List.mem_cons.1 hv with rfl|hv
  ·exact zFd h1 hf.1
  ·exact wN h2 hf.2 v hv
theorem zC8 {cs ds:List D} {off:Nat} (h1:cs.all D.flat=true) (h2:ds.all D.flat=true):(y8 cs ds off).all D.flat=true:=by
 unfold y8;rw[List.all_append,List.all_append];simp only[Bool.and_eq_true];exact⟨⟨List.all_eq_true.2 fun d hd=>List.all_eq_true.1 h1 d (List.mem_of_mem_take hd),h2⟩,List.all_eq_true.2 fun d hd=>List.all_eq_true.1 h1 d (List.mem_of_mem_drop hd)⟩
theorem qe {α:Type} (l m:List α) (a:Nat) (hl:a+m.length≤l.length) (i:Nat):
  (l.take a++m++l.drop (a+m.length))[i]? =if i<a then l[i]? else if i<a+m.length then m[i-a]? else l[i]? :=by
 have h1:(l.take a).length=a:=by simp;omega
 by_cases h2:i<a
 ·rw[if_pos h2,List.append_assoc,List.getElem?_append_left (by omega),List.getElem?_take,if_pos h2]
 ·rw[if_neg h2,List.append_assoc,List.getElem?_append_right (by omega),h1];by_cases h3:i<a+m.length
  ·rw[if_pos h3,List.getElem?_append_left (by omega)]
  ·rw[if_neg h3,List.getElem?_append_right (by omega),List.getElem?_drop];congr 1;omega
theorem zB6 {as ds:List D} {xs vs:List Value} {off:Nat} (ha:zy M ρ as xs) (hd:zy M ρ ds vs) (hl:off+ds.length≤as.length):
  zy M ρ (y8 as ds off) (xs.take off++vs++xs.drop (off+vs.length)):=by
 have h1:=zU ha;have h2:=zU hd;refine yD ?_ fun i d v hi hv=> ?_
 ·simp[y8];omega
 ·unfold y8 at hi;rw[qe _ _ _ hl] at hi;rw[qe _ _ _ (by omega),h2] at hv;split at hi
  ·rename_i hc;rw[if_pos hc] at hv;obtain⟨u,e1,e2⟩:=yq ha i d hi;rw[e1] at hv;cases hv;exact e2
  ·rename_i hc;rw[if_neg hc] at hv;split at hi
   ·rename_i hc';rw[if_pos hc'] at hv;obtain⟨u,e1,e2⟩:=yq hd _ d hi;rw[e1] at hv;cases hv;exact e2
   ·rename_i hc';rw[if_neg hc'] at hv;obtain⟨u,e1,e2⟩:=yq ha i d hi;rw[e1] at hv;cases hv;exact e2
theorem Sim.setRow (hs:Sim w0 G M ρ h w) {id:Nat} {cs cs':List D} {l:Loc} (hi:h.at' id=some (.row cs)) (hl:ρ id=some l) {c c':Array Value} {t:TypeId} (hw:w.heap[l.blk]? =some (.cells c t (0,0)))
  (hsz:c'.size=c.size) (hle:cs'.length≤c'.size) (hr:zy M ρ cs' (c'.toList.take cs'.length)) (hf:cs'.all D.flat=true):Sim w0 G M ρ (h.set id (.row cs')) (w.setRow l.blk c'):=by
 obtain⟨l',h1,_,hM,c0,e0,h3,h4,_,_⟩:=hs.live id _ hi;rw[hl] at h1;cases h1;rw[hw] at h3;cases h3;refine hs.put hi hl (setRow_os w _ _) (setRow_tape w _ _) (setRow_output w _ _) (setRow_size w _ _) (fun b hb=>setRow_other w _ _ _ hb) (fun o v e=>by rw[hM o] at e;cases e) ⟨_,hw,fun d=>by simp⟩ ?_;exact zC7 hM (setRow_heap w _ _ c' t (0,0) hw) (by rw[h4,hsz]) hle hr hf
theorem Sim.setTRow (hs:Sim w0 G M ρ h w) {id:Nat} {u:TypeId} {full:Bool} {cs cs':List D} {l:Loc} (hi:h.at' id=some (.trow u full cs)) (hl:ρ id=some l) {c c':Array Value} {t:TypeId} (hw:w.heap[l.blk]? =some (.cells c t (0,0)))
  (hsz:c'.size=c.size) (hle:cs'.length≤c'.size) (hll:cs'.length=cs.length) (hr:zy M ρ cs' (c'.toList.take cs'.length)) (hf:cs'.all D.flat=true):Sim w0 G M ρ (h.set id (.trow u full cs')) (w.setRow l.blk c'):=by
 obtain⟨l',h1,_,hM,c0,e0,h3,h4,_,_,h7,h8⟩:=hs.live id _ hi;rw[hl] at h1;cases h1;rw[hw] at h3;cases h3;refine hs.put hi hl (setRow_os w _ _) (setRow_tape w _ _) (setRow_output w _ _) (setRow_size w _ _) (fun b hb=>setRow_other w _ _ _ hb) (fun o v e=>by rw[hM o] at e;cases e) ⟨_,hw,fun d=>by simp⟩ ?_;subst h7;exact zB5 hM (setRow_heap w _ _ c' t (0,0) hw) (by rw[h4,hsz]) hle (fun e=>by rw[hsz,h8 e,hll]) hr hf
theorem Sim.setTRow' (hs:Sim w0 G M ρ h w) {id:Nat} {u:TypeId} {cs cs':List D} {l:Loc} (hi:h.at' id=some (.trow u false cs)) (hl:ρ id=some l) {c c':Array Value} {t:TypeId} (hw:w.heap[l.blk]? =some (.cells c t (0,0)))
  (hsz:c'.size=c.size) (hle:cs'.length≤c'.size) (hr:zy M ρ cs' (c'.toList.take cs'.length)) (hf:cs'.all D.flat=true):Sim w0 G M ρ (h.set id (.trow u false cs')) (w.setRow l.blk c'):=by
 obtain⟨l',h1,_,hM,c0,e0,h3,h4,_,_,h7,h8⟩:=hs.live id _ hi;rw[hl] at h1;cases h1;rw[hw] at h3;cases h3;refine hs.put hi hl (setRow_os w _ _) (setRow_tape w _ _) (setRow_output w _ _) (setRow_size w _ _) (fun b hb=>setRow_other w _ _ _ hb) (fun o v e=>by rw[hM o] at e;cases e) ⟨_,hw,fun d=>by simp⟩ ?_;subst h7;exact zB5 hM (setRow_heap w _ _ c' t (0,0) hw) (by rw[h4,hsz]) hle (fun e=>by cases e) hr hf
theorem Sim.storeRow (hs:Sim w0 G M ρ h w) {id off:Nat} {cs ds:List D} {vs:List Value} {l:Loc} (hi:h.at' id=some (.row cs)) (hl:ρ id=some l) (hr:zy M ρ ds vs) (hf:ds.all D.flat=true) (hle:off+ds.length≤cs.length):
  ∃w',(storeCells ⟨l.blk,off,none⟩ vs).run P w= .ok () w'∧Sim w0 G M ρ (h.set id (.row (y8 cs ds off))) w':=by
 obtain⟨l',h1,_,hM,c,e,hw,hls,hlen,hcells⟩:=hs.live id _ hi;rw[hl] at h1;cases h1;have hlx:=zU hr;have hone:=wN hr hf;have hst:=run_storeCells_at P l.blk off e vs 0 c w hw (by omega) hone;rw[Nat.add_zero] at hst;refine⟨w.setRow l.blk (c.toList.take off++vs++c.toList.drop (off+vs.length)).toArray,hst,?_⟩;have hrow:zy M ρ cs (c.toList.take cs.length):=yD (by simp;omega) fun i d v h1 h2=>by
  obtain⟨_,u,e1,e2⟩:=hcells i d h1;have hlt:i<cs.length:=(List.getElem?_eq_some_iff.1 h1).1;rw[List.getElem?_take,if_pos hlt] at h2
  have:some v=some u:=by rw[←h2,←e1];simp
  cases this;exact e2
 have hlp:(y8 cs ds off).length=cs.length:=by simp[y8];omega
 have hl2:(c.toList.take off++vs++c.toList.drop (off+vs.length)).length=c.size:=by simp;omega
 refine hs.setRow hi hl hw (by simpa using hl2) (by rw[hlp];simp only[List.size_toArray];omega) ?_ (zC8 (List.all_eq_true.2 fun d hd=>by
  obtain⟨i,hi'⟩:=List.mem_iff_getElem?.1 hd;exact(hcells i d hi').1) hf)
 rw[hlp];have:=zB6 hrow hr hle;refine yD (by simp;omega) fun i d v h1 h2=> ?_;have hlt:i<cs.length:=by rw[←hlp];exact(List.getElem?_eq_some_iff.1 h1).1
 obtain⟨u,e1,e2⟩:=yq this i d h1
 have:some v=some u:=by
  rw[←h2,←e1,List.getElem?_take,if_pos hlt,qe _ _ _ (by simp;omega),qe _ _ _ (by simp;omega),List.getElem?_take,if_pos hlt]
 cases this;exact e2
theorem zQy (hs:Sim w0 G M ρ h w) {t:TypeId} {a x:D} {va vx:Value} {h':Heap} (ha:rel M ρ a va) (hx:rel M ρ x vx) (hv:zW P t a x h=some h'):
  ∃w',(Instr.storeAt t va vx).run P w= .ok () w'∧Sim w0 G M ρ h' w':=by
 unfold zW at hv;split at hv
 ·rename_i id off;split at hv
  ·rename_i cs hi;split at hv
   ·rename_i hc;simp only[Bool.and_eq_true,decide_eq_true_eq] at hc;obtain⟨⟨⟨hnz,hsz⟩,hle⟩,hfl⟩:=hc;cases hv;simp only[rel] at ha;obtain⟨l,hl,rfl⟩:=ha;obtain⟨l',h1,_,hM,c,e,hw,hls,hlen,hcells⟩:=hs.live id _ hi;rw[hl] at h1;cases h1;have hrx:=qo hx;have hlx:=zU hrx;have hsx:vx.cells.size=x.cells.length:=by rw[←hlx];simp
    have hone:=wN hrx hfl;have hst:=run_storeCells_at P l.blk off e vx.cells.toList 0 c w hw (by simp;omega) hone;rw[Nat.add_zero] at hst;refine⟨w.setRow l.blk (c.toList.take off++vx.cells.toList++c.toList.drop (off+vx.cells.toList.length)).toArray,?_,?_⟩
    ·have hsz':(sizeOf t).run P w= .ok vx.cells.size w:=by
      rw[hsx,hsz];cases hq:P.info? t with
      |some i=>exact run_sizeOf _ hq
      |none=>
       exfalso;have h0:szT P t=0:=by simp[szT,Program.cellsOf,hq]
       exact hnz h0
     simp only[Instr.storeAt,Instr.sureAddr,storeVar,Sem.run_bind,Sem.run_pure,Result.andThen_ok,hsz',ne_eq,not_true_eq_false,if_false];exact hst
    ·have hrow:zy M ρ cs (c.toList.take cs.length):=yD (by simp;omega) fun i d v h1 h2=>by
      obtain⟨_,u,e1,e2⟩:=hcells i d h1;have hlt:i<cs.length:=(List.getElem?_eq_some_iff.1 h1).1;rw[List.getElem?_take,if_pos hlt] at h2
      have:some v=some u:=by rw[←h2,←e1];simp
      cases this;exact e2
     have hlp:(y8 cs x.cells off).length=cs.length:=by simp[y8];omega
     have hl2:(c.toList.take off++vx.cells.toList++c.toList.drop (off+vx.cells.toList.length)).length=c.size:=by simp;omega
     refine hs.setRow hi hl hw (by simpa using hl2) (by rw[hlp];simp only[List.size_toArray];omega) ?_ (zC8 (List.all_eq_true.2 fun d hd=>by
      obtain⟨i,hi'⟩:=List.mem_iff_getElem?.1 hd;exact(hcells i d hi').1) hfl)
     rw[hlp];have:=zB6 hrow hrx hle;refine yD (by simp;omega) fun i d v h1 h2=> ?_;have hlt:i<cs.length:=by rw[←hlp];exact(List.getElem?_eq_some_iff.1 h1).1
     obtain⟨u,e1,e2⟩:=yq this i d h1
     have:some v=some u:=by
      rw[←h2,←e1,List.getElem?_take,if_pos hlt,qe _ _ _ (by simp;omega),qe _ _ _ (by simp;omega),List.getElem?_take,if_pos hlt]
     cases this;exact e2
   ·cases hv
  ·rename_i u full cs hi;split at hv
   ·rename_i hc;simp only[Bool.and_eq_true,decide_eq_true_eq] at hc;obtain⟨⟨⟨hnz,hsz⟩,hle⟩,hfl⟩:=hc;cases hv;simp only[rel] at ha;obtain⟨l,hl,rfl⟩:=ha;obtain⟨l',h1,_,hM,c,e,hw,hls,hlen,hcells,hty,hszc⟩:=hs.live id _ hi;rw[hl] at h1;cases h1;have hrx:=qo hx;have hlx:=zU hrx;have hsx:vx.cells.size=x.cells.length:=by rw[←hlx];simp
    have hone:=wN hrx hfl;have hst:=run_storeCells_at P l.blk off e vx.cells.toList 0 c w hw (by simp;omega) hone;rw[Nat.add_zero] at hst;refine⟨w.setRow l.blk (c.toList.take off++vx.cells.toList++c.toList.drop (off+vx.cells.toList.length)).toArray,?_,?_⟩
    ·have hsz':(sizeOf t).run P w= .ok vx.cells.size w:=by
      rw[hsx,hsz];cases hq:P.info? t with
      |some i=>exact run_sizeOf _ hq
      |none=>
       exfalso;have h0:szT P t=0:=by simp[szT,Program.cellsOf,hq]
       exact hnz h0
     simp only[Instr.storeAt,Instr.sureAddr,storeVar,Sem.run_bind,Sem.run_pure,Result.andThen_ok,hsz',ne_eq,not_true_eq_false,if_false];exact hst
    ·have hrow:zy M ρ cs (c.toList.take cs.length):=yD (by simp;omega) fun i d v h1 h2=>by
      obtain⟨_,u,e1,e2⟩:=hcells i d h1;have hlt:i<cs.length:=(List.getElem?_eq_some_iff.1 h1).1;rw[List.getElem?_take,if_pos hlt] at h2
      have:some v=some u:=by rw[←h2,←e1];simp
      cases this;exact e2
     have hlp:(y8 cs x.cells off).length=cs.length:=by simp[y8];omega
     have hl2:(c.toList.take off++vx.cells.toList++c.toList.drop (off+vx.cells.toList.length)).length=c.size:=by simp;omega
     refine hs.setTRow hi hl hw (by simpa using hl2) (by rw[hlp];simp only[List.size_toArray];omega) hlp ?_ (zC8 (List.all_eq_true.2 fun d hd=>by
      obtain⟨i,hi'⟩:=List.mem_iff_getElem?.1 hd;exact(hcells i d hi').1) hfl)
     rw[hlp];have:=zB6 hrow hrx hle;refine yD (by simp;omega) fun i d v h1 h2=> ?_;have hlt:i<cs.length:=by rw[←hlp];exact(List.getElem?_eq_some_iff.1 h1).1
     obtain⟨u,e1,e2⟩:=yq this i d h1
     have:some v=some u:=by
      rw[←h2,←e1,List.getElem?_take,if_pos hlt,qe _ _ _ (by simp;omega),qe _ _ _ (by simp;omega),List.getElem?_take,if_pos hlt]
     cases this;exact e2
   ·cases hv
  ·cases hv
 ·cases hv
end
section
variable {P:Program} {w0:Base} {G:List Nat} {M:Imm} {ρ:Ren} {h:Heap} {w:World} {nid:Nat}
theorem zGw:∀ (fs:List Field) (ps:List (Nat×Nat)),zGp P fs=some ps→(fs.mapM (m:=Sem) fun f=>do pure (f.offset,←sizeOf f.type)).run P w= .ok ps w
 | [],ps,h=>by simp[zGp] at h;subst h;rfl
 |f::fs,ps,h=>by
  simp only[zGp] at h;split at h
  ·cases h
  ·rename_i hz;simp only[Option.map_eq_some_iff] at h;obtain⟨qs,hq,rfl⟩:=h;have ih:=zGw fs qs hq;rw[List.mapM_cons];simp only[Sem.run_bind,z6 (P:=P) (w:=w) hz,Result.andThen_ok,Sem.run_pure,ih]
theorem zQz (off:Nat) (vs:Array Value) (cells:Array Value) (hl:off+vs.size≤cells.size):
  (vs.zipIdx.foldl (fun cs (x:Value×Nat)=>cs.setIfInBounds (off+x.2) x.1) cells).toList=cells.toList.take off++vs.toList++cells.toList.drop (off+vs.toList.length):=by
 obtain⟨h1,h2⟩:=Go.Great.foldl_set off vs.toList 0 cells;rw[←Array.foldl_toList,Array.toList_zipIdx];apply List.ext_getElem?;intro i;rw[Array.getElem?_toList,h2,qe _ _ _ (by simp;omega)];simp only[Nat.add_zero,Array.length_toList,Array.getElem?_toList];by_cases ha:i<off
 ·rw[if_neg (by omega),if_pos ha]
 ·rw[if_neg ha];by_cases hb:i<off+vs.size
  ·rw[if_pos ⟨by omega,hb,by omega⟩,if_pos hb]
  ·rw[if_neg (by omega),if_neg hb]
theorem zGP (place:Nat→Option (Nat×Nat)) (ev:Operand→D) (cev:Operand→Value):∀ (l:List (Nat×Operand)) (cs cs':List D) (cells:Array Value),(∀p∈l,rel M ρ (ev p.2) (cev p.2))→zy M ρ cs cells.toList→cs.all D.flat=true→
  wl place cs (l.map fun p=>(p.1,ev p.2))=some cs'→∃cells',Instr.fill place cells (l.map fun p=>(p.1,cev p.2))=some cells'∧(zy M ρ cs' cells'.toList∧cs'.all D.flat=true)∧cells'.size=cells.size
 | [],cs,cs',cells,_,hr,hf,hv=>by simp only[List.map_nil,wl,Option.some.injEq] at hv;subst hv;exact⟨cells,rfl,⟨hr,hf⟩,rfl⟩
 |p::l,cs,cs',cells,hp,hr,hf,hv=>by
  simp only[List.map_cons,wl] at hv;split at hv
  ·cases hv
  ·rename_i off size hpl;split at hv
   ·rename_i hc;simp only[Bool.and_eq_true,decide_eq_true_eq] at hc;obtain⟨⟨h0,h1⟩,h2⟩:=hc;have hx:=qo (hp p (by simp));have hlx:=zU hx;have hlc:=zU hr;have hs1:(cev p.2).cells.size=size:=by rw[←h1,←hlx];simp
    have hs2:cells.size=cs.length:=by rw[←hlc];simp
    have hset:=zQz off (cev p.2).cells cells (by omega);obtain⟨cells',e1,e2,e3⟩:=zGP place ev cev l _ cs' ((cev p.2).cells.zipIdx.foldl (fun cs (x:Value×Nat)=>cs.setIfInBounds (off+x.2) x.1) cells) (fun q hq=>hp q (by simp[hq])) (by
     rw[hset];exact zB6 hr hx (by omega)) (zC8 hf (wM (hp p (by simp)) h0)) hv
    refine⟨cells',?_,e2,?_⟩
    ·simp only[List.map_cons,Instr.fill,hpl,hs1];rw[if_neg (by simp;omega)];exact e1
    ·rw[e3,←Array.length_toList,hset];simp;omega
   ·cases hv
theorem zQ0 (hs:Sim w0 G M ρ h w) {t:TypeId} {parts:Array (Nat×Operand)} {d:D} (ev:Operand→D) (cev:Operand→Value) (hp:∀p∈parts.toList,rel M ρ (ev p.2) (cev p.2))
  (hv:yn P t (parts.toList.map fun p=>(p.1,ev p.2))=some d):YV P w0 G M ρ nid w (Instr.build t (parts.map fun p=>(p.1,cev p.2))) d h:=by
 unfold yn at hv;split at hv
 ·cases hv
 ·rename_i z hz;split at hv
  ·cases hv
  rename_i hzt;simp only[Bool.not_eq_true,Bool.not_eq_false'] at hzt;obtain⟨i,zv,hi,hzv,hrz,hzrun⟩:=wh (P:=P) (M:=M) (ρ:=ρ) (w:=w) hz;have hzc:=qo hrz;have hzf:=wM hrz hzt;split at hv
  ·rename_i ps hps;simp only[Option.map_eq_some_iff] at hv;obtain⟨cs',hf,rfl⟩:=hv;unfold zDd at hps;split at hps
   ·rename_i fs hu;obtain⟨cells',e1,e2,_⟩:=zGP (fun(i:Nat)=>ps[i]?) ev cev parts.toList _ _ zv.cells hp hzc hzf hf;refine .pure hs (v:= .agg cells') ?_ (by simp only[rel];exact⟨_,rfl,e2⟩);have hpl:(fs.mapM (m:=Sem) fun f=>do pure (f.offset,←sizeOf f.type)).run P w= .ok ps.toArray w:=by
     have:=zGw (P:=P) (w:=w) fs.toList ps hps;rw[show fs=fs.toList.toArray by simp,List.mapM_toArray];simp only[Sem.run_map,this,Result.andThen_ok]
    simp only[Instr.build,Sem.run_bind,hzrun,Result.andThen_ok,run_underlying hu,hpl,Array.toList_map]
    have:(fun(x:Nat)=>ps.toArray[x]?)=fun(i:Nat)=>ps[i]? :=by funext i;simp
    rw[this,e1];rfl
   ·cases hps
  ·split at hv
   ·rename_i n e ha;split at hv
    ·cases hv
    ·rename_i hez;simp only[Option.map_eq_some_iff] at hv;obtain⟨cs',hf,rfl⟩:=hv;obtain⟨cells',e1,e2,_⟩:=zGP _ ev cev parts.toList _ _ zv.cells hp hzc hzf hf;refine .pure hs (v:= .agg cells') ?_ (by simp only[rel];exact⟨_,rfl,e2⟩);simp only[Instr.build,Sem.run_bind,hzrun,Result.andThen_ok,run_underlying (zD8 ha),z6 (P:=P) (w:=w) hez,Array.toList_map,e1];rfl
   ·cases hv
theorem zE0 (sz:Nat):∀ (n:Nat) (cs:List D) (i:Nat),i<n→(yT sz n cs)[i]? =some ((cs.drop (i*sz)).take sz)
 |0,_,_,h=>by omega
 |n+1,cs,0,_=>by simp[yT]
 |n+1,cs,i+1,h=>by
  simp only[yT,List.getElem?_cons_succ];rw[zE0 sz n _ i (by omega),List.drop_drop,Nat.add_mul,Nat.one_mul,Nat.add_comm sz]
theorem zGx {sz n b:Nat} {cs:List D} {vs:List Value} (hr:zy M ρ cs vs) (hf:cs.all D.flat=true) (hM:∀o,M b o=none) (hl:cs.length=n*sz):zB2 (zBg M b 0 vs) ρ sz (yT sz n cs) b 0:=
 zAD fun i x hx=>by
  have hi:i<n:=by rw[←qO sz n cs];exact(List.getElem?_eq_some_iff.1 hx).1
  rw[zE0 sz n cs i hi] at hx;cases hx;have hle:i*sz+sz≤n*sz:=by rw[←Nat.succ_mul];exact Nat.mul_le_mul_right _ hi
  refine⟨by simp;omega,yi fun j d hd=> ?_⟩;have hC:=zN8 hr hf hM;simp only[List.getElem?_take,List.getElem?_drop] at hd;split at hd
  ·obtain⟨h0,v,h1,h2⟩:=zAp hC _ d hd;exact⟨h0,v,by rw[←h1];congr 1;omega,h2⟩
  ·cases hd
theorem zAZ {α:Type} (z:List α):∀ (n i:Nat),i<n*z.length→(List.replicate n z).flatten[i]? =z[i%z.length]?
 |0,i,h=>by simp at h
 |n+1,i,h=>by
  rw[List.replicate_succ,List.flatten_cons];by_cases hi:i<z.length
  ·rw[List.getElem?_append_left hi,Nat.mod_eq_of_lt hi]
  ·rw[List.getElem?_append_right (by omega),zAZ z n (i-z.length) (by rw[Nat.add_mul,Nat.one_mul] at h;omega),Nat.mod_eq_sub_mod (a:=i) (by omega)]
theorem yV {α:Type} (z:List α):∀n:Nat,(List.replicate n z).flatten.length=n*z.length
 |0=>by simp
 |n+1=>by rw[List.replicate_succ,List.flatten_cons,List.length_append,yV z n,Nat.add_mul,Nat.one_mul,Nat.add_comm]
theorem zBm {z:List D} (hf:z.all D.flat=true) (n:Nat):(zBW n z).all D.flat=true:=
 List.all_eq_true.2 fun d hd=>by
  obtain⟨l,h1,h2⟩:=List.mem_flatten.1 hd;rw[(List.mem_replicate.1 h1).2] at h2;exact List.all_eq_true.1 hf d h2
theorem zEB {z : List D} {zc : Array Value} (hr : zy M ρ z zc.toList) (n : Nat) : zy M ρ (zBW n z) ((Array.range (n * z.length)).map (zc[· % zc.size]!)).toList := by
  have hl := zU hr;have hl' : zc.size = z.length := by rw [← hl]; simp
  refine yD (by simp [zBW]) fun i d v hd hv => ?_;have hi : i < n * z.length := by
    have := (List.getElem?_eq_some_iff.1 hd).1
    rwa [zBW, yV] at this
  have hz0 : 0 < z.length := by rcases Nat.eq_zero_or_pos z.length with h0 | h0; · rw [h0] at hi; simp at hi
                                · exact h0
  rw [zBW, zAZ z n i hi] at hd;obtain ⟨u, h1, h2⟩ := yq hr _ d hd
  have : u = v := by
    simp only [Array.toList_map, List.getElem?_map, Array.toList_range] at hv;rw [List.getElem?_range hi] at hv;simp only [Option.map_some, Option.some.injEq] at hv;rw [← hv, hl'];have hm : i % z.length < zc.size := by rw [hl']; exact Nat.mod_lt _ hz0
    have h1' : zc[i % z.length]? = some u := by simpa using h1
    rw [Array.getElem!_eq_getD, Array.getD_eq_getD_getElem?, h1']; rfl
  rw [← this]; exact h2
theorem Sim.newImmRow (hs:Sim w0 G M ρ h w) {cs:List D} {cells:Array Value} {sz n:Nat} (e:TypeId) (h0:0<sz) (hn:n≤lim) (hl:cs.length=n*sz) (hr:zy M ρ cs cells.toList) (hf:cs.all D.flat=true):
  MLe M (zBg M w.heap.size 0 cells.toList)∧Sim w0 G (zBg M w.heap.size 0 cells.toList) ρ h (w.alloc (.cells cells e))∧
   rel (zBg M w.heap.size 0 cells.toList) ρ (.sl sz (yT sz n cs) .full) (.slice (some ⟨w.heap.size,0,none⟩) n n):=by
 have hm:∀o,M w.heap.size o=none:=hs.none_at (Nat.le_refl _);have hi:=hs.allocImm cells e cells.size;rw[show cells.toList.take cells.size=cells.toList by rw[←Array.length_toList];exact List.take_length] at hi;refine⟨zB4 fun o _=>hm o,hi,?_⟩;simp only[rel,qO];exact⟨h0,hn,w.heap.size,0,n,zQq.mk _ _ _ _,Nat.le_refl _,zGx hr hf hm hl,rfl⟩
theorem zIH (hs:Sim w0 G M ρ h w) (hn:ρ nid=none) {mu:Bool} {t:TypeId} {n:Nat} {parts:Array (Nat×Operand)} {d:D} {h':Heap} (ev:Operand→D) (cev:Operand→Value) (hp:∀p∈parts.toList,rel M ρ (ev p.2) (cev p.2))
  (hv:zS P mu nid t n (parts.toList.map fun p=>(p.1,ev p.2)) h=some (d,h')):YV P w0 G M ρ nid w (Instr.buildSlice t n (parts.map fun p=>(p.1,cev p.2))) d h':=by
 unfold zS at hv;split at hv
 ·cases hv
 ·rename_i e he;split at hv
  ·cases hv
  ·rename_i z hz;obtain⟨i,zv,hi,hzv,hrz,hzrun⟩:=wh (P:=P) (M:=M) (ρ:=ρ) (w:=w) hz;have hzc:=qo hrz;simp only at hv;split at hv
   ·rename_i hc;simp only[Bool.and_eq_true,decide_eq_true_eq] at hc;obtain⟨⟨⟨hzt,hzl⟩,hsz0⟩,hmax⟩:=hc;have hzf:=wM hrz hzt;split at hv
    ·cases hv
    ·rename_i cs hf;have hrepl:=zEB hzc n;rw[hzl] at hrepl;obtain⟨cells',e1,⟨e2,e2f⟩,e3⟩:=zGP _ ev cev parts.toList _ _ ((Array.range (n*szT P e)).map (zv.cells[· %zv.cells.size]!)) hp hrepl (zBm hzf n) hf;have hsz':cells'.size=n*szT P e:=by rw[e3];simp
     have hcs:cs.length=n*szT P e:=by rw[←hsz',←zU e2];simp
     have hrun:(Instr.buildSlice t n (parts.map fun p=>(p.1,cev p.2))).run P w= .ok (.slice (some ⟨w.heap.size,0,none⟩) n n) (w.alloc (.cells cells' e)):=by
      have hbig:¬(n*szT P e>2^24):=by omega
      unfold Instr.buildSlice;simp only[Sem.run_bind,run_underlying (qv he),Result.andThen_ok,z6 (P:=P) (w:=w) (t:=e) (by omega),hbig,if_false,Sem.run_pure,Array.toList_map];by_cases hz0:n*szT P e=0
      ·have emp:∀f:Nat→Value,(Array.range 0).map f= #[]:=fun f=>by simp
       have e1':=e1;rw[hz0,emp] at e1';simp only[hz0,if_true,Sem.run_pure,Sem.run_bind,Result.andThen_ok,emp,e1'];simp[newRow]
      ·simp only[hz0,if_false,Sem.run_bind,hzrun,Result.andThen_ok,Sem.run_pure,e1];simp[newRow]
     have hnl:n≤lim:=by unfold lim;have:n*1≤n*szT P e:=Nat.mul_le_mul_left _ hsz0;omega
     split at hv
     ·cases hv;have hrow:=hs.newRow hn e (ds:=cs) (c:=cells') (by omega) (by rw[hcs,←hsz',←Array.length_toList,List.take_length];exact e2) e2f;refine⟨_,_,M,_,hrun,MLe.refl _,yw hn,fun i hi=>by simp[zAE,zBk hi],hrow,?_⟩;simp only[rel];exact⟨hsz0,hnl,_,n,0,by simp[zAE];rfl,rfl,⟨Nat.le_refl _,by unfold maxLen;unfold lim at hnl;omega⟩,by simp[hsz'], .inr rfl⟩
     ·cases hv;obtain⟨g1,g2,g3⟩:=hs.newImmRow e hsz0 hnl hcs e2 e2f;exact⟨_,_,_,ρ,hrun,g1,RLe.refl _,fun _ _=>rfl,g2,g3⟩
   ·cases hv
end
section
variable {P:Program} {w0:Base} {G:List Nat} {M:Imm} {ρ:Ren} {h:Heap} {w:World} {nid:Nat}
theorem zGy {xs ys:List D} {b p:Nat} (hx:zBP M ρ xs b p) (hy:zBP M ρ ys b (p+xs.length)):zBP M ρ (xs++ys) b p:=
 yi fun i d hi=>by
  by_cases hl:i<xs.length
  ·rw[List.getElem?_append_left hl] at hi;exact zAp hx i d hi
  ·rw[List.getElem?_append_right (by omega)] at hi;obtain⟨h0,v,h1,h2⟩:=zAp hy _ d hi;exact⟨h0,v,by rw[←h1];congr 1;omega,h2⟩
theorem zBS {sz:Nat} :∀ {xs:List (List D)} {b p:Nat},zB2 M ρ sz xs b p→zBP M ρ xs.flatten b p∧xs.flatten.length=xs.length*sz
 | [],_,_,_=>by simp[zBP]
 |x::xs,b,p,h=>by
  simp only[zB2] at h;obtain⟨h1,h2,h3⟩:=h;obtain⟨i1,i2⟩:=zBS h3;rw[List.flatten_cons];refine⟨zGy h2 (by rw[h1];exact i1),?_⟩;rw[List.length_append,h1,i2,List.length_cons,Nat.add_mul,Nat.one_mul,Nat.add_comm]
def zUM (w w1:World):Prop:=∀b o v,w.cell? ⟨b,o,none⟩ =some v→w1.cell? ⟨b,o,none⟩ =some v
theorem zPe (w:World):zUM w w:=fun _ _ _ h=>h
theorem zC9 (w:World):zUM w w.drew:=fun _ _ _ h=>h
def Els (P:Program) (M:Imm) (ρ:Ren) (w:World) (sz:Nat) (ys:List D) (m:Nat) (vs:List Value) (vx:Value):Prop:=
 ys.length=m*sz∧m≤lim∧zy M ρ ys vs∧ys.all D.flat=true∧∀w1,zUM w w1→(Builtin.lenOf vx).run P w1= .ok m w1∧(Builtin.firstCells sz m vx).run P w1= .ok vs.toArray w1
theorem zJd.firstCells {cs:List D} {b p off n:Nat} (hh:zJd M ρ w cs b p) (hl:off+n≤cs.length):∃vs,zy M ρ ((cs.drop off).take n) vs∧((cs.drop off).take n).all D.flat=true∧vs.length=n∧∀w1,zUM w w1→(Go.loadCells ⟨b,p+off,none⟩ n).run P w1= .ok vs.toArray w1:=by
 obtain⟨vs,h1,_,h3,h4,h5⟩:=hh.loadCells (P:=P) hl;refine⟨vs,h3,h4,h1,fun w1 hk=> ?_⟩;have:=run_loadCells_list (P:=P) w1 ⟨b,p+off,none⟩ vs (fun j v hv=>by rw[qF];exact hk _ _ _ (h5 j v hv));rw[h1] at this;exact this
theorem zXt (hs:Sim w0 G M ρ h w) {sz:Nat} (h0:0<sz) {x:D} {vx:Value} (hx:rel M ρ x vx) {ys:List D} (hv:zKy sz x h=some ys):∃m vs,Els P M ρ w sz ys m vs vx:=by
 unfold zKy at hv;split at hv
 ·rename_i s xs tk;split at hv
  ·rename_i hsz;subst hsz;cases hv;simp only[rel] at hx;obtain⟨_,hlim,b,p,cap,⟨sp,rfl,hsp⟩,hcap0,hE,_⟩:=hx;obtain⟨hC,hlen⟩:=zBS hE;rcases hsp with rfl|rfl
   case inr=>
    obtain rfl:xs= []:=List.eq_nil_of_length_eq_zero (by omega);exact⟨0,[],by simp,by simp,by simp[zy],rfl,fun w1 _=>⟨rfl,by simp[Builtin.firstCells,Go.loadCells,loadCellsFrom]⟩⟩
   obtain⟨vs,g1,g2,g3,g4⟩:=(hs.holds hC).firstCells (P:=P) (off:=0) (n:=xs.length*s) (by omega);have ht:(xs.flatten.drop 0).take (xs.length*s)=xs.flatten:=by rw[List.drop_zero,←hlen,List.take_length]
   rw[ht] at g1 g2;exact⟨xs.length,vs,hlen,hlim,g1,g2,fun w1 hk=>⟨rfl,by simpa [Builtin.firstCells] using g4 w1 hk⟩⟩
  ·cases hv
 ·rename_i id s off n;split at hv
  ·rename_i hsz;subst hsz;split at hv
   ·rename_i cs hi;split at hv
    ·rename_i hle;cases hv;simp only[rel] at hx;obtain⟨_,hlim,l,cap,o,hl,rfl,hcap,_,ho⟩:=hx;obtain⟨vs,g1,g2,g3,g4⟩:=(hs.row hi hl).firstCells (P:=P) hle;refine⟨n,vs,by simp;omega,hlim,g1,g2,fun w1 hk=>⟨rfl,?_⟩⟩;rcases Nat.eq_zero_or_pos n with hn|hn
     ·subst hn;simp at g3;subst g3;simp[Builtin.firstCells,Go.loadCells,loadCellsFrom]
     ·obtain rfl:o=off:=by omega
      have:=g4 w1 hk;rw[Nat.zero_add] at this;simpa [Builtin.firstCells] using this
    ·cases hv
   ·cases hv
  ·cases hv
 ·cases hv;simp only[rel] at hx;subst hx;exact⟨0,[],by simp,by simp,by simp[zy],rfl,fun w1 _=>⟨rfl,rfl⟩⟩
 ·rename_i s;split at hv
  ·rename_i hsz;subst hsz;cases hv;simp only[rel] at hx;obtain⟨b,rfl,rfl,hlim⟩:=hx;have hsize:b.size=b.data.toList.length:=by rw[Array.length_toList];rfl
   refine⟨b.size,b.data.toList.map fun c=> .int .u8 c.toNat,by rw[List.length_map,Nat.mul_one,hsize],by omega,yD (by rw[List.length_map,List.length_map]) fun i d v hd hv=> ?_,?_,fun w1 _=>⟨rfl,?_⟩⟩
   ·simp only[List.getElem?_map,Option.map_eq_some_iff] at hd hv;obtain⟨c,c1,rfl⟩:=hd;obtain⟨c',c2,rfl⟩:=hv;rw[c1] at c2;cases c2;refine yg ?_;rw[wY];have:=c.toNat_lt;simp[IntKind.min,IntKind.max,IntKind.signed,IntKind.bits];omega
   ·exact List.all_eq_true.2 fun d hd=>by
     obtain⟨c,_,rfl⟩:=List.mem_map.1 hd;rfl
   ·simp only[Builtin.firstCells,Sem.run_pure];congr 1
    have:b.extract 0 b.size=b:=by simp[ByteArray.extract_zero_size]
    rw[this];apply Array.ext';simp
  ·cases hv
 ·cases hv
theorem zQ1 {e:TypeId} (hz:zGM P e=true):∃i v,P.info? e=some i∧i.size=szT P e∧i.bytes=yY P e∧i.zero=some v∧v.cells.size=szT P e∧szT P e≠0:=by
 unfold zGM at hz;split at hz
 ·rename_i z hz';simp only[Bool.and_eq_true,beq_iff_eq,bne_iff_ne,ne_eq] at hz;obtain⟨i,v,hi,hv,hr,_⟩:=wh (P:=P) (M:=fun _ _=>none) (ρ:=fun _=>none) (w:=default) hz';refine⟨i,v,hi,by simp[szT,Program.cellsOf,hi],by simp[yY,Program.bytesOf,hi],hv,?_,hz.2⟩;have:=zU (qo hr);rw[←hz.1,←this];simp
 ·cases hz
theorem wo (t u ty e:TypeId) (ht:P.underlying t=some (.slice e)) {ud:TypeDesc} (hu:P.underlying u=some ud) (hud:∀k,ud≠ .int k) (hz:szT P e≠0) (base:Option Addr) (n cap m:Nat) (vx:Value) (vs:List Value)
  (hl:(Builtin.lenOf vx).run P w= .ok m w) (hf:(Builtin.firstCells (szT P e) m vx).run P w= .ok vs.toArray w) (hfit:n+m≤cap) (w':World)
  (hst:(match base with|some a=>storeCells (a.add (n*szT P e)) vs|none=>pure ()).run P w= .ok () w'):
  (Builtin.append_ #[t,u] ty #[.slice base n cap,vx]).run P w= .ok (.slice base (n+m) cap) w':=by
 cases base with
 |none=>
  simp only[Sem.run_pure] at hst;cases hst;simp[Builtin.append_,run_underlying ht,run_underlying hu,z6 hz,hl,hf,hfit]
 |some a=>
  simp only at hst;simp[Builtin.append_,run_underlying ht,run_underlying hu,z6 hz,hl,hf,hfit,hst]
theorem zII (t u ty e:TypeId) (ht:P.underlying t=some (.slice e)) {ud:TypeDesc} (hu:P.underlying u=some ud) (hud:∀k,ud≠ .int k) {i:TypeInfo} {z:Value} (hi:P.info? e=some i) (hz:i.zero=some z) (base:Option Addr) (n cap m:Nat) (vx:Value) (olds vs:List Value)
  (hl:(Builtin.lenOf vx).run P w= .ok m w) (hf:(Builtin.firstCells i.size m vx).run P w.drew= .ok vs.toArray w.drew) (ho:(Builtin.firstCells i.size n (.slice base n cap)).run P w.drew= .ok olds.toArray w.drew)
  (hg:cap<n+m) (hlim:n+m≤lim) (hb:(n+m)*i.bytes≤lim):
  (Builtin.append_ #[t,u] ty #[.slice base n cap,vx]).run P w= .ok (.slice (some ⟨w.heap.size,0,none⟩) (n+m) (grownCap w (n+m) cap e))
   (w.drew.alloc (.cells (olds.toArray++vs.toArray++Builtin.zeroCells z.cells (grownCap w (n+m) cap e- (n+m))) e)):=by
 have hn:¬(n+m≤cap):=by omega
 have h63':¬(9223372036854775807<((n:Int)+(m:Int))):=by unfold lim at hlim;omega
 have hfit:=growslice_fits (need:=n+m) (old:=cap) (bytes:=i.bytes) hg hb;have h48':¬(281474976710656<Builtin.nextslicecap (n+m) cap*i.bytes):=by omega
 have hse:(sizeOf e).run P w= .ok i.size w:=by rw[run_sizeOf _ hi];simp[Program.cellsOf,hi]
 simp[Builtin.append_,run_underlying ht,run_underlying hu,hse,typeInfo,zeroValue,hi,hz,hl,hn,h63',h48',Question.forced,hf,ho,newRow,grownCap];congr 2;apply Array.ext';simp[List.append_assoc]
theorem Sim.addObj (hs:Sim w0 G M ρ h w) (hn:ρ nid=none) (l:Loc) (ob:Obj) (hb:¬w0.keep l.blk) (hne:∀i ob' l',h.at' i=some ob'→ρ i=some l'→l'.blk≠l.blk) (ho:qJ M (zAE ρ nid l) w l ob):
  Sim w0 G M (zAE ρ nid l) (h.new nid ob) w:=by
 have hle:=yw (l:=l) hn;have key:∀k ok,h.at' k=some ok→k≠nid∧∃lk,ρ k=some lk:=fun k ok e=>by
  obtain⟨lk,h1,_⟩:=hs.live k ok e;exact⟨fun hk=>(by rw[hk,hn] at h1;cases h1),lk,h1⟩
 refine { below:=hs.below,imm:=hs.imm,live:=fun i ob' e=> ?_,apart:=fun i j oi oj li lj ei ej ri rj hij=> ?_,gdef:=hs.gdef,old:=hs.old }
 ·simp only[Heap.new] at e;split at e
  ·rename_i hi;subst hi;cases e;exact⟨l,by simp[zAE],hb,ho⟩
  ·obtain⟨l',h1,h2,h3⟩:=hs.live i ob' e;exact⟨l',hle _ _ h1,h2,wE (MLe.refl _) hle (fun _ h=>h) h3⟩
 ·simp only[Heap.new] at ei ej;by_cases hi:i=nid<;>by_cases hj:j=nid
  ·rw[hi,hj]
  ·exfalso;simp only[hj,if_false] at ej;simp only[zAE,hi,if_true] at ri;cases ri;simp only[zAE,hj,if_false] at rj;exact hne j oj lj ej rj hij.symm
  ·exfalso;simp only[hi,if_false] at ei;simp only[zAE,hj,if_true] at rj;cases rj;simp only[zAE,hi,if_false] at ri;exact hne i oi li ei ri hij
  ·simp only[hi,if_false] at ei;simp only[hj,if_false] at ej;simp only[zAE,hi,if_false] at ri;simp only[zAE,hj,if_false] at rj;exact hs.apart i j oi oj li lj ei ej ri rj hij
theorem Sim.old_blk (hs:Sim w0 G M ρ h w) {i:Nat} {ob:Obj} {l:Loc} (hi:h.at' i=some ob) (hl:ρ i=some l):l.blk<w.heap.size:=by
 obtain⟨l',h1,_,h3⟩:=hs.live i ob hi;rw[hl] at h1;cases h1;exact zA3 h3
theorem yt {as bs:List D} {xs ys:List Value} (ha:zy M ρ as xs) (hb:zy M ρ bs ys):zy M ρ (as++bs) (xs++ys):=by
 have h1:=zU ha;have h2:=zU hb;refine yD (by simp[h1,h2]) fun i d v hd hv=> ?_;by_cases hi:i<as.length
 ·rw[List.getElem?_append_left hi] at hd;rw[List.getElem?_append_left (by omega)] at hv;obtain⟨u,e1,e2⟩:=yq ha i d hd;rw[e1] at hv;cases hv;exact e2
 ·rw[List.getElem?_append_right (by omega)] at hd;rw[List.getElem?_append_right (by omega),h1] at hv;obtain⟨u,e1,e2⟩:=yq hb _ d hd;rw[e1] at hv;cases hv;exact e2
theorem zAq (sz:Nat):∀ (xs:List (List D)) (ys:List D) (m:Nat),(∀x∈xs,x.length=sz)→yT sz (xs.length+m) (xs.flatten++ys)=xs++yT sz m ys
 | [],ys,m,_=>by simp
 |x::xs,ys,m,h=>by
  have hx:=h x (by simp);rw[List.length_cons,show xs.length+1+m=(xs.length+m)+1 by omega];simp only[yT,List.flatten_cons,List.append_assoc,List.cons_append];rw[List.take_append_of_le_length (by omega),List.take_of_length_le (by omega),List.drop_append_of_le_length (by omega),List.drop_of_length_le (by omega),List.nil_append,zAq sz xs ys m fun y hy=>h y (by simp[hy])]
theorem zK6 {sz:Nat} {xs:List (List D)} {b p:Nat} (hE:zB2 M ρ sz xs b p):∀x∈xs,x.length=sz:=fun x hx=>by
 obtain⟨i,hi⟩:=List.mem_iff_getElem?.1 hx;exact(zGN hE i x hi).1
theorem Sim.growTok (hs:Sim w0 G M ρ h w) (hn:ρ nid=none) {ys:List D} {vs:List Value} (c:Array Value) (e:TypeId) {sz n cap:Nat} (h0:0<sz) (hl:ys.length=n*sz) (hr:zy M ρ ys vs) (hf:ys.all D.flat=true)
  (hc:c.toList.take vs.length=vs) (hcs:c.size=cap*sz) (hnc:n≤cap) (hlim:n≤lim) (hcp:0<cap):
  ∃M' ρ',MLe M M'∧RLe ρ ρ'∧(∀i,i≠nid→ρ' i=ρ i)∧Sim w0 G M' ρ' (h.new nid .tok) (w.alloc (.cells c e))∧rel M' ρ' (.sl sz (yT sz n ys) (.own nid)) (.slice (some ⟨w.heap.size,0,none⟩) n cap):=by
 have hm:∀o,M w.heap.size o=none:=hs.none_at (Nat.le_refl _);have h1:=hs.allocImm c e vs.length;rw[hc] at h1;have hvl:vs.length=n*sz:=by rw[zU hr,hl]
 have hle:n*sz≤cap*sz:=Nat.mul_le_mul_right _ hnc;refine⟨zBg M w.heap.size 0 vs,zAE ρ nid ⟨w.heap.size,n*sz,c.size⟩,zB4 fun o _=>hm o,yw hn,fun i hi=>by simp[zAE,hi],?_,?_⟩
 ·refine h1.addObj hn _ .tok (hs.nokeep (Nat.le_refl _)) (fun i ob' l' e1 e2=> ?_) ⟨fun o ho=> ?_,by simp;omega,c,e,?_,rfl⟩
  ·have:=hs.old_blk e1 e2;simp;omega
  ·simp only at ho⊢;unfold zBg;rw[if_neg (by omega)];exact hm o
  ·show(w.heap.push _)[w.heap.size]? =_;simp
 ·simp only[rel,qO];exact⟨h0,hlim,w.heap.size,0,cap,zQq.mk _ _ _ _,hnc,zGq (MLe.refl _) (yw hn) _ _ _ _ (zGx hr hf hm hl),_,by simp[zAE];rfl,rfl,by simp,by simp;omega,hcp⟩
theorem Sim.behind (hs:Sim w0 G M ρ h w) {i:Nat} {l:Loc} (hi:h.at' i=some .tok) (hl:ρ i=some l) {vs:List Value} {c:Array Value} {e:TypeId} (hw:w.heap[l.blk]? =some (.cells c e (0,0))) (hfit:l.endd+vs.length≤c.size) (c':Array Value)
  (hc':c'.toList=c.toList.take l.endd++vs++c.toList.drop (l.endd+vs.length)):MLe M (zBg M l.blk l.endd vs)∧Sim w0 G (zBg M l.blk l.endd vs) ρ (h.del i) (w.setRow l.blk c'):=by
 obtain⟨l',h1,hb,hM,hend,c0,e0,h3,h4⟩:=hs.live i _ hi;rw[hl] at h1;cases h1;rw[hw] at h3;cases h3;have hle:MLe M (zBg M l.blk l.endd vs):=zB4 fun o ho=>hM o ho;have hcell:∀o:Nat,(w.setRow l.blk c').cell? ⟨l.blk,o,none⟩ =c'.toList[o]? :=fun o=>by
  rw[cell_setRow_same w l.blk o c c' e (0,0) hw];simp
 have hne:∀j oj lj,(h.del i).at' j=some oj→ρ j=some lj→lj.blk≠l.blk:=fun j oj lj e1 e2 hb'=>by
  simp only[Heap.del] at e1;split at e1
  ·cases e1
  ·rename_i hj;exact hj (hs.apart j i oj .tok lj l e1 hi e2 hl hb')
 have hd:=hs.del i;refine⟨hle,{ below:= ?_,imm:=fun b o v e'=> ?_,live:=fun j oj e'=> ?_,apart:=hd.apart,gdef:=fun b hb'=> ?_,old:=zGr hs.old hb }⟩
 ·exact⟨hs.below.os,hs.below.tape,hs.below.output,by rw[setRow_size];exact hs.below.size,fun k hk=>by
   have hne':k≠l.blk:=fun e=>hb (by rw[←e];exact hk);rw[setRow_other w _ _ _ hne'];exact hs.below.block k hk,hs.below.drawn⟩
 ·unfold zBg at e';split at e'
  ·rename_i hc;obtain⟨rfl,h5,h6⟩:=hc;rw[hcell,hc',qe _ _ _ (by simpa using hfit),if_neg (by omega),if_pos h6];exact e'
  ·rename_i hc;by_cases hbl:b=l.blk
   ·subst hbl;have h7:o<l.endd:=by
     rcases Nat.lt_or_ge o l.endd with h8|h8
     ·exact h8
     ·rw[hM o h8] at e';cases e'
    rw[hcell,hc',qe _ _ _ (by simpa using hfit),if_pos h7];have:=hs.imm _ _ _ e';simp only[World.cell?,hw,Option.isSome_none,Bool.false_eq_true,if_false] at this;simpa using this
   ·rw[cell_setRow_other w _ _ _ hbl];exact hs.imm _ _ _ e'
 ·obtain⟨lj,g1,g2,g3⟩:=hd.live j oj e';have hnb:=hne j oj lj e' g1;refine⟨lj,g1,g2,wE hle (RLe.refl _) (fun o ho=> ?_) (qh (setRow_other w _ _ _ hnb) g3)⟩;unfold zBg;rw[if_neg (by omega)];exact ho
 ·obtain⟨g1,g2⟩:=hs.gdef b hb';refine⟨g1,?_⟩;rw[setRow_other w _ _ _ (fun hq=>by subst hq;rw[hw] at g2;cases g2)];exact g2
theorem zQ (h:Heap) (i:Nat) (o:Obj):(h.new i o).at' i=some o:=by simp[Heap.new]
theorem zFe (P:Program) (e:TypeId) (cs:List D):zAX P e cs= .row cs∨zAX P e cs= .trow e false cs:=by
 unfold zAX;split
 ·split
  ·exact .inr rfl
  ·exact .inl rfl
 ·exact .inl rfl
theorem zIe (hs:Sim w0 G M ρ h w) (hn:ρ nid=none) {mu:Bool} {t u ty:TypeId} {s x d:D} {vs' vx:Value} {h':Heap} {ud:TypeDesc} (hu:P.underlying u=some ud) (hud:∀k,ud≠ .int k) (hsv:rel M ρ s vs') (hx:rel M ρ x vx)
  (hv:zZ P mu nid t s x h=some (d,h')):YV P w0 G M ρ nid w (Builtin.append_ #[t,u] ty #[vs',vx]) d h':=by
 unfold zZ at hv;split at hv
 ·cases hv
 ·rename_i e he;have ht:=qv he;split at hv
  ·rename_i hz;obtain⟨i,zv,hi,hisz,hib,hiz,hzl,hsz⟩:=zQ1 hz;generalize hS:szT P e=sz at *
   split at hv
   ·cases hv
   ·rename_i ys hys;have h0:0<sz:=by omega
    obtain⟨m,vs,hym,hml,hyr,hyf,hrun⟩:=zXt (P:=P) hs h0 hx hys;have hdiv:ys.length/sz=m:=by rw[hym];exact Nat.mul_div_cancel _ h0
    rw[hdiv] at hv;obtain⟨hr1,hr2⟩:=hrun w (zPe w);obtain⟨_,hr3⟩:=hrun w.drew (zC9 w);have hvl:vs.length=m*sz:=by rw[zU hyr,hym]
    have hone:=wN hyr hyf;have zQh:∀ (base:Option Addr) (n cap:Nat) (olds:List Value) (os:List D),vs'= .slice base n cap→cap<n+m→n+m≤lim→(n+m)*yY P e≤lim→
      (Builtin.firstCells sz n (.slice base n cap)).run P w.drew= .ok olds.toArray w.drew→zy M ρ os olds→os.all D.flat=true→os.length=n*sz→
      ∃c cap',(n+m≤cap'∧cap'≤maxLen)∧c.size=cap'*sz∧c.toList.take (olds++vs).length=olds++vs∧
       (Builtin.append_ #[t,u] ty #[vs',vx]).run P w= .ok (.slice (some ⟨w.heap.size,0,none⟩) (n+m) cap') (w.drew.alloc (.cells c e)):=by
     intro base n cap olds os hb hcap hl1 hl2 ho hor hof hol;subst hb;have hlo:olds.length=n*sz:=by rw[zU hor,hol]
     have hnew:=zII (P:=P) (w:=w) t u ty e ht hu hud hi hiz base n cap m vx olds vs hr1 (by rw[hisz];exact hr3) (by rw[hisz];exact ho) hcap hl1 (by rw[hib];exact hl2);have hge:=grownCap_ge w (n+m) cap e;refine⟨_,_,⟨hge,grownCap_le_maxLen w (n+m) cap e (by unfold maxLen;unfold lim at hl1;omega)⟩,?_,?_,hnew⟩
     ·simp only[Array.size_append,List.size_toArray,size_zeroCells,hzl];rw[hlo,hvl,←Nat.add_mul,←Nat.add_mul];congr 1;omega
     ·rw[show(olds.toArray++vs.toArray++Builtin.zeroCells zv.cells (grownCap w (n+m) cap e- (n+m))).toList=(olds++vs)++(Builtin.zeroCells zv.cells (grownCap w (n+m) cap e- (n+m))).toList by simp[List.append_assoc]];exact List.take_left' rfl
    have growI:∀ (base:Option Addr) (n cap:Nat) (olds:List Value) (os:List D) (hh:Heap),Sim w0 G M ρ hh w→vs'= .slice base n cap→cap<n+m→n+m≤lim→(n+m)*yY P e≤lim→
      (Builtin.firstCells sz n (.slice base n cap)).run P w.drew= .ok olds.toArray w.drew→zy M ρ os olds→os.all D.flat=true→os.length=n*sz→
      YV P w0 G M ρ nid w (Builtin.append_ #[t,u] ty #[vs',vx]) (.sl sz (yT sz (n+m) (os++ys)) (.own nid)) (hh.new nid .tok):=by
     intro base n cap olds os hh hsh hb hcap hl1 hl2 ho hor hof hol;obtain⟨c,cap',g1,g2,g3,g4⟩:=zQh base n cap olds os hb hcap hl1 hl2 ho hor hof hol;obtain⟨M',ρ',k1,k2,k3,k4,k5⟩:=hsh.drew.growTok hn (ys:=os++ys) (vs:=olds++vs) c e (sz:=sz) (n:=n+m) (cap:=cap') h0 (by rw[List.length_append,hol,hym,Nat.add_mul]) (yt hor hyr) (by rw[List.all_append,hof,hyf];rfl) g3 g2 g1.1 hl1 (by omega);exact⟨_,_,M',ρ',g4,k1,k2,fun i hi=>k3 i (zBk hi),k4,k5⟩
    have growR:∀ (base:Option Addr) (n cap:Nat) (olds:List Value) (os:List D) (hh:Heap),Sim w0 G M ρ hh w→vs'= .slice base n cap→cap<n+m→n+m≤lim→(n+m)*yY P e≤lim→
      (Builtin.firstCells sz n (.slice base n cap)).run P w.drew= .ok olds.toArray w.drew→zy M ρ os olds→os.all D.flat=true→os.length=n*sz→
      YV P w0 G M ρ nid w (Builtin.append_ #[t,u] ty #[vs',vx]) (.rs nid sz 0 (n+m)) (hh.new nid (.row (os++ys))):=by
     intro base n cap olds os hh hsh hb hcap hl1 hl2 ho hor hof hol;obtain⟨c,cap',g1,g2,g3,g4⟩:=zQh base n cap olds os hb hcap hl1 hl2 ho hor hof hol;have hlen:(os++ys).length=(olds++vs).length:=by rw[←zU (yt hor hyr)]
     have hle:(os++ys).length≤c.size:=by
      rw[g2,List.length_append,hol,hym,←Nat.add_mul];exact Nat.mul_le_mul_right _ g1.1
     have hrow:=hsh.drew.newRow hn e (ds:=os++ys) (c:=c) hle (by rw[hlen,g3];exact yt hor hyr) (by rw[List.all_append,hof,hyf];rfl);refine⟨_,_,M,_,g4,MLe.refl _,yw hn,fun i hi=>by simp[zAE,zBk hi],hrow,?_⟩;simp only[rel];exact⟨h0,hl1,_,cap',0,by simp[zAE];rfl,rfl,g1,by simp;omega, .inr rfl⟩
    have growT:∀ (base:Option Addr) (n cap:Nat) (olds:List Value) (os:List D) (hh:Heap),Sim w0 G M ρ hh w→vs'= .slice base n cap→cap<n+m→n+m≤lim→(n+m)*yY P e≤lim→
      (Builtin.firstCells sz n (.slice base n cap)).run P w.drew= .ok olds.toArray w.drew→zy M ρ os olds→os.all D.flat=true→os.length=n*sz→
      YV P w0 G M ρ nid w (Builtin.append_ #[t,u] ty #[vs',vx]) (.rs nid sz 0 (n+m)) (hh.new nid (.trow e false (os++ys))):=by
     intro base n cap olds os hh hsh hb hcap hl1 hl2 ho hor hof hol;obtain⟨c,cap',g1,g2,g3,g4⟩:=zQh base n cap olds os hb hcap hl1 hl2 ho hor hof hol;have hlen:(os++ys).length=(olds++vs).length:=by rw[←zU (yt hor hyr)]
     have hle:(os++ys).length≤c.size:=by
      rw[g2,List.length_append,hol,hym,←Nat.add_mul];exact Nat.mul_le_mul_right _ g1.1
     have hrow:=hsh.drew.newTRow hn e false (ds:=os++ys) (c:=c) hle (fun q=>by cases q) (by rw[hlen,g3];exact yt hor hyr) (by rw[List.all_append,hof,hyf];rfl);refine⟨_,_,M,_,g4,MLe.refl _,yw hn,fun i hi=>by simp[zAE,zBk hi],hrow,?_⟩;simp only[rel];exact⟨h0,hl1,_,cap',0,by simp[zAE];rfl,rfl,g1,by simp;omega, .inr rfl⟩
    have growO:∀ (base:Option Addr) (n cap:Nat) (olds:List Value) (os:List D) (hh:Heap),Sim w0 G M ρ hh w→vs'= .slice base n cap→cap<n+m→n+m≤lim→(n+m)*yY P e≤lim→
      (Builtin.firstCells sz n (.slice base n cap)).run P w.drew= .ok olds.toArray w.drew→zy M ρ os olds→os.all D.flat=true→os.length=n*sz→
      YV P w0 G M ρ nid w (Builtin.append_ #[t,u] ty #[vs',vx]) (.rs nid sz 0 (n+m)) (hh.new nid (zAX P e (os++ys))):=by
     intro base n cap olds os hh a1 a2 a3 a4 a5 a6 a7 a8 a9;rcases zFe P e (os++ys) with q|q
     ·rw[q];exact growR base n cap olds os hh a1 a2 a3 a4 a5 a6 a7 a8 a9
     ·rw[q];exact growT base n cap olds os hh a1 a2 a3 a4 a5 a6 a7 a8 a9
    unfold yk at hv;split at hv
    ·
     simp only[rel] at hsv;subst hsv;split at hv
     ·rename_i hm0;cases hv;subst hm0;have:=wo (P:=P) (w:=w) t u ty e ht hu hud (by omega) none 0 0 0 vx vs hr1 (by rw[hS];exact hr2) (Nat.le_refl _) w rfl;exact .pure hs this (by simp only[rel])
     ·rename_i hm0;split at hv
      ·rename_i hc;simp only[Bool.and_eq_true,decide_eq_true_eq] at hc;split at hv
       ·cases hv;have:=growO none 0 0 [] [] h hs rfl (by omega) (by omega) (by rw[Nat.zero_add];exact hc.1) rfl (by simp[zy]) rfl (by simp);simpa using this
       ·cases hv;have:=growI none 0 0 [] [] h hs rfl (by omega) (by omega) (by rw[Nat.zero_add];exact hc.1) rfl (by simp[zy]) rfl (by simp);simpa using this
      ·cases hv
    ·
     rename_i sz' xs tk;split at hv
     ·rename_i hc;simp only[Bool.and_eq_true,decide_eq_true_eq] at hc;obtain⟨⟨hsz',hc1⟩,hc2⟩:=hc;subst hsz';have hsv':=hsv;simp only[rel] at hsv;obtain⟨_,hxl,b,p,cap,⟨sp,rfl,hsp⟩,hcap,hE,htk⟩:=hsv;obtain⟨hC,hfl⟩:=zBS hE;obtain⟨olds,o1,o2,o3,o4⟩:=(hs.holds hC).firstCells (P:=P) (off:=0) (n:=xs.length*sz') (by omega);have htt:(xs.flatten.drop 0).take (xs.length*sz')=xs.flatten:=by rw[List.drop_zero,←hfl,List.take_length]
      rw[htt] at o1 o2;have ho:(Builtin.firstCells sz' xs.length (.slice (some ⟨b,p,sp⟩) xs.length cap)).run P w.drew= .ok olds.toArray w.drew:=by
       rcases hsp with rfl|rfl
       ·simpa [Builtin.firstCells] using o4 w.drew (zC9 w)
       ·obtain rfl:xs= []:=List.eq_nil_of_length_eq_zero (by omega)
        have:olds= []:=by apply List.eq_nil_of_length_eq_zero;simpa using o3
        subst this;simp[Builtin.firstCells,Go.loadCells,loadCellsFrom]
      have hch:=zAq sz' xs ys m (zK6 hE);split at hv
      ·cases hv
      ·simp only at htk;subst htk;split at hv
       ·rename_i hm0;cases hv;subst hm0;have hvs:vs= []:=by apply List.eq_nil_of_length_eq_zero;omega
        have:=wo (P:=P) (w:=w) t u ty e ht hu hud (by omega) (some ⟨b,p,sp⟩) xs.length xs.length 0 vx vs hr1 (by rw[hS];exact hr2) (by omega) w (by subst hvs;rfl);exact .pure hs this (by simpa using hsv')
       ·rename_i hm0;split at hv
        ·cases hv;exact growO _ xs.length xs.length olds xs.flatten h hs rfl (by omega) hc2 hc1 ho o1 o2 hfl
        ·cases hv;rw[←hch];exact growI _ xs.length xs.length olds xs.flatten h hs rfl (by omega) hc2 hc1 ho o1 o2 hfl
      ·rename_i ti;obtain⟨l,hl,hlb,hle,hls,hcp⟩:=htk;obtain rfl:sp=none:=hsp.resolve_right (by omega);split at hv
       ·rename_i htok;split at hv
        ·cases hv
        ·cases hv;rw[←hch];by_cases hroom:xs.length+m≤cap
         ·obtain⟨l',g1,g2,hM,hend,c,e0,hw,hcs⟩:=hs.live ti _ htok;rw[hl] at g1;cases g1;have hcap2:(xs.length+m)*sz'≤cap*sz':=Nat.mul_le_mul_right _ hroom;have hfit:l.endd+vs.length≤c.size:=by rw[hle,hvl,←hcs,Nat.add_assoc,←Nat.add_mul];omega
          have hst:=run_storeCells_at P l.blk l.endd e0 vs 0 c w hw (by omega) hone;rw[Nat.add_zero] at hst;obtain⟨k1,k2⟩:=hs.behind htok hl hw hfit (c.toList.take l.endd++vs++c.toList.drop (l.endd+vs.length)).toArray (by simp);have hrun':=wo (P:=P) (w:=w) t u ty e ht hu hud (by omega) (some ⟨b,p,none⟩) xs.length cap m vx vs hr1 (by rw[hS];exact hr2) hroom _ (by
           simp only[qF,hS];rw[←hlb,←hle];exact hst)
          have hsz2:(c.toList.take l.endd++vs++c.toList.drop (l.endd+vs.length)).length=c.size:=by simp;omega
          have k3:=k2.addObj (nid:=nid) hn ⟨l.blk,l.endd+vs.length,l.size⟩ .tok g2 (fun j oj lj e1 e2 hb'=>by
            simp only[Heap.del] at e1;split at e1
            ·cases e1
            ·rename_i hj;exact hj (hs.apart j ti oj .tok lj l e1 htok e2 hl hb'))
           ⟨fun o ho'=>by
             simp only at ho'⊢;unfold zBg;rw[if_neg (by omega)];exact hM o (by omega),by simp;omega,_,e0,setRow_heap w l.blk c _ e0 (0,0) hw,by simp only[List.size_toArray];rw[hsz2,hcs]⟩
          refine⟨_,_,_,_,hrun',k1,yw hn,fun i hi=>by simp[zAE,zBk hi],k3,?_⟩;simp only[rel,hch,List.length_append,qO];refine⟨h0,hc2,b,p,cap,zQq.mk _ _ _ _,hroom,?_,(⟨l.blk,l.endd+vs.length,l.size⟩:Loc),by simp[zAE],hlb,by simp only;rw[hle,hvl,Nat.add_assoc,←Nat.add_mul],by simpa using hls,hcp⟩;have hC2:zBP (zBg M l.blk l.endd vs) (zAE ρ nid ⟨l.blk,l.endd+vs.length,l.size⟩) (xs.flatten++ys) b p:=by
           refine zGy (zD6 k1 (yw hn) _ _ _ hC) (yi fun i d hi=> ?_);obtain⟨v,e1,e2⟩:=yq hyr i d hi;refine⟨List.all_eq_true.1 hyf d (List.mem_of_getElem? hi),v,?_,qE k1 (yw hn) _ _ e2⟩;rw[hfl,←hle,←hlb];exact zJc e1
          rw[←hch];refine zAD fun i x' hx'=> ?_;have hi:i<xs.length+m:=by rw[←qO sz' (xs.length+m) (xs.flatten++ys)];exact(List.getElem?_eq_some_iff.1 hx').1
          rw[zE0 _ _ _ _ hi] at hx';cases hx';have hlt:i*sz'+sz'≤(xs.length+m)*sz':=by rw[←Nat.succ_mul];exact Nat.mul_le_mul_right _ hi
          have hfl2:(xs.flatten++ys).length=(xs.length+m)*sz':=by rw[List.length_append,hfl,hym,Nat.add_mul]
          refine⟨by simp only[List.length_take,List.length_drop];omega,yi fun j d hd=> ?_⟩;simp only[List.getElem?_take,List.getElem?_drop] at hd;split at hd
          ·obtain⟨q0,v,q1,q2⟩:=zAp hC2 _ d hd;exact⟨q0,v,by rw[←q1];congr 1;omega,q2⟩
          ·cases hd
         ·exact growI _ xs.length cap olds xs.flatten (h.del ti) (hs.del ti) rfl (by omega) hc2 hc1 ho o1 o2 hfl
       ·cases hv
     ·cases hv
    ·
     rename_i id sz' off n;split at hv
     ·rename_i hc;simp only[Bool.and_eq_true,decide_eq_true_eq] at hc;obtain⟨⟨⟨⟨hmu,hsz'⟩,hoff⟩,hc1⟩,hc2⟩:=hc;subst hsz' hoff;split at hv
      ·rename_i cs hrow;split at hv
       ·rename_i hcl;cases hv;simp only[rel] at hsv;obtain⟨_,hxl,l,cap,o,hl,rfl,hcap,hlsz,ho0⟩:=hsv;obtain⟨l',g1,g2,hM,c,e0,hw,hcs,hlen,hcells⟩:=hs.live id _ hrow;rw[hl] at g1;cases g1;have hcsf:cs.all D.flat=true:=List.all_eq_true.2 fun q hq=>by
         obtain⟨j,hj⟩:=List.mem_iff_getElem?.1 hq;exact(hcells j q hj).1
        by_cases hroom:n+m≤cap
        ·have hcap2:(n+m)*sz'≤cap*sz':=Nat.mul_le_mul_right _ hroom;have hfit:n*sz'+vs.length≤c.size:=by rw[hvl,←Nat.add_mul,←hcs];omega
         have hst:(storeCells ((⟨l.blk,o,none⟩:Addr).add (n*sz')) vs).run P w= .ok () (w.setRow l.blk (c.toList.take (n*sz')++vs++c.toList.drop (n*sz'+vs.length)).toArray):=by
          rcases ho0 with hc0|ho0
          ·have hvs:vs= []:=by
            apply List.eq_nil_of_length_eq_zero;rw[hvl,show m=0 by omega,Nat.zero_mul]
           subst hvs;have hcc:(c.toList.take (n*sz')++([]:List Value)++c.toList.drop (n*sz'+([]:List Value).length)).toArray=c:=by simp
           rw[hcc,setRow_self w l.blk c e0 (0,0) hw];rfl
          ·subst ho0;have:=run_storeCells_at P l.blk (n*sz') e0 vs 0 c w hw (by omega) hone;rw[qF,Nat.zero_add];simpa using this
         have hrun':=wo (P:=P) (w:=w) t u ty e ht hu hud (by omega) (some ⟨l.blk,o,none⟩) n cap m vx vs hr1 (by rw[hS];exact hr2) hroom _ (by simp only[hS];exact hst);have hsz2:(c.toList.take (n*sz')++vs++c.toList.drop (n*sz'+vs.length)).length=c.size:=by simp;omega
         have hrel:zy M ρ (cs++ys) ((c.toList.take (n*sz')++vs++c.toList.drop (n*sz'+vs.length)).take (cs++ys).length):=by
          have hl2:(cs++ys).length=n*sz'+vs.length:=by rw[List.length_append,hcl,hvl,hym]
          rw[hl2,List.take_left' (by simp;omega)];refine yt (yD (by simp;omega) fun j q v h1 h2=> ?_) hyr;obtain⟨_,u',e1,e2⟩:=hcells j q h1;have hlt:j<n*sz':=by rw[←hcl];exact(List.getElem?_eq_some_iff.1 h1).1
          rw[List.getElem?_take,if_pos hlt] at h2
          have:some v=some u':=by rw[←h2,←e1];simp
          cases this;exact e2
         have hle2:(cs++ys).length≤(c.toList.take (n*sz')++vs++c.toList.drop (n*sz'+vs.length)).toArray.size:=by
          simp only[List.size_toArray];rw[hsz2,List.length_append,hcl,hym,←Nat.add_mul];omega
         have hflat:(cs++ys).all D.flat=true:=by rw[List.all_append,hcsf,hyf];rfl
         have k1:=hs.setRow hrow hl hw (c':=(c.toList.take (n*sz')++vs++c.toList.drop (n*sz'+vs.length)).toArray) (by simp only[List.size_toArray];exact hsz2) hle2 hrel hflat;have k2:=(k1.del id).addObj (nid:=nid) hn l (.row (cs++ys)) g2 (fun j oj lj e1 e2 hb'=>by
           simp only[Heap.del,Heap.set] at e1;split at e1
           ·cases e1
           ·rename_i hj;exact hj (hs.apart j id oj (.row cs) lj l e1 hrow e2 hl hb'))
          (zC7 hM (setRow_heap w l.blk c _ e0 (0,0) hw) (by simp only[List.size_toArray];rw[hsz2,hcs]) hle2 (wD (MLe.refl _) (yw hn) _ _ hrel) hflat)
         refine⟨_,_,M,_,hrun',MLe.refl _,yw hn,fun j hj=>by simp[zAE,zBk hj],k2.less (fun j oj e1=> ?_),?_⟩
         ·simp only[Heap.new,Heap.del,Heap.set] at e1⊢;by_cases hj:j=nid
          ·rw[if_pos hj] at e1⊢;exact e1
          ·rw[if_neg hj] at e1⊢;by_cases hj2:j=id
           ·rw[if_pos hj2] at e1;cases e1
           ·rw[if_neg hj2] at e1⊢;rw[if_neg hj2];exact e1
         ·simp only[rel];exact⟨h0,hc2,l,cap,o,by simp[zAE],rfl,⟨hroom,hcap.2⟩,hlsz,ho0⟩
        ·obtain⟨olds,o1,o2,o3,o4⟩:=(hs.row hrow hl).firstCells (P:=P) (off:=0) (n:=n*sz') (by omega);have htt:(cs.drop 0).take (n*sz')=cs:=by rw[List.drop_zero,←hcl,List.take_length]
         rw[htt] at o1 o2;have ho:(Builtin.firstCells sz' n (.slice (some ⟨l.blk,o,none⟩) n cap)).run P w.drew= .ok olds.toArray w.drew:=by
          rcases ho0 with hc0|ho0
          ·have hn0:n=0:=by omega
           subst hn0
           have:olds= []:=by apply List.eq_nil_of_length_eq_zero;omega
           subst this;simp[Builtin.firstCells,Go.loadCells,loadCellsFrom]
          ·subst ho0;have:=o4 w.drew (zC9 w);simpa [Builtin.firstCells] using this
         exact growR _ n cap olds cs (h.del id) (hs.del id) rfl (by omega) hc2 hc1 ho o1 o2 hcl
       ·cases hv
      ·rename_i e2 full cs hrow;split at hv
       ·cases hv
       split at hv
       ·rename_i hcl0;simp only[Bool.and_eq_true,decide_eq_true_eq] at hcl0;obtain⟨he2,hcl⟩:=hcl0;obtain rfl:e=e2:=he2.symm;cases hv;simp only[rel] at hsv;obtain⟨_,hxl,l,cap,o,hl,rfl,hcap,hlsz,ho0⟩:=hsv;obtain⟨l',g1,g2,hM,c,e0,hw,hcs,hlen,hcells,hty,_⟩:=hs.live id _ hrow;rw[hl] at g1;cases g1;have hcsf:cs.all D.flat=true:=List.all_eq_true.2 fun q hq=>by
         obtain⟨j,hj⟩:=List.mem_iff_getElem?.1 hq;exact(hcells j q hj).1
        by_cases hroom:n+m≤cap
        ·have hcap2:(n+m)*sz'≤cap*sz':=Nat.mul_le_mul_right _ hroom;have hfit:n*sz'+vs.length≤c.size:=by rw[hvl,←Nat.add_mul,←hcs];omega
         have hst:(storeCells ((⟨l.blk,o,none⟩:Addr).add (n*sz')) vs).run P w= .ok () (w.setRow l.blk (c.toList.take (n*sz')++vs++c.toList.drop (n*sz'+vs.length)).toArray):=by
          rcases ho0 with hc0|ho0
          ·have hvs:vs= []:=by
            apply List.eq_nil_of_length_eq_zero;rw[hvl,show m=0 by omega,Nat.zero_mul]
           subst hvs;have hcc:(c.toList.take (n*sz')++([]:List Value)++c.toList.drop (n*sz'+([]:List Value).length)).toArray=c:=by simp
           rw[hcc,setRow_self w l.blk c e0 (0,0) hw];rfl
          ·subst ho0;have:=run_storeCells_at P l.blk (n*sz') e0 vs 0 c w hw (by omega) hone;rw[qF,Nat.zero_add];simpa using this
         have hrun':=wo (P:=P) (w:=w) t u ty e ht hu hud (by omega) (some ⟨l.blk,o,none⟩) n cap m vx vs hr1 (by rw[hS];exact hr2) hroom _ (by simp only[hS];exact hst);have hsz2:(c.toList.take (n*sz')++vs++c.toList.drop (n*sz'+vs.length)).length=c.size:=by simp;omega
         have hrel:zy M ρ (cs++ys) ((c.toList.take (n*sz')++vs++c.toList.drop (n*sz'+vs.length)).take (cs++ys).length):=by
          have hl2:(cs++ys).length=n*sz'+vs.length:=by rw[List.length_append,hcl,hvl,hym]
          rw[hl2,List.take_left' (by simp;omega)];refine yt (yD (by simp;omega) fun j q v h1 h2=> ?_) hyr;obtain⟨_,u',e1,e2⟩:=hcells j q h1;have hlt:j<n*sz':=by rw[←hcl];exact(List.getElem?_eq_some_iff.1 h1).1
          rw[List.getElem?_take,if_pos hlt] at h2
          have:some v=some u':=by rw[←h2,←e1];simp
          cases this;exact e2
         have hle2:(cs++ys).length≤(c.toList.take (n*sz')++vs++c.toList.drop (n*sz'+vs.length)).toArray.size:=by
          simp only[List.size_toArray];rw[hsz2,List.length_append,hcl,hym,←Nat.add_mul];omega
         have hflat:(cs++ys).all D.flat=true:=by rw[List.all_append,hcsf,hyf];rfl
         have k1:=hs.setTRow' hrow hl hw (c':=(c.toList.take (n*sz')++vs++c.toList.drop (n*sz'+vs.length)).toArray) (by simp only[List.size_toArray];exact hsz2) hle2 hrel hflat;have k2:=(k1.del id).addObj (nid:=nid) hn l (.trow e false (cs++ys)) g2 (fun j oj lj e1 e2 hb'=>by
           simp only[Heap.del,Heap.set] at e1;split at e1
           ·cases e1
           ·rename_i hj;exact hj (hs.apart j id oj (.trow e false cs) lj l e1 hrow e2 hl hb'))
          (zB5 hM (by rw[←hty];exact setRow_heap w l.blk c _ e0 (0,0) hw) (by simp only[List.size_toArray];rw[hsz2,hcs]) hle2 (fun q=>by cases q) (wD (MLe.refl _) (yw hn) _ _ hrel) hflat)
         refine⟨_,_,M,_,hrun',MLe.refl _,yw hn,fun j hj=>by simp[zAE,zBk hj],k2.less (fun j oj e1=> ?_),?_⟩
         ·simp only[Heap.new,Heap.del,Heap.set] at e1⊢;by_cases hj:j=nid
          ·rw[if_pos hj] at e1⊢;exact e1
          ·rw[if_neg hj] at e1⊢;by_cases hj2:j=id
           ·rw[if_pos hj2] at e1;cases e1
           ·rw[if_neg hj2] at e1⊢;rw[if_neg hj2];exact e1
         ·simp only[rel];exact⟨h0,hc2,l,cap,o,by simp[zAE],rfl,⟨hroom,hcap.2⟩,hlsz,ho0⟩
        ·obtain⟨olds,o1,o2,o3,o4⟩:=(hs.trow hrow hl).firstCells (P:=P) (off:=0) (n:=n*sz') (by omega);have htt:(cs.drop 0).take (n*sz')=cs:=by rw[List.drop_zero,←hcl,List.take_length]
         rw[htt] at o1 o2;have ho:(Builtin.firstCells sz' n (.slice (some ⟨l.blk,o,none⟩) n cap)).run P w.drew= .ok olds.toArray w.drew:=by
          rcases ho0 with hc0|ho0
          ·have hn0:n=0:=by omega
           subst hn0
           have:olds= []:=by apply List.eq_nil_of_length_eq_zero;omega
           subst this;simp[Builtin.firstCells,Go.loadCells,loadCellsFrom]
          ·subst ho0;have:=o4 w.drew (zC9 w);simpa [Builtin.firstCells] using this
         exact growT _ n cap olds cs (h.del id) (hs.del id) rfl (by omega) hc2 hc1 ho o1 o2 hcl
       ·cases hv
      ·cases hv
     ·cases hv
    ·cases hv
  ·cases hv
theorem Sim.trunc (hs:Sim w0 G M ρ h w) {id:Nat} {cs:List D} (hi:h.at' id=some (.row cs)) (k:Nat):Sim w0 G M ρ (h.set id (.row (cs.take k))) w:=by
 refine { below:=hs.below,imm:=hs.imm,live:=fun i ob e=> ?_,apart:=fun i j oi oj li lj e1 e2 r1 r2 hb=> ?_,gdef:=hs.gdef,old:=hs.old }
 ·simp only[Heap.set] at e;split at e
  ·rename_i hid;subst hid;cases e;obtain⟨l,g1,g2,hM,c,e0,hw,hls,hlen,hcells⟩:=hs.live _ _ hi;refine⟨l,g1,g2,hM,c,e0,hw,hls,by simp;omega,fun j d hj=> ?_⟩;rw[List.getElem?_take] at hj;split at hj
   ·exact hcells j d hj
   ·cases hj
  ·exact hs.live i ob e
 ·have g:∀q oq,(h.set id (.row (cs.take k))).at' q=some oq→∃oq',h.at' q=some oq':=fun q oq e=>by
   simp only[Heap.set] at e;split at e
   ·rename_i hq;subst hq;exact⟨_,hi⟩
   ·exact⟨_,e⟩
  obtain⟨o1,k1⟩:=g i oi e1;obtain⟨o2,k2⟩:=g j oj e2;exact hs.apart i j o1 o2 li lj k1 k2 r1 r2 hb
theorem Sim.truncRs (hs:Sim w0 G M ρ h w) (s x:D):Sim w0 G M ρ (yv s x h) w:=by
 unfold V.yv;split
 ·split
  ·exact hs
  ·split
   ·rename_i cs hi;split
    ·exact hs.trunc hi _
    ·exact hs
   ·exact hs
 ·exact hs
theorem zMs (hs:Sim w0 G M ρ h w) (hn:ρ nid=none) {mu:Bool} {t u ty:TypeId} {s x d:D} {vs' vx:Value} {h':Heap} {ud:TypeDesc} (hu:P.underlying u=some ud) (hud:∀k,ud≠ .int k) (hsv:rel M ρ s vs') (hx:rel M ρ x vx)
  (hv:zAn P mu nid t s x h=some (d,h')):YV P w0 G M ρ nid w (Builtin.append_ #[t,u] ty #[vs',vx]) d h':=by
 unfold zAn at hv;split at hv
 ·exact zIe (hs.truncRs s x) hn hu hud hsv hx hv
 ·exact zIe hs hn hu hud hsv hx hv
end
end Go.V
