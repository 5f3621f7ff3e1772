/- Rules of the machine of abstract values, part 5. No condition. -/
import Derived.Test.YtalepjdbhjinhaaGreatDoorW30
import Derived.Lib.Join
import Derived.Lib.ItoaMem
import Derived.Test.YtalepjdbhjinhaaGreatDoorW28
import Derived.Test.YtalepjdbhjinhaaGreatDoorW21
import Derived.Test.YtalepjdbhjinhaaGreatDoorW29
import Derived.Lib.ItoaLen
import Derived.Lib.CountLaws
import Derived.Test.YtalepjdbhjinhaaGreatDoorW19
import Derived.Shelf.Strconv.Itoa3
set_option linter.all false
namespace Go.V
open Go.RowKit (Below)
theorem zA.of_lib2 {P:Program} {f:FuncId} {ds:List D} {d:D} (he:qV P f=true)
  (hc:∀ (M:Imm) (ρ:Ren) (va:Array Value) (w:World),(∀b o v,M b o=some v→w.cell? ⟨b,o,none⟩ =some v)→(∀g,P.globalNamed zAG=some g→Lib.TabIs P w zAG .u64 Lib.pow10Tab)→zy M ρ ds va.toList→
   Calls P f va w fun e w'=>∃v,e= .returned v∧Bel w.heap.size w w'∧∀ (M':Imm) (ρ':Ren),rel M' ρ' d v) (h:Heap):
  zA P f ds h fun a b=>a=d∧b=h:=by
 refine⟨he,fun w0 G M ρ w va hg0 hs hfr hr=>(hc M ρ va w hs.imm (fun g hg=>hg0.here hs.below hg) hr).mono fun e w' hq=> ?_⟩;obtain⟨v,rfl,hb,hv⟩:=hq;exact⟨v,M,ρ,d,h,rfl,MLe.refl _,RLe.refl _,hs.world hb,hfr,hv M ρ,rfl,rfl⟩
theorem zA.of_lib3 {P:Program} {f:FuncId} {ds:List D} {d:D} (he:qV P f=true)
  (hc:∀ (M:Imm) (ρ:Ren) (va:Array Value) (w:World),(∀b o v,M b o=some v→w.cell? ⟨b,o,none⟩ =some v)→zMy P w→zy M ρ ds va.toList→
   Calls P f va w fun e w'=>∃v,e= .returned v∧Bel w.heap.size w w'∧∀ (M':Imm) (ρ':Ren),rel M' ρ' d v) (h:Heap):
  zA P f ds h fun a b=>a=d∧b=h:=by
 refine⟨he,fun w0 G M ρ w va hg0 hs hfr hr=>(hc M ρ va w hs.imm (hg0.world hs.below) hr).mono fun e w' hq=> ?_⟩;obtain⟨v,rfl,hb,hv⟩:=hq;exact⟨v,M,ρ,d,h,rfl,MLe.refl _,RLe.refl _,hs.world hb,hfr,hv M ρ,rfl,rfl⟩
theorem zVU (w:World) (k:Nat) (os:Array Go.Obj):Bel w.heap.size w (Go.Sort.grow (w.drewN k) os):=⟨⟨rfl,rfl,rfl,by simp[Go.Sort.grow],fun b hb=>by simp[Go.Sort.grow,Array.getElem?_append_left hb]⟩,Nat.le_add_right _ _⟩
theorem zP8 {P:Program} {f:FuncId} (he:qV P f=true) {g:Nat} (hg:P.globalNamed zAG=some g)
  (hc:∀ (n:Int),-9223372036854775808≤n→n≤9223372036854775807→∀w:World,Lib.TabIs P w zAG .u64 Lib.pow10Tab→Calls P f #[.int .i64 n] w fun e w'=>e= .returned (.string ⟨(Lib.itoa n).toArray⟩)∧∃k os,w'=Go.Sort.grow (w.drewN k) os)
  {n:Int} (h1: -9223372036854775808≤n) (h2:n≤9223372036854775807) (hl:(Lib.itoa n).length≤lim) (h:Heap):zA P f [.int .i64 n] h fun a b=>a= .str (Lib.itoa n)∧b=h:=by
 refine zA.of_lib2 he (fun M ρ va w himm ht hr=> ?_) h;simp only[zy,rel] at hr;obtain⟨v,vs,e,⟨rfl,hf⟩,rfl⟩:=hr;have ev:va= #[.int .i64 n]:=Array.ext' (by simpa using e);subst ev;refine(hc n h1 h2 w (ht g hg)).mono fun e w' hq=> ?_;obtain⟨rfl,k,os,rfl⟩:=hq;refine⟨_,rfl,zVU _ _ _,fun M' ρ'=> ?_⟩;simp only[rel];exact⟨_,rfl,by simp,hl⟩
section
variable {h0 h h':Heap} {sz:Nat} {L:List (List (List D) ×D)}
end
section
variable {P:Program} {g:Cfg} {n:Nat} {ro:Option Nat} {Q:Exit→Frm→Heap→Prop} {fr:Frm} {h:Heap}
end
def zbI (d:D):Prop:=∃b,d= .bool b
def IsI (d:D):Prop:=∃n,d= .int .i64 n
theorem isI (n:Int):IsI (.int .i64 n):=⟨n,rfl⟩
theorem zbJ (b:Bool):zbI (.bool b):=⟨b,rfl⟩
section
variable {P:Program} {g:Cfg} {n:Nat} {ro:Option Nat} {c:Code} {Q:Exit→Frm→Heap→Prop} {fr:Frm} {h:Heap}
theorem zJB (J:Nat→Frm→Heap→Prop) (len:Nat) (hlen:len≤1073741824) (hJ0:J 1 fr h)
  (step:∀ (i:Nat) fr h,i+1<len→decide (((i+1:Nat):Int)<(len:Int))=true→IntKind.i64.wrap (((i+1:Nat):Int)+1)=((i+1+1:Nat):Int)→IntKind.i64.wrap (((i+1:Nat):Int)-1)=(i:Int)→J (i+1) fr h→vwp P g n ro c (zDf (J (i+1+1)) Q) fr h)
  (last:∀ (i:Nat) fr h,decide ((i:Int)<(len:Int))=false→J i fr h→vwp P g n ro c (zDf (fun _ _=>False) Q) fr h):vwp P g n ro (.loop c) Q fr h:=by
 refine yG (fun k=>J (k+1)) (len-1) hJ0 fun k fr h hk hJ=> ?_;by_cases hlt:k+1<len
 ·refine qy c ?_ fr h (step k fr h hlt (decide_eq_true (by omega)) (zf (by unfold lim;omega)) (by rw[zx (by omega) (by omega)];omega) hJ);intro e fr' h' hq;cases e with
  |normal=>exact⟨by omega,hq⟩
  |_=>exact hq
 ·refine qy c ?_ fr h (last (k+1) fr h (decide_eq_false (by omega)) hJ);intro e fr' h' hq;cases e with
  |normal=>exact hq.elim
  |_=>exact hq
end
open Go.Proofs
set_option maxRecDepth 100000
theorem zFP (x y:List UInt8) (r:List (List UInt8)) (sep:List UInt8):Lib.join (x::y::r) sep=x++sep++Lib.join (y::r) sep:=by
 simp[Lib.join,List.intercalate,List.intersperse]
theorem zJC (c:UInt8):∀s:List UInt8,Lib.join (zm c s) [c]=s
 | []=>rfl
 |b::s=>by
  have ih:=zJC c s;have hne:=zCk c s;simp only[zm];cases hp:zm c s with
  |nil=>exact absurd hp hne
  |cons p ps=>
   rw[hp] at ih;by_cases hb:b=c
   ·rw[if_pos hb,zFP,ih,hb];rfl
   ·rw[if_neg hb];simp only[];cases ps with
    |nil=>
     rw[Lib.join_one] at ih⊢;rw[ih]
    |cons q qs=>
     rw[zFP] at ih⊢;rw[←ih];simp
def nl (L:List (List UInt8)):List UInt8:=L.flatMap (· ++ [10])
def zMf (p:List UInt8×List UInt8):List UInt8:=zKT++p.1++ [32]++Lib.itoa ((yK p.2).length:Int)
def zXd (p:List UInt8×List UInt8):List (List UInt8):=zMf p::yK p.2
def zAv (x:List UInt8):List UInt8:=zZg++ [32]++x
def zJD (x:List UInt8):List UInt8:=zhJ++ [32]++x
def qw (ps:List (List UInt8×List UInt8)):List (List UInt8):=ps.flatMap zXd
def zNV (n:Note):List (List UInt8):=qw (n.ls.zip n.ts)++n.hs.map zAv++n.cs.map zJD
def zQj (n:Note):List UInt8×Int:=if zw n≠0 then([],zw n) else(nl (zNV n),0)
theorem zJE (a b:List (List UInt8)):nl (a++b)=nl a++nl b:=by simp[nl]
theorem zHc (a:List (List UInt8)) (x:List UInt8):nl (a++ [x])=nl a++(x++ [10]):=by simp[nl]
theorem zhN {a b:List (List UInt8)} (h:a <+:b):(nl a).length≤(nl b).length:=by
 obtain⟨c,rfl⟩:=h;rw[zJE,List.length_append];omega
theorem zKU {a b:List (List UInt8)} {x:List UInt8} (h:a++ [x] <+:b):(nl a).length+(x++ [10]).length≤(nl b).length:=by
 have:=zhN h;rw[zHc,List.length_append] at this;exact this
theorem zTC:∀ {L:List (List UInt8)},L≠[]→nl L=Lib.join L [10]++ [10]
 | [],h=>absurd rfl h
 | [x],_=>by simp[nl,Lib.join_one]
 |x::y::r,_=>by
  have ih:=zTC (L:=y::r) (by simp);rw[zFP]
  have:nl (x::y::r)=(x++ [10])++nl (y::r):=rfl;rw[this,ih];simp
theorem zVV (t:List UInt8):nl (yK t)=if t= [] then [] else t++ [10]:=by
 unfold yK;split
 ·rfl
 ·rw[zTC (zCk 10 t),zJC]
theorem zNW {α:Type} {f:α→List (List UInt8)} {B:Nat} :∀ {l:List α},(∀x∈l,(nl (f x)).length≤B)→(nl (l.flatMap f)).length≤l.length*B
 | [],_=>by simp[nl]
 |x::l,h=>by
  have ih:=zNW (f:=f) (l:=l) fun y hy=>h y (List.mem_cons_of_mem _ hy);have h1:=h x List.mem_cons_self;rw[List.flatMap_cons,zJE,List.length_append,List.length_cons,Nat.succ_mul];omega
theorem zXe {f:List UInt8→List UInt8} {B:Nat} {l:List (List UInt8)} (h:∀x∈l,(f x).length≤B):(nl (l.map f)).length≤l.length*(B+1):=by
 have:l.map f=l.flatMap fun x=>[f x]:=by induction l with
  |nil=>rfl
  |cons a l ih=>simp[ih fun x hx=>h x (List.mem_cons_of_mem _ hx)]
 rw[this];refine zNW fun x hx=> ?_;have:=h x hx;simp[nl];omega
theorem zNX {e:Nat→Int} {l:List (List UInt8)} (h:zAh e l=0):∀i,i<l.length→e i=0:=fun i hi=>by
 have:=zAO.1 h i hi;unfold zBJ at this;split at this
 ·exact this
 ·rename_i q;exact Decidable.not_not.1 q
theorem zHd {n:Note} (h:zw n=0):zAh (zFO n) n.ls=0∧zAh (zCR n) n.hs=0∧zAh (zAt n) n.cs=0:=by
 unfold zw at h;split at h
 ·cases h
 split at h
 ·cases h
 split at h
 ·rename_i q;exact absurd h q
 split at h
 ·rename_i q;exact absurd h q
 ·rename_i q r;exact⟨Decidable.not_not.1 q,Decidable.not_not.1 r,h⟩
theorem zEd {n:Note} (h:zw n=0):∀p∈n.ls.zip n.ts,ye p.1=true∧qN p.2=0:=fun p hp=>by
 obtain⟨i,hi,rfl⟩:=List.mem_iff_getElem.1 hp;rw[List.length_zip] at hi;have:=zNX (zHd h).1 i (by omega);unfold zFO at this;rw[wJ (by omega),wJ (by omega)] at this;rw[List.getElem_zip];split at this
 ·rename_i q;exact⟨q,this⟩
 ·cases this
theorem zFQ {n:Note} (h:zw n=0):∀x∈n.hs,wu x=true:=fun x hx=>by
 obtain⟨i,hi,rfl⟩:=List.mem_iff_getElem.1 hx;have:=zNX (zHd h).2.1 i (by omega);unfold zCR at this;rw[wJ (by omega)] at this;split at this
 ·rename_i q;exact q
 ·cases this
theorem zHe {n:Note} (h:zw n=0):∀x∈n.cs,zGC x=0:=fun x hx=>by
 obtain⟨i,hi,rfl⟩:=List.mem_iff_getElem.1 hx;have:=zNX (zHd h).2.2 i (by omega);unfold zAt at this
 rwa [wJ (by omega)] at this
theorem zO8 {s:List UInt8} (h:ye s=true):s.length≤32:=by
 cases s with
 |nil=>simp
 |cons b r=>
  simp only[ye,Bool.and_eq_true,Bool.not_eq_true',Bool.or_eq_false_iff,decide_eq_false_iff_not] at h;omega
theorem zKV {s:List UInt8} (h:qN s=0):s.length≤4096∧(yK s).length≤999∧s.any qI=false:=by
 unfold qN at h;split at h
 ·cases h
 split at h
 ·cases h
 ·rename_i q r;exact⟨by omega,by omega,by simpa using r⟩
theorem zVW {s:List UInt8} (h:wu s=true):s.length≤200:=by
 simp only[wu,Bool.and_eq_true,Bool.not_eq_true',Bool.or_eq_false_iff,decide_eq_false_iff_not] at h;omega
theorem zVX {s:List UInt8} (h:zGC s=0):s.length≤128:=by
 unfold zGC at h;split at h
 ·cases h
 ·omega
theorem zFw {k:Nat} (h:k≤1048576):(Lib.itoa (k:Int)).length≤21:=Lib.itoa_length_le _ (by omega) (by omega)
theorem zVY {p:List UInt8×List UInt8} (h1:ye p.1=true) (h2:qN p.2=0):(zMf p).length≤62:=by
 have:=zO8 h1;have:=zFw (k:=(yK p.2).length) (by have:=(zKV h2).2.1;omega);simp only[zMf,zKT,List.length_append,List.length_cons,List.length_nil];omega
theorem zTD {n:Note} (h:zw n=0):(nl (zNV n)).length≤16777216:=by
 have hc:=zAU h;have h1:(nl (qw (n.ls.zip n.ts))).length≤(n.ls.zip n.ts).length*5000:=zNW fun p hp=>by
  obtain⟨q1,q2⟩:=zEd h p hp;have a:=zVY q1 q2;have b:=(zKV q2).1;have e:nl (zXd p)=(zMf p++ [10])++nl (yK p.2):=rfl;rw[e,zVV,List.length_append,List.length_append];split<;>simp only[List.length_append,List.length_cons,List.length_nil]<;>omega
 have h2:(nl (n.hs.map zAv)).length≤n.hs.length*(300+1):=zXe fun x hx=>by
  have:=zVW (zFQ h x hx);simp only[zAv,zZg,List.length_append,List.length_cons,List.length_nil];omega
 have h3:(nl (n.cs.map zJD)).length≤n.cs.length*(300+1):=zXe fun x hx=>by
  have:=zVX (zHe h x hx);simp only[zJD,zhJ,List.length_append,List.length_cons,List.length_nil];omega
 rw[zNV,zJE,zJE,List.length_append,List.length_append];rw[List.length_zip] at h1;omega
theorem zHf {s sub:List UInt8} :∀n:Nat,(∃j,j≤n∧Lib.occAt s sub j=true)→∃i,i≤n∧Lib.occAt s sub i=true∧∀j,j<i→Lib.occAt s sub j=false
 |0,⟨j,hj,h⟩=>⟨0,Nat.le_refl _,by rw[show j=0 by omega] at h;exact h,fun j hj=>absurd hj (Nat.not_lt_zero _)⟩
 |n+1,⟨j,hj,h⟩=>by
  by_cases q:∃j,j≤n∧Lib.occAt s sub j=true
  ·obtain⟨i,hi,h1,h2⟩:=zHf n q;exact⟨i,by omega,h1,h2⟩
  ·have hjn:j=n+1:=by
    rcases Nat.lt_or_ge j (n+1) with q2|q2
    ·exact absurd ⟨j,by omega,h⟩ q
    ·omega
   refine⟨n+1,Nat.le_refl _,by rw[←hjn];exact h,fun k hk=> ?_⟩;cases e:Lib.occAt s sub k with
   |false=>rfl
   |true=>exact absurd ⟨k,by omega,e⟩ q
theorem zTE {s sub:List UInt8} {i:Nat} (hsub:sub≠[]) (h:Lib.occAt s sub i=true):i+sub.length≤s.length:=by
 unfold Lib.occAt at h;obtain⟨t,ht⟩:=List.isPrefixOf_iff_prefix.1 h;have:=congrArg List.length ht;rw[List.length_append,List.length_drop] at this;have h0:=List.length_pos_iff.2 hsub;omega
theorem zP9 {s sub:List UInt8} {j:Nat} (hsub:sub≠[]) (h:Lib.occAt s sub j=true):∃i,i≤j∧Lib.index s sub=(i:Int)∧Lib.occAt s sub i=true:=by
 obtain⟨i,hi,h1,h2⟩:=zHf j ⟨j,Nat.le_refl _,h⟩;exact⟨i,hi,Lib.index_first (by have:=zTE hsub h1;omega) h1 h2,h1⟩
theorem zTF {s sub:List UInt8} (h:Lib.index s sub≠ -1):∃i,i≤s.length∧Lib.index s sub=(i:Int)∧Lib.occAt s sub i=true:=by
 by_cases q:∃j,j≤s.length∧Lib.occAt s sub j=true
 ·obtain⟨i,hi,h1,h2⟩:=zHf s.length q;exact⟨i,hi,Lib.index_first hi h1 h2,h1⟩
 ·exact absurd (Lib.index_none fun j hj=>by
   cases e:Lib.occAt s sub j with
   |false=>rfl
   |true=>exact absurd ⟨j,hj,e⟩ q) h
theorem zFR {sub:List UInt8} (hsub:sub≠[]):∀ (n:Nat) (p t:List UInt8),(p++t).length≤n→Lib.count t sub≤Lib.count (p++t) sub:=by
 intro n
 induction n with
 |zero=>
  intro p t h;rw[List.length_append] at h;have h1:p= []:=List.length_eq_zero_iff.1 (by omega);rw[h1];exact Nat.le_refl _
 |succ n ih=>
  intro p t h;by_cases ht:Lib.index t sub= -1
  ·rw[Lib.count_miss ht];exact Nat.zero_le _
  ·obtain⟨j,hj,e1,o1⟩:=zTF ht;have hd:∀k,(p++t).drop (p.length+k)=t.drop k:=fun k=>by
    rw[List.drop_append,List.drop_of_length_le (by omega),Nat.add_sub_cancel_left,List.nil_append]
   have o2:Lib.occAt (p++t) sub (p.length+j)=true:=by
    unfold Lib.occAt at o1⊢;rw[hd];exact o1
   obtain⟨i,hi,e2,o3⟩:=zP9 hsub o2;rw[Lib.count_hit hsub e1,Lib.count_hit hsub e2];have hx:(p++t).drop (i+sub.length)=((p++t).drop (i+sub.length)).take (p.length+j-i)++t.drop (j+sub.length):=by
    have h3:=(List.take_append_drop (p.length+j-i) ((p++t).drop (i+sub.length))).symm;rw[List.drop_drop,show i+sub.length+(p.length+j-i)=p.length+(j+sub.length) by omega,hd] at h3;exact h3
   have hl:((p++t).drop (i+sub.length)).length≤n:=by
    have:=List.length_pos_iff.2 hsub;rw[List.length_drop];omega
   rw[hx] at hl⊢;have:=ih _ _ hl;omega
theorem zTG {sub:List UInt8} (hsub:sub≠[]) (a t:List UInt8):1+Lib.count t sub≤Lib.count (a++sub++t) sub:=by
 have h1:Lib.index (sub++t) sub=((0:Nat):Int):=Lib.index_first (Nat.zero_le _) (by unfold Lib.occAt;exact List.isPrefixOf_iff_prefix.2 ⟨t,rfl⟩) fun j hj=>absurd hj (Nat.not_lt_zero _);have h2:Lib.count (sub++t) sub=1+Lib.count t sub:=by
  rw[Lib.count_hit hsub h1,Nat.zero_add,List.drop_left]
 rw[←h2,List.append_assoc];exact zFR hsub _ a (sub++t) (Nat.le_refl _)
theorem zJF:∀ (zs:List (List UInt8×List UInt8)) (r:List UInt8),zs.length≤Lib.count (nl (qw zs)++r) zKT
 | [],_=>Nat.zero_le _
 |z::zs,r=>by
  have ih:=zJF zs r;have hw:zKT≠[]:=by decide
  have e:nl (qw (z::zs))++r= []++zKT++((z.1++ [32]++Lib.itoa ((yK z.2).length:Int)++ [10])++(nl (yK z.2)++(nl (qw zs)++r))):=by
   show nl (zXd z++qw zs)++r=_;rw[zJE];show nl (zMf z::yK z.2)++nl (qw zs)++r=_;show(zMf z++ [10]++nl (yK z.2))++nl (qw zs)++r=_;unfold zMf;simp only[List.append_assoc,List.nil_append]
  rw[e];have h1:=zTG hw [] ((z.1++ [32]++Lib.itoa ((yK z.2).length:Int)++ [10])++(nl (yK z.2)++(nl (qw zs)++r)));have h2:=zFR hw _ (z.1++ [32]++Lib.itoa ((yK z.2).length:Int)++ [10]) (nl (yK z.2)++(nl (qw zs)++r)) (Nat.le_refl _);have h3:=zFR hw _ (nl (yK z.2)) (nl (qw zs)++r) (Nat.le_refl _);rw[List.length_cons];omega
theorem zTH {n:Note} (h:zw n=0) (hl:n.ts.length=n.ls.length):n.ls.length≤Lib.count (zQj n).1 zKT:=by
 unfold zQj;rw[if_neg (by rw[h];simp)];show _≤Lib.count (nl (zNV n)) zKT;unfold zNV;rw[List.append_assoc,zJE];have:=zJF (n.ls.zip n.ts) (nl (n.hs.map zAv++n.cs.map zJD));rw[List.length_zip] at this;omega
def byD (b:UInt8):D:= .int .u8 (b.toNat:Int)
def Buf (h0 h:Heap) (id:Nat) (d:D) (bs:List UInt8):Prop:=(d= .nilsl∧bs= [])∨(bs≠[]∧∃b,d= .rs b 1 0 bs.length∧h.at' b=some (.trow 5 false (bs.map byD))∧h0.next≤b∧b<h.next∧b≠id)
def Bld (h0 h:Heap) (id:Nat) (bs:List UInt8):Prop:=h0.next≤id∧id<h.next∧Ext h0 h∧∃a d,h.at' id=some (.trow 115 true [a,d])∧(a= .nilptr∨a= .ptr id 0)∧Buf h0 h id d bs
theorem zNY (s:List UInt8):wc (s.map byD)=some s:=by
 induction s with
 |nil=>rfl
 |cons b s ih=>
  have hb:=UInt8.toNat_lt b;simp only[List.map_cons,byD,wc] at ih⊢;simp[ih,byD]
theorem zVZ {h:Heap} {id:Nat} {t:TypeId} {cs:List D} {off:Nat} {x:D} {ty:TypeId} (hi:h.at' id=some (.trow t true cs)) (hs:szT Tryz.prog ty=1) (ho:off<cs.length) (hc:x.cells= [x]) (hf:x.flat=true):zW Tryz.prog ty (.ptr id off) x h=some (h.set id (.trow t true (cs.set off x))):=by
 simp only[zW,hi,hs,hc]
 have:y8 cs [x] off=cs.set off x:=by
  simp[y8,List.set_eq_take_append_cons_drop,ho]
 simp[hf,ho,this];omega
set_option maxHeartbeats 1000000 in
theorem ze4 {h0 h:Heap} {id:Nat} {bs s:List UInt8} (hB:Bld h0 h id bs) (hl:bs.length+s.length≤1073741824):
  zA Tryz.prog 49 [.ptr id 0, .str s] h fun _ h'=>Bld h0 h' id (bs++s):=by
 obtain⟨hid,hlt,hE,a,d,hrow,ha,hbuf⟩:=hB;have hcp:=zCn Tryz.lays240 Tryz.Builder_X72_240 (by kernel_rfl) hrow ha;refine zA.of_fn (g:=zU3) mix Tryz.func49 zit rfl rfl ?_;simp only[Tryz.f49,gJ]
 repeat' first|(simp only[go_sem,Nat.reduceEqDiff,Int.reduceBEq,Int.reduceLT,Int.reduceLE,Int.reduceGT,Int.reduceGE,↓reduceIte,Nat.reduceAdd,Nat.zero_add,Nat.reduceBEq,List.getElem?_cons_zero,List.getElem?_cons_succ,List.contains_cons,List.contains_nil,zC,zo,decide_true,decide_false,bne,Bool.or_false,Bool.or_true,Bool.false_or,Bool.true_or,Bool.or_self,Bool.false_and,Bool.true_and,Bool.and_false,Bool.and_true,Bool.and_self,Bool.not_true,Bool.not_false,Bool.not_not,zI,D.notTuple,D.cells,zel, *])|(refine yO (fun hc=> ?_) (fun hc=> ?_))|(refine yf (fun hc=> ?_) (fun hc=> ?_))|(refine yE (fun hc=> ?_) (fun hc=> ?_))|(refine yF (fun hc=> ?_) (fun hc=> ?_))|(refine yP (fun hc=> ?_) (fun hc=> ?_))|(refine yQ (fun hc=> ?_) (fun hc=> ?_))
 refine hcp.mono ?_;rintro r _ ⟨rfl,rfl⟩;obtain⟨H,hH,n1,e1,r1,b1⟩:∃H,h.set id (.trow 115 true [.ptr id 0,d])=H∧id<H.next∧Ext h0 H∧H.at' id=some (.trow 115 true [.ptr id 0,d])∧Buf h0 H id d bs:=by
  refine⟨_,rfl,hlt,hE.set hid _,zF _ _ _,?_⟩;rcases hbuf with hb| ⟨h1,b,h2,h3,h4,h5,h6⟩
  ·exact .inl hb
  ·exact .inr ⟨h1,b,h2,by rw[zH h6];exact h3,h4,h5,h6⟩
 have hH2:h.set id (.trow (Tryz.lays240_ren.t 72) true [.ptr id 0,d])=H:=hH;rw[hH2];clear hcp hrow ha hbuf hE hH hH2 hlt;have fin:∀ {d':D} {H2:Heap},d'.cells= [d']→d'.flat=true→id<H2.next→Ext h0 H2→H2.at' id=some (.trow 115 true [.ptr id 0,d])→Buf h0 H2 id d' (bs++s)→∃H3,zW Tryz.prog 113 (.ptr id 1) d' H2=some H3∧Bld h0 H3 id (bs++s):=fun {d' H2} hc hf hn he hr hb=>by
  refine⟨_,zVZ hr zYx (by simp) hc hf,hid,hn,he.set hid _, .ptr id 0,d',?_, .inr rfl,?_⟩
  ·rw[zF];rfl
  ·rcases hb with hb| ⟨h1,b,h2,h3,h4,h5,h6⟩
   ·exact .inl hb
   ·exact .inr ⟨h1,b,h2,by rw[zH h6];exact h3,h4,h5,h6⟩
 have hsd:s.map (fun b=>D.int .u8 (b.toNat:Int))=s.map byD:=rfl;rcases b1 with⟨rfl,rfl⟩ | ⟨h1,b,rfl,h3,h4,h5,h6⟩
 ·by_cases hs0:s= []
  ·subst hs0;obtain⟨H3,hst,hB3⟩:=fin (d':= .nilsl) (H2:=H) rfl rfl n1 e1 r1 (.inl ⟨rfl,rfl⟩);have hap:∀nid,zZ Tryz.prog true nid 113 .nilsl (.str []) H=some (.nilsl,H):=fun nid=>by
    simp[zZ,wq,zRV,zIN,zKy,yk]
   clear fin
   repeat' first|(simp only[go_sem,Nat.reduceEqDiff,Int.reduceBEq,Int.reduceLT,Int.reduceLE,Int.reduceGT,Int.reduceGE,↓reduceIte,Nat.reduceAdd,Nat.zero_add,Nat.reduceBEq,List.getElem?_cons_zero,List.getElem?_cons_succ,List.contains_cons,List.contains_nil,zC,zo,decide_true,decide_false,bne,Bool.or_false,Bool.or_true,Bool.false_or,Bool.true_or,Bool.or_self,Bool.false_and,Bool.true_and,Bool.and_false,Bool.and_true,Bool.and_self,Bool.not_true,Bool.not_false,Bool.not_not,zI,D.notTuple,D.cells,zel,zAY,hap,hst, *])|(refine yO (fun hc=> ?_) (fun hc=> ?_))|(refine yf (fun hc=> ?_) (fun hc=> ?_))|(refine yE (fun hc=> ?_) (fun hc=> ?_))|(refine yF (fun hc=> ?_) (fun hc=> ?_))|(refine yP (fun hc=> ?_) (fun hc=> ?_))|(refine yQ (fun hc=> ?_) (fun hc=> ?_))
   exact hB3
  ·obtain⟨H3,hst,hB3⟩:=fin (d':= .rs H.next 1 0 s.length) (H2:=H.new H.next (.trow 5 false (s.map byD))) rfl rfl (by rw[zK];omega) (e1.new (by have:=e1.1;omega) _) (by rw[zM (by omega)];exact r1)
    (.inr ⟨by simpa using hs0,H.next,by simp,by rw[zQ];simp,e1.1,by rw[zK];omega,by omega⟩)
   have hsl:s.length≠0:=fun e=>hs0 (List.length_eq_zero_iff.1 e);have hap:zZ Tryz.prog true H.next 113 .nilsl (.str s) H=some (.rs H.next 1 0 s.length,H.new H.next (.trow 5 false (s.map byD))):=by
    simp only[zZ,wq,zRV,zIN,if_true,zKy,hsd,yk,List.length_map,Nat.div_one,zOS];rw[if_neg hsl,if_pos (by simp only[Bool.and_eq_true,decide_eq_true_eq];unfold lim;simp only[List.length_nil,Nat.zero_add] at hl;omega)];rw[zSu Tryz.underlying5]
   clear fin hs0 hsl
   repeat' first|(simp only[go_sem,Nat.reduceEqDiff,Int.reduceBEq,Int.reduceLT,Int.reduceLE,Int.reduceGT,Int.reduceGE,↓reduceIte,Nat.reduceAdd,Nat.zero_add,Nat.reduceBEq,List.getElem?_cons_zero,List.getElem?_cons_succ,List.contains_cons,List.contains_nil,zC,zo,decide_true,decide_false,bne,Bool.or_false,Bool.or_true,Bool.false_or,Bool.true_or,Bool.or_self,Bool.false_and,Bool.true_and,Bool.and_false,Bool.and_true,Bool.and_self,Bool.not_true,Bool.not_false,Bool.not_not,zI,D.notTuple,D.cells,zel,zAY,hap,hst, *])|(refine yO (fun hc=> ?_) (fun hc=> ?_))|(refine yf (fun hc=> ?_) (fun hc=> ?_))|(refine yE (fun hc=> ?_) (fun hc=> ?_))|(refine yF (fun hc=> ?_) (fun hc=> ?_))|(refine yP (fun hc=> ?_) (fun hc=> ?_))|(refine yQ (fun hc=> ?_) (fun hc=> ?_))
   exact hB3
 ·have hne:bs++s≠[]:=by simp[h1]
  obtain⟨H3,hst,hB3⟩:=fin (d':= .rs H.next 1 0 (bs.length+s.length)) (H2:=(H.del b).new H.next (.trow 5 false ((bs++s).map byD))) rfl rfl (by have:((H.del b).new H.next (.trow 5 false ((bs++s).map byD))).next=H.next+1:=zK (H.del b) _;omega) ((e1.del h4).new (by have:=e1.1;omega) _) (by rw[zM (by omega),qP (by omega)];exact r1)
   (.inr ⟨hne,H.next,by rw[List.length_append],zQ _ _ _,e1.1,by have:((H.del b).new H.next (.trow 5 false ((bs++s).map byD))).next=H.next+1:=zK (H.del b) _;omega,by omega⟩)
  have hap:zZ Tryz.prog true H.next 113 (.rs b 1 0 bs.length) (.str s) H=some (.rs H.next 1 0 (bs.length+s.length),(H.del b).new H.next (.trow 5 false ((bs++s).map byD))):=by
   simp only[zZ,wq,zRV,zIN,if_true,zKy,hsd,yk,List.length_map,Nat.div_one,zOS,h3];rw[if_pos (by simp;unfold lim;omega)];simp
  clear fin
  repeat' first|(simp only[go_sem,Nat.reduceEqDiff,Int.reduceBEq,Int.reduceLT,Int.reduceLE,Int.reduceGT,Int.reduceGE,↓reduceIte,Nat.reduceAdd,Nat.zero_add,Nat.reduceBEq,List.getElem?_cons_zero,List.getElem?_cons_succ,List.contains_cons,List.contains_nil,zC,zo,decide_true,decide_false,bne,Bool.or_false,Bool.or_true,Bool.false_or,Bool.true_or,Bool.or_self,Bool.false_and,Bool.true_and,Bool.and_false,Bool.and_true,Bool.and_self,Bool.not_true,Bool.not_false,Bool.not_not,zI,D.notTuple,D.cells,zel,zAY,yv,h3,hap,hst, *])|(refine yO (fun hc=> ?_) (fun hc=> ?_))|(refine yf (fun hc=> ?_) (fun hc=> ?_))|(refine yE (fun hc=> ?_) (fun hc=> ?_))|(refine yF (fun hc=> ?_) (fun hc=> ?_))|(refine yP (fun hc=> ?_) (fun hc=> ?_))|(refine yQ (fun hc=> ?_) (fun hc=> ?_))
section
variable {P:Program} {m:Bool} {nid:Nat} {fr:Frm} {h:Heap} {k:D→Heap→Prop}
def zO9 (x:D):Option D:=match x with
 | .rs id _ off n=>match n,off with
  |0,_=>none
  |_,0=>some (.ptr id 0)
  |_,_=>none
 | .nilsl=>some .nilptr
 |_=>none
@[go_sem ↓] theorem ze5 (t:TypeId) (x:Operand):qn P m nid (.call ⟨.builtin .unsafeSliceData,#[x],#[t]⟩) (zz fr) h k=onS (zO9 (zz fr x)) (k · h):=by
 refine zAB rfl ?_;simp only[vop,zAT,zO9,List.map_cons,List.map_nil];cases zz fr x<;>try rfl
 rename_i a b c d;cases d<;>cases c<;>rfl
@[go_sem ↓] theorem zZm (t u:TypeId) (x y:Operand):qn P m nid (.call ⟨.builtin .unsafeString,#[x,y],#[t,u]⟩) (zz fr) h k=onR (qt P t (zz fr x) (zz fr y) h) k:=zFo rfl rfl
theorem zTI {b n:Nat} (h:n≠0):zO9 (.rs b 1 0 n)=some (.ptr b 0):=by
 cases n with
 |zero=>exact absurd rfl h
 |succ n=>rfl
end
theorem zVa {h0 h:Heap} {id:Nat} {bs:List UInt8} (hB:Bld h0 h id bs) (hl:bs.length≤1073741824):
  zA Tryz.prog 51 [.ptr id 0] h fun r h'=>Ext h0 h'∧r= .str bs:=by
 obtain⟨hid,hlt,hE,a,d,hrow,ha,hbuf⟩:=hB;rcases hbuf with⟨rfl,rfl⟩ | ⟨h1,b,rfl,h3,h4,h5,h6⟩
 ·have hus:qt Tryz.prog 185 .nilptr (.int .i64 0) h=some (.str [],h):=by
   simp only[qt,Tryz.underlying185,Tryz.underlying5,if_true]
  have hvl:zAd Tryz.prog 113 .nilsl h=some (.int .i64 0):=by
   simp only[zAd,Tryz.underlying113]
  have hsd:zO9 .nilsl=some .nilptr:=rfl;refine zA.of_fn (g:=zRf) mix Tryz.func51 zfa rfl rfl ?_;simp only[Tryz.f51,gJ]
  repeat' first|(simp only[go_sem,Nat.reduceEqDiff,Int.reduceBEq,Int.reduceLT,Int.reduceLE,Int.reduceGT,Int.reduceGE,↓reduceIte,Nat.reduceAdd,Nat.zero_add,Nat.reduceBEq,List.getElem?_cons_zero,List.getElem?_cons_succ,List.contains_cons,List.contains_nil,zC,zo,decide_true,decide_false,bne,Bool.or_false,Bool.or_true,Bool.false_or,Bool.true_or,Bool.or_self,Bool.false_and,Bool.true_and,Bool.and_false,Bool.and_true,Bool.and_self,Bool.not_true,Bool.not_false,Bool.not_not,zI,D.notTuple,D.cells,zeh, *])|(refine yO (fun hc=> ?_) (fun hc=> ?_))|(refine yf (fun hc=> ?_) (fun hc=> ?_))|(refine yE (fun hc=> ?_) (fun hc=> ?_))|(refine yF (fun hc=> ?_) (fun hc=> ?_))|(refine yP (fun hc=> ?_) (fun hc=> ?_))|(refine yQ (fun hc=> ?_) (fun hc=> ?_))
  refine zi (by kernel_rfl) ?_
  repeat' first|(simp only[go_sem,Nat.reduceEqDiff,Int.reduceBEq,Int.reduceLT,Int.reduceLE,Int.reduceGT,Int.reduceGE,↓reduceIte,Nat.reduceAdd,Nat.zero_add,Nat.reduceBEq,List.getElem?_cons_zero,List.getElem?_cons_succ,List.contains_cons,List.contains_nil,zC,zo,decide_true,decide_false,bne,Bool.or_false,Bool.or_true,Bool.false_or,Bool.true_or,Bool.or_self,Bool.false_and,Bool.true_and,Bool.and_false,Bool.and_true,Bool.and_self,Bool.not_true,Bool.not_false,Bool.not_not,zI,D.notTuple,D.cells,zeh,zAY,hsd,hus, *])|(refine yO (fun hc=> ?_) (fun hc=> ?_))|(refine yf (fun hc=> ?_) (fun hc=> ?_))|(refine yE (fun hc=> ?_) (fun hc=> ?_))|(refine yF (fun hc=> ?_) (fun hc=> ?_))|(refine yP (fun hc=> ?_) (fun hc=> ?_))|(refine yQ (fun hc=> ?_) (fun hc=> ?_))
 ·have hsl:bs.length≠0:=fun e=>h1 (List.length_eq_zero_iff.1 e);refine zA.of_fn (g:=zRf) mix Tryz.func51 zfa rfl rfl ?_;simp only[Tryz.f51,gJ]
  repeat' first|(simp only[go_sem,Nat.reduceEqDiff,Int.reduceBEq,Int.reduceLT,Int.reduceLE,Int.reduceGT,Int.reduceGE,↓reduceIte,Nat.reduceAdd,Nat.zero_add,Nat.reduceBEq,List.getElem?_cons_zero,List.getElem?_cons_succ,List.contains_cons,List.contains_nil,zC,zo,decide_true,decide_false,bne,Bool.or_false,Bool.or_true,Bool.false_or,Bool.true_or,Bool.or_self,Bool.false_and,Bool.true_and,Bool.and_false,Bool.and_true,Bool.and_self,Bool.not_true,Bool.not_false,Bool.not_not,zI,D.notTuple,D.cells,zeh, *])|(refine yO (fun hc=> ?_) (fun hc=> ?_))|(refine yf (fun hc=> ?_) (fun hc=> ?_))|(refine yE (fun hc=> ?_) (fun hc=> ?_))|(refine yF (fun hc=> ?_) (fun hc=> ?_))|(refine yP (fun hc=> ?_) (fun hc=> ?_))|(refine yQ (fun hc=> ?_) (fun hc=> ?_))
  refine zi (by kernel_rfl) ?_;have hus:qt Tryz.prog 185 (.ptr b 0) (.int .i64 bs.length) h=some (.str bs,h.del b):=by
   simp only[qt,Tryz.underlying185,Tryz.underlying5,zD5,h3,zIN,Int.toNat_natCast,List.length_map];rw[if_pos (by simp;unfold lim;omega),List.take_of_length_le (by simp),zNY]
  have hvl:zAd Tryz.prog 113 (.rs b 1 0 bs.length) h=some (.int .i64 bs.length):=by
   simp only[zAd,Tryz.underlying113]
  repeat' first|(simp only[go_sem,Nat.reduceEqDiff,Int.reduceBEq,Int.reduceLT,Int.reduceLE,Int.reduceGT,Int.reduceGE,↓reduceIte,Nat.reduceAdd,Nat.zero_add,Nat.reduceBEq,List.getElem?_cons_zero,List.getElem?_cons_succ,List.contains_cons,List.contains_nil,zC,zo,decide_true,decide_false,bne,Bool.or_false,Bool.or_true,Bool.false_or,Bool.true_or,Bool.or_self,Bool.false_and,Bool.true_and,Bool.and_false,Bool.and_true,Bool.and_self,Bool.not_true,Bool.not_false,Bool.not_not,zI,D.notTuple,D.cells,zeh,zAY,zTI hsl,hus, *])|(refine yO (fun hc=> ?_) (fun hc=> ?_))|(refine yf (fun hc=> ?_) (fun hc=> ?_))|(refine yE (fun hc=> ?_) (fun hc=> ?_))|(refine yF (fun hc=> ?_) (fun hc=> ?_))|(refine yP (fun hc=> ?_) (fun hc=> ?_))|(refine yQ (fun hc=> ?_) (fun hc=> ?_))
  exact hE.del h4
theorem zdq {n:Int} (h1:0≤n) (h2:n≤1048576) (hl:(Lib.itoa n).length≤1048576) (h:Heap):zA Tryz.prog 50 [.int .i64 n] h fun r h'=>h'=h∧r= .str (Lib.itoa n):=by
 have hx:∀s,s=zAG→∀ {w:World},Lib.TabIs Tryz.prog w zAG .u64 Lib.pow10Tab→Lib.TabIs Tryz.prog w s .u64 Lib.pow10Tab:=fun s hs w ht=>by rw[hs];exact ht
 exact(zP8 (by kernel_rfl) (g:=1) (by kernel_rfl) (fun n h1 h2 w ht=>Any.strconv_Itoa Tryz.laysM171 n h1 h2 w (hx _ (by kernel_rfl) ht)) (by omega) (by omega) (by unfold lim;omega) h).mono fun a b hab=>⟨hab.2,hab.1⟩
theorem zEe {α:Type} {l:List α} {i:Nat} (hi:i<l.length):l.take i++l[i]::l.drop (i+1)=l:=by
 rw[←List.drop_eq_getElem_cons hi,List.take_append_drop]
theorem zQA {l:List (List UInt8×List UInt8)} {i:Nat} (hi:i<l.length):qw (l.take (i+1))=qw (l.take i)++zXd l[i]:=by
 rw[qw,List.take_succ_eq_append_getElem hi,List.flatMap_append];simp only[qw,List.flatMap_cons,List.flatMap_nil,List.append_nil]
theorem zL3 {n:Note} {i:Nat} (hi:i<(n.ls.zip n.ts).length):∃R,zNV n=qw ((n.ls.zip n.ts).take i)++(zXd (n.ls.zip n.ts)[i]++R):=by
 unfold zNV;generalize n.ls.zip n.ts=l at *
 refine⟨qw (l.drop (i+1))++n.hs.map zAv++n.cs.map zJD,?_⟩;have h1:=congrArg qw (zEe hi);simp only[qw,List.flatMap_append,List.flatMap_cons] at h1⊢;rw[←h1];simp only[List.append_assoc]
theorem zVb {n:Note} {i:Nat} (hi:i<(n.ls.zip n.ts).length) {j:Nat} (hj:j<(yK (n.ls.zip n.ts)[i].2).length):qw ((n.ls.zip n.ts).take i)++zMf (n.ls.zip n.ts)[i]::(yK (n.ls.zip n.ts)[i].2).take j++ [(yK (n.ls.zip n.ts)[i].2)[j]] <+:zNV n:=by
 obtain⟨R,hR⟩:=zL3 hi;rw[hR,zXd];generalize(n.ls.zip n.ts)[i]=p at *
 refine⟨(yK p.2).drop (j+1)++R,?_⟩;have h1:=zEe hj
 conv=>rhs;rw[←h1]
 simp only[List.append_assoc,List.cons_append,List.nil_append]
theorem zVc {n:Note} {i:Nat} (hi:i<(n.ls.zip n.ts).length):qw ((n.ls.zip n.ts).take i)++ [zMf (n.ls.zip n.ts)[i]] <+:zNV n:=by
 obtain⟨R,hR⟩:=zL3 hi;refine⟨yK (n.ls.zip n.ts)[i].2++R,?_⟩;rw[hR,zXd];simp only[List.append_assoc,List.cons_append,List.nil_append]
theorem zQB {n:Note} {i:Nat} (hi:i<n.hs.length):qw (n.ls.zip n.ts)++(n.hs.take i).map zAv++ [zAv n.hs[i]] <+:zNV n:=by
 refine⟨(n.hs.drop (i+1)).map zAv++n.cs.map zJD,?_⟩;have h1:=congrArg (List.map zAv) (zEe hi);rw[List.map_append,List.map_cons] at h1;unfold zNV;rw[←h1];simp only[List.append_assoc,List.cons_append,List.nil_append]
theorem zTJ {n:Note} {i:Nat} (hi:i<n.cs.length):qw (n.ls.zip n.ts)++n.hs.map zAv++(n.cs.take i).map zJD++ [zJD n.cs[i]] <+:zNV n:=by
 refine⟨(n.cs.drop (i+1)).map zJD,?_⟩;have h1:=congrArg (List.map zJD) (zEe hi);rw[List.map_append,List.map_cons] at h1;unfold zNV;rw[←h1];simp only[List.append_assoc,List.cons_append,List.nil_append]
theorem zZn (h:Heap):Bld h (h.new h.next (.trow 115 true [.nilptr, .nilsl])) h.next (nl []):=
 ⟨Nat.le_refl _,by rw[zK];omega,(Ext.refl h).new (Nat.le_refl _) _, .nilptr, .nilsl,zQ _ _ _, .inl rfl, .inl ⟨rfl,rfl⟩⟩
set_option maxHeartbeats 4000000 in
theorem zVd {n:Note} {d:D} (hd:zBw n d) (hs:n.Sm) (g:Heap):
  zA Tryz.prog 23 [d] g fun r h'=>h'=g∧r= .tuple [.str (zQj n).1, .int .i64 (zQj n).2]:=by
 refine zA.pure (by kernel_rfl) fun hok=> ?_;have hcheck:=zHa hd hs;obtain⟨a,b,c,e,rfl,ha,hb,hc0,he⟩:=hd;have la:=yA ha;have lb:=yA hb;have lc:=yA hc0;have le:=yA he;have hvp:ze true 4 [a,b,c,e] 0=some (.agg [a,b,c,e]):=zB rfl (by omega);have hbel:∀ (s:List UInt8) (k:Int),below g.next (.tuple [.str s, .int .i64 k]):=fun s k=>by simp[below,yB]
 have hE0:Ext g g:=Ext.refl g;refine zA.of_fn (g:=zUu) mix Tryz.func23 zia rfl rfl ?_;simp only[Tryz.f23,gJ];by_cases h0:zw n=0
 case neg=>
  have e0:(zw n==0)=false:=by simpa using h0
  have eF:zQj n=([],zw n):=if_pos h0;clear h0
  repeat' first|(simp only[go_sem,Nat.reduceEqDiff,Int.reduceBEq,Int.reduceLT,Int.reduceLE,Int.reduceGT,Int.reduceGE,↓reduceIte,Nat.reduceAdd,Nat.zero_add,Nat.reduceBEq,List.getElem?_cons_zero,List.getElem?_cons_succ,List.contains_cons,List.contains_nil,zC,zo,decide_true,decide_false,bne,Bool.or_false,Bool.or_true,Bool.false_or,Bool.true_or,Bool.or_self,Bool.false_and,Bool.true_and,Bool.and_false,Bool.and_true,Bool.and_self,Bool.not_true,Bool.not_false,Bool.not_not,zI,D.notTuple,D.cells,zKI,hbel, *])|(refine yO (fun hc=> ?_) (fun hc=> ?_))|(refine yf (fun hc=> ?_) (fun hc=> ?_))|(refine yE (fun hc=> ?_) (fun hc=> ?_))|(refine yF (fun hc=> ?_) (fun hc=> ?_))|(refine yP (fun hc=> ?_) (fun hc=> ?_))|(refine yQ (fun hc=> ?_) (fun hc=> ?_))|(refine zA.mono (hcheck _) ?_;rintro r h ⟨rfl,rfl⟩)
 have e0:(zw n==0)=true:=by simpa using h0
 have eF:zQj n=(nl (zNV n),0):=if_neg (by simp[h0]);rw[eF];have hchk:=zAU h0;have hlic:=zEd h0;have hout:=zTD h0;have hlz:(n.ls.zip n.ts).length=n.ls.length:=by rw[List.length_zip];omega
 have hB0:=zZn g;have eL0:nl (qw ((n.ls.zip n.ts).take 0))=nl []:=rfl;have hob:=zSr;clear eF
 repeat' first|(simp only[go_sem,Nat.reduceEqDiff,Int.reduceBEq,Int.reduceLT,Int.reduceLE,Int.reduceGT,Int.reduceGE,↓reduceIte,Nat.reduceAdd,Nat.zero_add,Nat.reduceBEq,List.getElem?_cons_zero,List.getElem?_cons_succ,List.contains_cons,List.contains_nil,zC,zo,decide_true,decide_false,bne,Bool.or_false,Bool.or_true,Bool.false_or,Bool.true_or,Bool.or_self,Bool.false_and,Bool.true_and,Bool.and_false,Bool.and_true,Bool.and_self,Bool.not_true,Bool.not_false,Bool.not_not,zI,D.notTuple,D.cells,zKI,hbel, *])|(refine yO (fun hc=> ?_) (fun hc=> ?_))|(refine yf (fun hc=> ?_) (fun hc=> ?_))|(refine yE (fun hc=> ?_) (fun hc=> ?_))|(refine yF (fun hc=> ?_) (fun hc=> ?_))|(refine yP (fun hc=> ?_) (fun hc=> ?_))|(refine yQ (fun hc=> ?_) (fun hc=> ?_))|(refine zA.mono (hcheck _) ?_;rintro r h ⟨rfl,rfl⟩)
 rename Heap=>g
 clear hcheck hok hob hvp eL0 e0 h0;obtain⟨H,hH⟩:∃H,g.new g.next (.trow 115 true [.nilptr, .nilsl])=H:=⟨_,rfl⟩;rw[hH] at hB0⊢;clear hH;refine zD (fun i fr h'=>fr 1= .iptr [a,b,c,e] 0∧fr 5= .ptr g.next 0∧fr 21=a∧fr 22= .int .i64 (n.ls.length:Int)∧fr 23= .int .i64 (i:Int)∧Bld g h' g.next (nl (qw ((n.ls.zip n.ts).take i)))) n.ls.length (by omega) ?_ ?_ ?_
 ·simp only[go_sem,Nat.reduceEqDiff,Int.reduceBEq,Int.reduceLT,Int.reduceLE,Int.reduceGT,Int.reduceGE,↓reduceIte,Nat.reduceAdd,Nat.zero_add,Nat.reduceBEq,List.getElem?_cons_zero,List.getElem?_cons_succ,List.contains_cons,List.contains_nil,zC,zo,decide_true,decide_false,bne,Bool.or_false,Bool.or_true,Bool.false_or,Bool.true_or,Bool.or_self,Bool.false_and,Bool.true_and,Bool.and_false,Bool.and_true,Bool.and_self,Bool.not_true,Bool.not_false,Bool.not_not,zI,D.notTuple,D.cells,zKI,true_and,and_true,Int.ofNat_zero];exact hB0
 ·clear hB0;rintro i fr k hlt e2 ew ⟨f1,f5,f21,f22,f23,hB⟩;have hltz:i<(n.ls.zip n.ts).length:=by omega
  have hltT:i<n.ts.length:=by omega
  have hat1:=yz ha hlt;have hat2:=yz hb hltT;have s2:=hs.ts.2 _ (List.getElem_mem hltT);have gz:(n.ls.zip n.ts)[i]=(n.ls[i],n.ts[i]):=List.getElem_zip;have hq:=hlic _ (List.getElem_mem hltz);have hroom:=zKU (zVc hltz);have hpart:=fun j=>zVb (j:=j) hltz;have hsucc:=zQA hltz;rw[gz] at hq hroom hpart hsucc;have hq2:=zKV hq.2;have hq3:=zO8 hq.1;simp only at hq2 hq3 hpart;have hit:=zFw (k:=(yK n.ts[i]).length) (by have:=hq2.2.1;omega);have hws:=ze4 hB (s:=zMf (n.ls[i],n.ts[i])++ [10]) (by omega);have hitoa:=fun h=>zdq (n:=((yK n.ts[i]).length:Int)) (by omega) (by have:=hq2.2.1;omega) (by omega) h
  have a1:zF3 .add zKT n.ls[i]=some (.str (zKT++n.ls[i])):=zAu (by simp only[zKT,List.length_cons,List.length_nil];omega);have a2:zF3 .add (zKT++n.ls[i]) [32]=some (.str (zKT++n.ls[i]++ [32])):=zAu (by simp only[zKT,List.length_append,List.length_cons,List.length_nil];omega);have a3:zF3 .add (zKT++n.ls[i]++ [32]) (Lib.itoa ((yK n.ts[i]).length:Int))=some (.str (zMf (n.ls[i],n.ts[i]))):=zAu (by simp only[zKT,List.length_append,List.length_cons,List.length_nil];omega)
  have a4:zF3 .add (zMf (n.ls[i],n.ts[i])) [10]=some (.str (zMf (n.ls[i],n.ts[i])++ [10])):=zAu (by simp only[List.length_append,List.length_cons,List.length_nil] at hroom⊢;omega);have a1:zF3 .add [108,105,99,101,110,115,101,32] n.ls[i]=some (.str (zKT++n.ls[i])):=a1;clear gz hlic hq hB hltz hlz
  repeat' first|(simp only[go_sem,Nat.reduceEqDiff,Int.reduceBEq,Int.reduceLT,Int.reduceLE,Int.reduceGT,Int.reduceGE,↓reduceIte,Nat.reduceAdd,Nat.zero_add,Nat.reduceBEq,List.getElem?_cons_zero,List.getElem?_cons_succ,List.contains_cons,List.contains_nil,zC,zo,decide_true,decide_false,bne,Bool.or_false,Bool.or_true,Bool.false_or,Bool.true_or,Bool.or_self,Bool.false_and,Bool.true_and,Bool.and_false,Bool.and_true,Bool.and_self,Bool.not_true,Bool.not_false,Bool.not_not,zI,D.notTuple,D.cells,zKI,yA hr.isSl, *])|(simp only[go_sem,Nat.reduceEqDiff,Int.reduceBEq,Int.reduceLT,Int.reduceLE,Int.reduceGT,Int.reduceGE,↓reduceIte,Nat.reduceAdd,Nat.zero_add,Nat.reduceBEq,List.getElem?_cons_zero,List.getElem?_cons_succ,List.contains_cons,List.contains_nil,zC,zo,decide_true,decide_false,bne,Bool.or_false,Bool.or_true,Bool.false_or,Bool.true_or,Bool.or_self,Bool.false_and,Bool.true_and,Bool.and_false,Bool.and_true,Bool.and_self,Bool.not_true,Bool.not_false,Bool.not_not,zI,D.notTuple,D.cells,zKI, *])|(refine yO (fun hc=> ?_) (fun hc=> ?_))|(refine yf (fun hc=> ?_) (fun hc=> ?_))|(refine yE (fun hc=> ?_) (fun hc=> ?_))|(refine yF (fun hc=> ?_) (fun hc=> ?_))|(refine yP (fun hc=> ?_) (fun hc=> ?_))|(refine yQ (fun hc=> ?_) (fun hc=> ?_))|(refine zA.mono (zS4 s2 _) ?_;rintro r h ⟨rfl,hr⟩)|(refine zA.mono (hitoa _) ?_;rintro r h ⟨rfl,rfl⟩)
  refine hws.mono ?_;rintro x k hB;rw[←zHc] at hB
  rename D=>y
  rename Fin 1 (zt (yK n.ts[i])) r=>hr
  clear hws hitoa a1 a2 a3 a4 hit hq3 hroom;have lr:=yA hr.isSl;refine zD (fun j fr k=>fr 1= .iptr [a,b,c,e] 0∧fr 5= .ptr g.next 0∧fr 21=a∧fr 22= .int .i64 (n.ls.length:Int)∧fr 23= .int .i64 (i:Int)∧fr 43=r∧fr 44= .int .i64 ((yK n.ts[i]).length:Int)∧fr 45= .int .i64 (j:Int)∧Bld g k g.next (nl (qw ((n.ls.zip n.ts).take i)++zMf (n.ls[i],n.ts[i])::(yK n.ts[i]).take j))) (yK n.ts[i]).length (by omega) ?_ ?_ ?_
  ·simp only[go_sem,Nat.reduceEqDiff,Int.reduceBEq,Int.reduceLT,Int.reduceLE,Int.reduceGT,Int.reduceGE,↓reduceIte,Nat.reduceAdd,Nat.zero_add,Nat.reduceBEq,List.getElem?_cons_zero,List.getElem?_cons_succ,List.contains_cons,List.contains_nil,zC,zo,decide_true,decide_false,bne,Bool.or_false,Bool.or_true,Bool.false_or,Bool.true_or,Bool.or_self,Bool.false_and,Bool.true_and,Bool.and_false,Bool.and_true,Bool.and_self,Bool.not_true,Bool.not_false,Bool.not_not,zI,D.notTuple,D.cells,zKI,true_and,and_true,Int.ofNat_zero];exact⟨f1,f5,f21,f22,f23,hB⟩
  ·clear hB hsucc e2 ew f1 f5 f21 f22 f23 hat1 hat2;rintro j fr k hlj e2 ew ⟨f1,f5,f21,f22,f23,f43,f44,f45,hB⟩;have hat1:=yz hr.isSl hlj;have hroom:=zKU (hpart j hlj);have hr2:=hroom;rw[List.length_append] at hr2;have hsj:qw ((n.ls.zip n.ts).take i)++zMf (n.ls[i],n.ts[i])::(yK n.ts[i]).take (j+1)=qw ((n.ls.zip n.ts).take i)++zMf (n.ls[i],n.ts[i])::(yK n.ts[i]).take j++ [(yK n.ts[i])[j]]:=by
    rw[List.take_succ_eq_append_getElem hlj];simp only[List.append_assoc,List.cons_append]
   have a4:zF3 .add (yK n.ts[i])[j] [10]=some (.str ((yK n.ts[i])[j]++ [10])):=zAu (by omega);have hws:=ze4 hB (s:=(yK n.ts[i])[j]++ [10]) (by omega);clear hB hpart
   repeat' first|(simp only[go_sem,Nat.reduceEqDiff,Int.reduceBEq,Int.reduceLT,Int.reduceLE,Int.reduceGT,Int.reduceGE,↓reduceIte,Nat.reduceAdd,Nat.zero_add,Nat.reduceBEq,List.getElem?_cons_zero,List.getElem?_cons_succ,List.contains_cons,List.contains_nil,zC,zo,decide_true,decide_false,bne,Bool.or_false,Bool.or_true,Bool.false_or,Bool.true_or,Bool.or_self,Bool.false_and,Bool.true_and,Bool.and_false,Bool.and_true,Bool.and_self,Bool.not_true,Bool.not_false,Bool.not_not,zI,D.notTuple,D.cells,zKI, *])|(refine yO (fun hc=> ?_) (fun hc=> ?_))|(refine yf (fun hc=> ?_) (fun hc=> ?_))|(refine yE (fun hc=> ?_) (fun hc=> ?_))|(refine yF (fun hc=> ?_) (fun hc=> ?_))|(refine yP (fun hc=> ?_) (fun hc=> ?_))|(refine yQ (fun hc=> ?_) (fun hc=> ?_))
   refine hws.mono ?_;rintro x k hB;rw[←zHc] at hB
   repeat' first|(simp only[go_sem,Nat.reduceEqDiff,Int.reduceBEq,Int.reduceLT,Int.reduceLE,Int.reduceGT,Int.reduceGE,↓reduceIte,Nat.reduceAdd,Nat.zero_add,Nat.reduceBEq,List.getElem?_cons_zero,List.getElem?_cons_succ,List.contains_cons,List.contains_nil,zC,zo,decide_true,decide_false,bne,Bool.or_false,Bool.or_true,Bool.false_or,Bool.true_or,Bool.or_self,Bool.false_and,Bool.true_and,Bool.and_false,Bool.and_true,Bool.and_self,Bool.not_true,Bool.not_false,Bool.not_not,zI,D.notTuple,D.cells,zKI, *])|(refine yO (fun hc=> ?_) (fun hc=> ?_))|(refine yf (fun hc=> ?_) (fun hc=> ?_))|(refine yE (fun hc=> ?_) (fun hc=> ?_))|(refine yF (fun hc=> ?_) (fun hc=> ?_))|(refine yP (fun hc=> ?_) (fun hc=> ?_))|(refine yQ (fun hc=> ?_) (fun hc=> ?_))
  ·clear hB hpart e2 f1 f5 f21 f22 f23 hat1 hat2;rintro fr k e2 ⟨f1,f5,f21,f22,f23,f43,f44,f45,hB⟩;rw[List.take_length] at hB;have hB2:Bld g k g.next (nl (qw ((n.ls.zip n.ts).take i)++zXd (n.ls[i],n.ts[i]))):=hB;clear hB f43
   repeat' first|(simp only[go_sem,Nat.reduceEqDiff,Int.reduceBEq,Int.reduceLT,Int.reduceLE,Int.reduceGT,Int.reduceGE,↓reduceIte,Nat.reduceAdd,Nat.zero_add,Nat.reduceBEq,List.getElem?_cons_zero,List.getElem?_cons_succ,List.contains_cons,List.contains_nil,zC,zo,decide_true,decide_false,bne,Bool.or_false,Bool.or_true,Bool.false_or,Bool.true_or,Bool.or_self,Bool.false_and,Bool.true_and,Bool.and_false,Bool.and_true,Bool.and_self,Bool.not_true,Bool.not_false,Bool.not_not,zI,D.notTuple,D.cells,zKI, *])|(refine yO (fun hc=> ?_) (fun hc=> ?_))|(refine yf (fun hc=> ?_) (fun hc=> ?_))|(refine yE (fun hc=> ?_) (fun hc=> ?_))|(refine yF (fun hc=> ?_) (fun hc=> ?_))|(refine yP (fun hc=> ?_) (fun hc=> ?_))|(refine yQ (fun hc=> ?_) (fun hc=> ?_))
 ·rintro fr k e2 ⟨f1,f5,f21,f22,f23,hB⟩;have hB:Bld g k g.next (nl (qw (n.ls.zip n.ts)++(n.hs.take 0).map zAv)):=by
   rw[←hlz,List.take_length] at hB;simpa using hB
  clear hB0 hlz hlic;simp only[go_sem,Nat.reduceEqDiff,Int.reduceBEq,Int.reduceLT,Int.reduceLE,Int.reduceGT,Int.reduceGE,↓reduceIte,Nat.reduceAdd,Nat.zero_add,Nat.reduceBEq,List.getElem?_cons_zero,List.getElem?_cons_succ,List.contains_cons,List.contains_nil,zC,zo,decide_true,decide_false,bne,Bool.or_false,Bool.or_true,Bool.false_or,Bool.true_or,Bool.or_self,Bool.false_and,Bool.true_and,Bool.and_false,Bool.and_true,Bool.and_self,Bool.not_true,Bool.not_false,Bool.not_not,zI,D.notTuple,D.cells,zKI,f1,f5,f21,f22,f23,e2,lc]
  refine zD (fun i fr h'=>fr 1= .iptr [a,b,c,e] 0∧fr 5= .ptr g.next 0∧fr 55=c∧fr 56= .int .i64 (n.hs.length:Int)∧fr 57= .int .i64 (i:Int)∧Bld g h' g.next (nl (qw (n.ls.zip n.ts)++(n.hs.take i).map zAv))) n.hs.length (by omega) ?_ ?_ ?_
  ·simp only[go_sem,Nat.reduceEqDiff,Int.reduceBEq,Int.reduceLT,Int.reduceLE,Int.reduceGT,Int.reduceGE,↓reduceIte,Nat.reduceAdd,Nat.zero_add,Nat.reduceBEq,List.getElem?_cons_zero,List.getElem?_cons_succ,List.contains_cons,List.contains_nil,zC,zo,decide_true,decide_false,bne,Bool.or_false,Bool.or_true,Bool.false_or,Bool.true_or,Bool.or_self,Bool.false_and,Bool.true_and,Bool.and_false,Bool.and_true,Bool.and_self,Bool.not_true,Bool.not_false,Bool.not_not,zI,D.notTuple,D.cells,zKI,true_and,and_true,Int.ofNat_zero];exact⟨f1,f5,hB⟩
  ·clear hB e2 f1 f5 f21 f22 f23;rintro i fr k hlt e2 ew ⟨f1,f5,f55,f56,f57,hB⟩;have hat1:=yz hc0 hlt;have hroom:=zKU (zQB hlt);have hr2:=hroom;rw[List.length_append,zAv,List.length_append,List.length_append] at hr2;simp only[zZg,List.length_cons,List.length_nil] at hr2;have hsj:qw (n.ls.zip n.ts)++(n.hs.take (i+1)).map zAv=qw (n.ls.zip n.ts)++(n.hs.take i).map zAv++ [zAv n.hs[i]]:=by
    rw[List.take_succ_eq_append_getElem hlt,List.map_append,List.append_assoc];rfl
   have a1:zF3 .add [104,111,108,100,101,114,32] n.hs[i]=some (.str (zAv n.hs[i])):=zAu (by simp only[List.length_cons,List.length_nil];omega);have a4:zF3 .add (zAv n.hs[i]) [10]=some (.str (zAv n.hs[i]++ [10])):=zAu (by rw[List.length_append] at hroom;omega);have hws:=ze4 hB (s:=zAv n.hs[i]++ [10]) (by omega);clear hB
   repeat' first|(simp only[go_sem,Nat.reduceEqDiff,Int.reduceBEq,Int.reduceLT,Int.reduceLE,Int.reduceGT,Int.reduceGE,↓reduceIte,Nat.reduceAdd,Nat.zero_add,Nat.reduceBEq,List.getElem?_cons_zero,List.getElem?_cons_succ,List.contains_cons,List.contains_nil,zC,zo,decide_true,decide_false,bne,Bool.or_false,Bool.or_true,Bool.false_or,Bool.true_or,Bool.or_self,Bool.false_and,Bool.true_and,Bool.and_false,Bool.and_true,Bool.and_self,Bool.not_true,Bool.not_false,Bool.not_not,zI,D.notTuple,D.cells,zKI, *])|(refine yO (fun hc=> ?_) (fun hc=> ?_))|(refine yf (fun hc=> ?_) (fun hc=> ?_))|(refine yE (fun hc=> ?_) (fun hc=> ?_))|(refine yF (fun hc=> ?_) (fun hc=> ?_))|(refine yP (fun hc=> ?_) (fun hc=> ?_))|(refine yQ (fun hc=> ?_) (fun hc=> ?_))
   refine hws.mono ?_;rintro x k hB;rw[←zHc] at hB
   repeat' first|(simp only[go_sem,Nat.reduceEqDiff,Int.reduceBEq,Int.reduceLT,Int.reduceLE,Int.reduceGT,Int.reduceGE,↓reduceIte,Nat.reduceAdd,Nat.zero_add,Nat.reduceBEq,List.getElem?_cons_zero,List.getElem?_cons_succ,List.contains_cons,List.contains_nil,zC,zo,decide_true,decide_false,bne,Bool.or_false,Bool.or_true,Bool.false_or,Bool.true_or,Bool.or_self,Bool.false_and,Bool.true_and,Bool.and_false,Bool.and_true,Bool.and_self,Bool.not_true,Bool.not_false,Bool.not_not,zI,D.notTuple,D.cells,zKI, *])|(refine yO (fun hc=> ?_) (fun hc=> ?_))|(refine yf (fun hc=> ?_) (fun hc=> ?_))|(refine yE (fun hc=> ?_) (fun hc=> ?_))|(refine yF (fun hc=> ?_) (fun hc=> ?_))|(refine yP (fun hc=> ?_) (fun hc=> ?_))|(refine yQ (fun hc=> ?_) (fun hc=> ?_))
  clear hB e2 f1 f5 f21 f22 f23;rintro fr k e2 ⟨f1,f5,f55,f56,f57,hB⟩;have hB:Bld g k g.next (nl (qw (n.ls.zip n.ts)++n.hs.map zAv++(n.cs.take 0).map zJD)):=by
   rw[List.take_length] at hB;simpa using hB
  simp only[go_sem,Nat.reduceEqDiff,Int.reduceBEq,Int.reduceLT,Int.reduceLE,Int.reduceGT,Int.reduceGE,↓reduceIte,Nat.reduceAdd,Nat.zero_add,Nat.reduceBEq,List.getElem?_cons_zero,List.getElem?_cons_succ,List.contains_cons,List.contains_nil,zC,zo,decide_true,decide_false,bne,Bool.or_false,Bool.or_true,Bool.false_or,Bool.true_or,Bool.or_self,Bool.false_and,Bool.true_and,Bool.and_false,Bool.and_true,Bool.and_self,Bool.not_true,Bool.not_false,Bool.not_not,zI,D.notTuple,D.cells,zKI,f1,f5,f55,f56,f57,e2,le]
  refine zD (fun i fr h'=>fr 5= .ptr g.next 0∧fr 67=e∧fr 68= .int .i64 (n.cs.length:Int)∧fr 69= .int .i64 (i:Int)∧Bld g h' g.next (nl (qw (n.ls.zip n.ts)++n.hs.map zAv++(n.cs.take i).map zJD))) n.cs.length (by omega) ?_ ?_ ?_
  ·simp only[go_sem,Nat.reduceEqDiff,Int.reduceBEq,Int.reduceLT,Int.reduceLE,Int.reduceGT,Int.reduceGE,↓reduceIte,Nat.reduceAdd,Nat.zero_add,Nat.reduceBEq,List.getElem?_cons_zero,List.getElem?_cons_succ,List.contains_cons,List.contains_nil,zC,zo,decide_true,decide_false,bne,Bool.or_false,Bool.or_true,Bool.false_or,Bool.true_or,Bool.or_self,Bool.false_and,Bool.true_and,Bool.and_false,Bool.and_true,Bool.and_self,Bool.not_true,Bool.not_false,Bool.not_not,zI,D.notTuple,D.cells,zKI,true_and,and_true,Int.ofNat_zero];exact⟨f5,hB⟩
  ·clear hB e2 f1 f5 f55 f56 f57;rintro i fr k hlt e2 ew ⟨f5,f67,f68,f69,hB⟩;have hat1:=yz he hlt;have hroom:=zKU (zTJ hlt);have hr2:=hroom;rw[List.length_append,zJD,List.length_append,List.length_append] at hr2;simp only[zhJ,List.length_cons,List.length_nil] at hr2;have hsj:qw (n.ls.zip n.ts)++n.hs.map zAv++(n.cs.take (i+1)).map zJD=qw (n.ls.zip n.ts)++n.hs.map zAv++(n.cs.take i).map zJD++ [zJD n.cs[i]]:=by
    rw[List.take_succ_eq_append_getElem hlt,List.map_append,←List.append_assoc];rfl
   have a1:zF3 .add [99,104,97,110,103,101,32] n.cs[i]=some (.str (zJD n.cs[i])):=zAu (by simp only[List.length_cons,List.length_nil];omega);have a4:zF3 .add (zJD n.cs[i]) [10]=some (.str (zJD n.cs[i]++ [10])):=zAu (by rw[List.length_append] at hroom;omega);have hws:=ze4 hB (s:=zJD n.cs[i]++ [10]) (by omega);clear hB
   repeat' first|(simp only[go_sem,Nat.reduceEqDiff,Int.reduceBEq,Int.reduceLT,Int.reduceLE,Int.reduceGT,Int.reduceGE,↓reduceIte,Nat.reduceAdd,Nat.zero_add,Nat.reduceBEq,List.getElem?_cons_zero,List.getElem?_cons_succ,List.contains_cons,List.contains_nil,zC,zo,decide_true,decide_false,bne,Bool.or_false,Bool.or_true,Bool.false_or,Bool.true_or,Bool.or_self,Bool.false_and,Bool.true_and,Bool.and_false,Bool.and_true,Bool.and_self,Bool.not_true,Bool.not_false,Bool.not_not,zI,D.notTuple,D.cells,zKI, *])|(refine yO (fun hc=> ?_) (fun hc=> ?_))|(refine yf (fun hc=> ?_) (fun hc=> ?_))|(refine yE (fun hc=> ?_) (fun hc=> ?_))|(refine yF (fun hc=> ?_) (fun hc=> ?_))|(refine yP (fun hc=> ?_) (fun hc=> ?_))|(refine yQ (fun hc=> ?_) (fun hc=> ?_))
   refine hws.mono ?_;rintro x k hB;rw[←zHc] at hB
   repeat' first|(simp only[go_sem,Nat.reduceEqDiff,Int.reduceBEq,Int.reduceLT,Int.reduceLE,Int.reduceGT,Int.reduceGE,↓reduceIte,Nat.reduceAdd,Nat.zero_add,Nat.reduceBEq,List.getElem?_cons_zero,List.getElem?_cons_succ,List.contains_cons,List.contains_nil,zC,zo,decide_true,decide_false,bne,Bool.or_false,Bool.or_true,Bool.false_or,Bool.true_or,Bool.or_self,Bool.false_and,Bool.true_and,Bool.and_false,Bool.and_true,Bool.and_self,Bool.not_true,Bool.not_false,Bool.not_not,zI,D.notTuple,D.cells,zKI, *])|(refine yO (fun hc=> ?_) (fun hc=> ?_))|(refine yf (fun hc=> ?_) (fun hc=> ?_))|(refine yE (fun hc=> ?_) (fun hc=> ?_))|(refine yF (fun hc=> ?_) (fun hc=> ?_))|(refine yP (fun hc=> ?_) (fun hc=> ?_))|(refine yQ (fun hc=> ?_) (fun hc=> ?_))
  clear hB e2 f1 f5 f55 f56 f57;rintro fr k e2 ⟨f5,f67,f68,f69,hB⟩;have hB:Bld g k g.next (nl (zNV n)):=by
   rw[List.take_length] at hB;exact hB
  have hst:=zVa hB (by omega);simp only[go_sem,Nat.reduceEqDiff,Int.reduceBEq,Int.reduceLT,Int.reduceLE,Int.reduceGT,Int.reduceGE,↓reduceIte,Nat.reduceAdd,Nat.zero_add,Nat.reduceBEq,List.getElem?_cons_zero,List.getElem?_cons_succ,List.contains_cons,List.contains_nil,zC,zo,decide_true,decide_false,bne,Bool.or_false,Bool.or_true,Bool.false_or,Bool.true_or,Bool.or_self,Bool.false_and,Bool.true_and,Bool.and_false,Bool.and_true,Bool.and_self,Bool.not_true,Bool.not_false,Bool.not_not,zI,D.notTuple,D.cells,zKI,f5,f67,f68,f69,e2];refine hst.mono ?_;rintro r k ⟨hE,rfl⟩
  simp only[go_sem,Nat.reduceEqDiff,Int.reduceBEq,Int.reduceLT,Int.reduceLE,Int.reduceGT,Int.reduceGE,↓reduceIte,Nat.reduceAdd,Nat.zero_add,Nat.reduceBEq,List.getElem?_cons_zero,List.getElem?_cons_succ,List.contains_cons,List.contains_nil,zC,zo,decide_true,decide_false,bne,Bool.or_false,Bool.or_true,Bool.false_or,Bool.true_or,Bool.or_self,Bool.false_and,Bool.true_and,Bool.and_false,Bool.and_true,Bool.and_self,Bool.not_true,Bool.not_false,Bool.not_not,zI,D.notTuple,D.cells,zKI,hbel];exact hE
end Go.V
