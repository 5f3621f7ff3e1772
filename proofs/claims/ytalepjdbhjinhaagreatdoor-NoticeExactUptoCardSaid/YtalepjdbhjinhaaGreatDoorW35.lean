/- Rules of the machine of abstract values, part 9. No condition. -/
import Derived.Test.YtalepjdbhjinhaaGreatDoorW33
import Derived.Test.YtalepjdbhjinhaaGreatDoorW34
import Derived.Test.YtalepjdbhjinhaaGreatDoorW32
import Derived.Shelf.SlSortCmp.Whole1
import Derived.Test.YtalepjdbhjinhaaGreatDoorW23
import Derived.Test.YtalepjdbhjinhaaGreatDoorW30
set_option linter.all false
namespace Go.V
def zLJ (h0 h:Heap) (sz:Nat) (xs:List (List D)) (d:D):Prop:=Ext h0 h∧((d= .nilsl∧xs= [])∨∃id,d= .rs id sz 0 xs.length∧h.at' id=some (.row xs.flatten)∧h0.next≤id∧id<h.next∧xs≠[])
section
variable {h0 h h':Heap} {sz:Nat} {xs:List (List D)} {d:D}
theorem zLJ.start (he:Ext h0 h) (sz:Nat):zLJ h0 h sz [] .nilsl:=⟨he, .inl ⟨rfl,rfl⟩⟩
theorem zLJ.ext (ho:zLJ h0 h sz xs d) (he:Ext h h'):zLJ h0 h' sz xs d:=by
 refine⟨ho.1.trans he,?_⟩;rcases ho.2 with h1| ⟨id,rfl,h1,h2,h3,h4⟩
 ·exact .inl h1
 ·exact .inr ⟨id,rfl,by rw[he.2 _ h3];exact h1,h2,Nat.lt_of_lt_of_le h3 he.1,h4⟩
theorem zLJ.trunc (ho:zLJ h0 h sz xs d) (hxs:∀y∈xs,y.length=sz) (x:D):qd d x h=h:=by
 rcases ho.2 with⟨rfl,_⟩ | ⟨id,rfl,h1,_⟩
 ·rfl
 ·unfold qd;simp only;split
  ·rfl
  ·rw[h1];simp only;rw[if_neg (by rw[yw hxs];simp)]
theorem zRn {P:Program} {e x:TypeId} {cs:List D} (hu:P.underlying e=some (.slice x)):zAY P e cs= .row cs:=by simp[zAY,hu]
theorem zLJ.app {P:Program} {ys:List (List D)} {tk:Tk} {t e:TypeId} (ho:zLJ h0 h sz xs d) (he:ye P t=some e) (hz:zFm P e=true) (hs:szT P e=sz) (hp:0<sz) (hr:∀cs,zAY P e cs= .row cs) (hxs:∀y∈xs,y.length=sz) (hys:∀y∈ys,y.length=sz) (hy0:ys≠[])
  (hb:(xs.length+ys.length)*yL P e≤lim) (hl:xs.length+ys.length≤lim):∃d' G,ze P true h.next t d (.sl sz ys tk) h=some (d',G)∧zLJ h0 G sz (xs++ys) d'∧qd d (.sl sz ys tk) h=h:=by
 have htr:=ho.trunc hxs (.sl sz ys tk)
 suffices∃d' G,ze P true h.next t d (.sl sz ys tk) h=some (d',G)∧zLJ h0 G sz (xs++ys) d' from by
  obtain⟨d',G,q1,q2⟩:=this;exact⟨d',G,q1,q2,htr⟩
 clear htr;have hfl:ys.flatten.length=ys.length*sz:=yw hys;have hlen:0<ys.length:=List.length_pos_iff.2 hy0;obtain⟨hx,hc⟩:=ho;simp only[ze,he,hz,hs,zOz,if_true,hfl,Nat.mul_div_cancel _ hp];have hx2:∀o,Ext h0 (h.new h.next o):=fun o=>hx.new hx.1 o;rcases hc with⟨rfl,rfl⟩ | ⟨id,rfl,h1,h2,h3,h4⟩
 ·refine⟨.rs h.next sz 0 ys.length,h.new h.next (.row ys.flatten),?_,hx2 _, .inr ⟨h.next,by simp,by rw[zM];rfl,hx.1,by rw[zO];omega,by simpa using hy0⟩⟩;simp only[qC];rw[if_neg (by omega),if_pos (by simp only[Bool.and_eq_true,decide_eq_true_eq];simp only[List.length_nil,Nat.zero_add] at hb hl;exact⟨hb,hl⟩)];simp[hr]
 ·have hf2:xs.flatten.length=xs.length*sz:=yw hxs;have hE:Ext h0 ((h.del id).new h.next (.row (xs.flatten++ys.flatten))):=by
   refine⟨Nat.le_trans hx.1 (by show h.next≤max h.next _;omega),fun i hi=> ?_⟩;rw[zK (by have:=hx.1;omega),qE (by omega)];exact hx.2 i hi
  refine⟨.rs h.next sz 0 (xs.length+ys.length),(h.del id).new h.next (.row (xs.flatten++ys.flatten)),?_,hE, .inr ⟨h.next,by simp,by rw[zM,List.flatten_append],hx.1,by show h.next<max h.next (h.next+1);omega,by simp[hy0]⟩⟩;simp only[qC,Bool.true_and,decide_true];rw[if_pos (by simp only[Bool.and_eq_true,decide_eq_true_eq];exact⟨hb,hl⟩)];simp only[h1,hf2,if_true,hr]
end
structure Own2 (h0 h:Heap) (s1:Nat) (xs:List (List D)) (d:D) (s2:Nat) (ys:List (List D)) (e:D):Prop where
 a:Own h0 h s1 xs d
 b:Own h0 h s2 ys e
 ap:∀i,wS d i→wS e i→False
section
variable {h0 h h':Heap} {s1 s2:Nat} {xs ys:List (List D)} {d e:D}
theorem Own2.start (he:Ext h0 h) (s1 s2:Nat):Own2 h0 h s1 [] .nilsl s2 [] .nilsl:=⟨Own.start he _,Own.start he _,fun i h=>h.elim⟩
theorem Own2.ext (ho:Own2 h0 h s1 xs d s2 ys e) (he:Ext h h'):Own2 h0 h' s1 xs d s2 ys e:=⟨ho.a.ext he,ho.b.ext he,ho.ap⟩
theorem Own2.swap (ho:Own2 h0 h s1 xs d s2 ys e):Own2 h0 h s2 ys e s1 xs d:=⟨ho.b,ho.a,fun i q p=>ho.ap i p q⟩
theorem Own2.appH {P:Program} {zs:List (List D)} {tk:Tk} {t u:TypeId} {K:D→Heap→Prop} {w:HidR K} (ho:Own2 h0 h s1 xs d s2 ys e) (he:ye P t=some u) (hz:zFm P u=true) (hs:szT P u=s1) (hp:0<s1) (hzs:∀y∈zs,y.length=s1) (hz0:zs≠[])
  (hb:(xs.length+zs.length)*yL P u≤lim) (hl:xs.length+zs.length≤lim) (hK:∀d' h',Own2 h0 h' s1 (xs++zs) d' s2 ys e→K d' h'):zXR (ze P false h.next t d (.sl s1 zs tk) h) K w:=
 ho.a.2.1.app2 he hz hs hp hzs hz0 hb hl fun d' h' o n keep tk c f=>hK d' h' ⟨⟨⟨Nat.le_trans ho.a.1.1 n,fun i hi=>by rw[keep i (Nat.lt_of_lt_of_le hi ho.a.1.1) (fun q=>by have:=ho.a.2.2 i q;omega)];exact ho.a.1.2 i hi⟩,o,fun i hi=>Nat.le_trans ho.a.1.1 (tk i hi)⟩,
  ⟨⟨Nat.le_trans ho.a.1.1 n,fun i hi=>by rw[keep i (Nat.lt_of_lt_of_le hi ho.a.1.1) (fun q=>by have:=ho.a.2.2 i q;omega)];exact ho.a.1.2 i hi⟩,ho.b.2.1.loc n fun i hi=>keep i (ho.b.2.1.tok hi).1 fun q=>ho.ap i q hi,ho.b.2.2⟩,
  fun i q1 q2=>by have:=tk i q1;have:=(ho.b.2.1.tok q2).1;omega⟩
end
section
variable {h0 h h':Heap} {sz:Nat} {xs:List (List D)} {d:D}
theorem Own.appK {P:Program} {ys:List (List D)} {tk:Tk} {t e:TypeId} {K:D→Heap→Prop} {w:HidR K} (ho:Own h0 h sz xs d) (he:ye P t=some e) (hz:zFm P e=true) (hs:szT P e=sz) (hp:0<sz) (hys:∀y∈ys,y.length=sz) (hy0:ys≠[])
  (hb:(xs.length+ys.length)*yL P e≤lim) (hl:xs.length+ys.length≤lim) (hK:∀d' h',Own h0 h' sz (xs++ys) d'→h.next≤h'.next→(∀i,i<h.next→h.at' i≠some .tok→h'.at' i=h.at' i)→K d' h'):zXR (ze P false h.next t d (.sl sz ys tk) h) K w:=
 ho.2.1.app2 he hz hs hp hys hy0 hb hl fun d' h' o n keep tk c f=>hK d' h' ⟨⟨Nat.le_trans ho.1.1 n,fun i hi=>by rw[keep i (Nat.lt_of_lt_of_le hi ho.1.1) (fun q=>by have:=ho.2.2 i q;omega)];exact ho.1.2 i hi⟩,o,fun i hi=>Nat.le_trans ho.1.1 (tk i hi)⟩ n fun i hi hn=>keep i hi fun q=>hn (ho.2.1.tok q).2
theorem Own.setK (ho:Own h0 h sz xs d) {id:Nat} {o:Obj} (hi:h0.next≤id) (hr:h.at' id=some o) (hne:o≠ .tok) (o':Obj):Own h0 (h.set id o') sz xs d:=
 ⟨ho.1.set hi _,ho.2.1.loc (Nat.le_refl _) fun i ht=>zG fun e=>by subst e;have:=(ho.2.1.tok ht).2;rw[hr] at this;exact hne (Option.some.inj this),ho.2.2⟩
end
open Go.Proofs
set_option maxRecDepth 100000
structure Alt where
 ts:List Trm
 d:D
structure Alt.Ok (a:Alt):Prop where
 sl:zV 2 (qJ a.ts) a.d
 ne:a.ts≠[]
 len:a.ts.length≤4096
def mkA (ts:List Trm):Alt:=⟨ts, .sl 2 (qJ ts) .no⟩
def yW (l:List Alt):List (List D):=l.map fun a=>[a.d]
theorem yP (l:List Alt):(yW l).length=l.length:=List.length_map ..
theorem zTk {l:List Alt} {i:Nat} (h:i<l.length):(yW l)[i]? =some [l[i].d]:=by simp[yW,h]
theorem zD5 (l:List Alt):∀x∈yW l,x.length=1:=fun x hx=>by
 obtain⟨s,_,rfl⟩:=List.mem_map.1 hx;rfl
theorem zRo (l:List Alt):(yW l).flatten=l.map Alt.d:=by
 induction l with
 |nil=>rfl
 |cons a l ih=>simp only[yW,List.map_cons,List.flatten_cons] at ih⊢;rw[ih];rfl
theorem zBp {l:List Alt} {d:D} (hd:zV 1 (yW l) d) (h:Heap):zBU Tryz.prog 30 d h=some (.int .i64 l.length):=by rw[zP hd Tryz.underlying30,yP]
theorem zDE {l:List Alt} {d:D} (hd:zV 1 (yW l) d) {i:Nat} (hi:i<l.length):zQ Tryz.prog 30 d (.int .i64 (i:Int))=some (.iptr [l[i].d] 0):=zF hd wR wG (zTk hi)
theorem zK2 (ts:List Trm):zCD [(mkA ts).d]:=by
 have h:=yV (sz:=2) (xs:=qJ ts) (fun x hx=>by
  obtain⟨y,_,rfl⟩:=List.mem_map.1 hx;exact⟨rfl,by simp[Trm.cells,zz,below],rfl⟩) .no
 exact⟨rfl,by simp only[zz];exact⟨h.2,trivial⟩,by simp only[yS];rw[show(mkA ts).d= .sl 2 (qJ ts) .no from rfl,h.1]⟩
theorem zK3 {l:List Alt} {d:D} (hd:zV 1 (yW l) d) (hl:l.length≤1048576) {f:FuncId} {cap:List D} {p:Alt→Bool} {g:Heap} (hp:∀s∈l,zV 2 (qJ s.ts) s.d∧zA Tryz.prog f ([]++ [s.d]++cap) g fun r h'=>h'=g∧r= .bool (p s)):
  zA Tryz.prog 136 [d, .fn (.func f) [] cap] g fun r h'=>h'=g∧r= .int .i64 (zHA p l):=by
 have hlen:=zBp hd;refine zA.of_fn (g:=zNA) mix Tryz.func136 zaT rfl rfl ?_;simp only[Tryz.f136,gJ]
 repeat' first|simp only[go_sem,zQM, *]|apply bc<;>intro hc
 refine zC (fun i fr h=>fr 1= .fn (.func f) [] cap∧fr 0=d∧fr 6=d∧fr 7= .int .i64 (l.length:Int)∧fr 8= .int .i64 (i:Int)∧h=g∧∀j (hj:j<l.length),j<i→p l[j]=false) l.length (by omega) ?_ ?_ ?_
 ·simp only[go_sem,zQM,true_and,and_true,Int.ofNat_zero];exact fun j hj h0=>by omega
 ·rintro i fr h hlt e1 ew ⟨f1,f0,f6,f7,f8,rfl,hj⟩;have a1:=zDE hd hlt;obtain⟨ho,hq⟩:=hp _ (List.getElem_mem hlt);obtain⟨k1,k2,k3⟩:=zp ho;simp only[List.nil_append,List.cons_append] at hq;cases hb:p l[i] with
  |true=>
   have hx:=zBm hlt hj hb;rw[hb] at hq;clear hj hp hd ho
   repeat' first|simp only[go_sem,zQM, *]|apply bc<;>intro hc|(refine zA.mono hq ?_;rintro r h ⟨rfl,rfl⟩)
  |false=>
   have hn:=qF (p:=p) hlt hj hb;rw[hb] at hq;clear hj hp hd ho
   repeat' first|simp only[go_sem,zQM, *]|apply bc<;>intro hc|(refine zA.mono hq ?_;rintro r h ⟨rfl,rfl⟩)
   exact hn
 ·rintro fr h e1 ⟨f1,f0,f6,f7,f8,rfl,hj⟩;have hx:=zBn (p:=p) fun j hj'=>hj j hj' hj';clear hj hp hd
  repeat' first|simp only[go_sem,zQM, *]|apply bc<;>intro hc
theorem zCM {l:List Alt} {d:D} (hd:zV 1 (yW l) d) (hl:l.length≤1048576) {f:FuncId} {cap:List D} {p:Alt→Bool} {g:Heap} (hp:∀s∈l,zV 2 (qJ s.ts) s.d∧zA Tryz.prog f ([]++ [s.d]++cap) g fun r h'=>h'=g∧r= .bool (p s)):
  zA Tryz.prog 87 [d, .fn (.func f) [] cap] g fun r h'=>h'=g∧r= .bool (l.any p):=by
 have hix:=zK3 hd hl hp;have hge:=zCH (l:=l) (p:=p);refine zA.of_fn (g:=zSx) mix Tryz.func87 zgQ rfl rfl ?_;simp only[Tryz.f87,gJ]
 repeat' first|simp only[go_sem,zhe, *]|apply bc<;>intro hc|(refine zA.mono hix ?_;rintro r h ⟨rfl,rfl⟩)
theorem zbm {a b:Alt} (ha:a.Ok) (hb:b.Ok) {id:Nat} {g:Heap} (hi:g.at' id=some (.row [a.d])):
  zA Tryz.prog 264 [b.d, .ptr id 0] g fun r h'=>h'=g∧r= .bool (zD2 a.ts b.ts):=by
 have hc:=zJQ ha.sl hb.sl (by have:=ha.len;omega) (by have:=hb.len;omega);refine zA.of_fn (g:=zP7) mix Tryz.func264 zdS rfl rfl ?_;simp only[Tryz.f264,gJ]
 repeat' first|simp only[go_sem,zdR, *]|apply bc<;>intro hc|(refine zA.mono (hc _) ?_;rintro r h ⟨rfl,rfl⟩)
open Go.Shelf Go.Proofs Go.Sort
open Go.RowKit (Below)
theorem zGv {α:Type} [Inhabited α] (enc:α→Value) (w:World) (blk off m:Nat) (dk:Array α) (os:Array Go.Obj):∀b,b≠blk→b<w.heap.size→(sortWorld enc w blk off m dk os).heap[b]? =w.heap[b]? :=fun b hb hl=>by
 show((putRow enc (Go.Sort.ahead w m) blk off dk).heap++os)[b]? =_;have hs:(putRow enc (Go.Sort.ahead w m) blk off dk).heap.size=w.heap.size:=by simp[putRow,mapBlock,Go.Sort.ahead]
 rw[Array.getElem?_append_left (by omega)];show((Go.Sort.ahead w m).heap.modify blk _)[b]? =_;rw[Array.getElem?_modify,if_neg (fun e=>hb e.symm)];rfl
section
variable {P:Program} {f cmp:FuncId} {β:Type} {dd:β→D} {xs:List β} {id:Nat} {pre post:List D} {h:Heap} {cf:β→β→Int}
abbrev zJR (dd:β→D) (xs:List β) (M:Imm) (ρ:Ren):= {p:β×Value // p.1∈xs∧rel M ρ (dd p.1) p.2∧(dd p.1).flat=true}
theorem zA.of_sort1 (h0:xs≠[]) (he:qV P f=true) (hcm:∀args w,(callFunc cmp args).run P w= .ok (.enter cmp args) w)
  (hrow:h.at' id=some (.row (pre++xs.map dd++post))) (hO:SWO (ltOf cf)) (hlen:xs.length<4611686018427387904)
  (hcmp:∀x∈xs,∀y∈xs,∀H,zA P cmp [dd x,dd y] H fun r H'=>H'=H∧r= .int .i64 (cf x y))
  (hlib:∀ (α:Type) [Inhabited α] (enc:α→Value),OneCell enc→∀ (cf:α→α→Int),SWO (ltOf cf)→∀ (g:Nat) (cb:Array Value) (blk off cap:Nat) (d:Array α) (w:World),
   (∀args w,(callFunc g args).run P w= .ok (.enter g args) w)→CmpLays1 P g cb enc cf blk off d.size w→Go.Sort.Holds enc w blk off d→blk<w.heap.size→d.size<4611686018427387904→
   Calls P f #[.slice (some ⟨blk,off,none⟩) d.size cap, .func (.func g) #[] cb] w fun e w'=>e= .returned (.tuple #[])∧∃d' n os,PermIn 0 d.size d d'∧SortedIn (ltOf cf) 0 d.size d'∧w'=sortWorld enc w blk off n d' os):
  zA P f [.rs id 1 pre.length xs.length, .fn (.func cmp) [] []] h fun r h'=>r= .tuple []∧∃ys:List β,ys.Perm xs∧ys.Pairwise (fun a b=>¬cf b a<0)∧h'=h.set id (.row (pre++ys.map dd++post)):=by
 refine⟨he,fun w0 G M ρ w va hg0 hs hfr hr=> ?_⟩;simp only[zl] at hr;obtain⟨v,vs',hva,hv,v2,vs2,rfl,hv2,rfl⟩:=hr;simp only[rel,zl] at hv hv2;obtain⟨_,hlim,l,cap,o,hl,rfl,⟨hc1,hc2⟩,hsz,ho⟩:=hv;obtain⟨_,fa,fc,rfl,hfa,hfc⟩:=hv2;have hfa':fa= #[]:=Array.ext' (by simpa using hfa);have hfc':fc= #[]:=Array.ext' (by simpa using hfc);subst hfa' hfc';have hxl:0<xs.length:=List.length_pos_iff.2 h0;have ho:o=pre.length:=by
  rcases ho with hz|ho
  ·omega
  ·exact ho
 subst ho;have hva':va= #[.slice (some ⟨l.blk,pre.length,none⟩) xs.length cap, .func (.func cmp) #[] #[]]:=Array.ext' (by simpa using hva);subst hva';obtain⟨l',h1,hkeep,hM,c,e,hw,hls,hcl,hcells⟩:=hs.live id _ hrow;rw[hl] at h1;cases h1;have hblk:l.blk<w.heap.size:=(Array.getElem?_eq_some_iff.1 hw).1;have hat:∀i (hi:i<xs.length),(pre++xs.map dd++post)[pre.length+i]? =some (dd xs[i]):=fun i hi=>by
  rw[List.append_assoc,List.getElem?_append_right (by omega),Nat.add_sub_cancel_left,List.getElem?_append_left (by simpa using hi),List.getElem?_map,List.getElem?_eq_getElem hi];rfl
 have hval:∀i (hi:i<xs.length),∃v,c[pre.length+i]? =some v∧rel M ρ (dd xs[i]) v∧(dd xs[i]).flat=true:=fun i hi=>by
  obtain⟨h1,v,h2,h3⟩:=hcells _ _ (hat i hi);exact⟨v,h2,h3,h1⟩
 let mk:_root_.Fin xs.length→zJR dd xs M ρ:=fun i=>⟨(xs[i.1],(hval i.1 i.2).choose),List.getElem_mem i.2,(hval i.1 i.2).choose_spec.2⟩
 letI:Inhabited (zJR dd xs M ρ):=⟨mk ⟨0,hxl⟩⟩
 let enc:zJR dd xs M ρ→Value:=fun p=>p.1.2
 have henc1:OneCell enc:=fun p=>zEi p.2.2.1 p.2.2.2
 let d:Array (zJR dd xs M ρ):=Array.ofFn mk
 have hd:d.size=xs.length:=by simp[d]
 have hdi:∀i (hi:i<xs.length),d[i]! =mk ⟨i,hi⟩:=fun i hi=>by rw[getElem!_pos d i (by rw[hd];exact hi)];simp[d]
 have hdl:d.toList.map (fun p=>p.1.1)=xs:=by
  apply List.ext_getElem?;intro i;rw[List.getElem?_map,Array.getElem?_toList];by_cases hi:i<xs.length
  ·rw[Array.getElem?_eq_getElem (by rw[hd];exact hi),List.getElem?_eq_getElem hi,Option.map_some];simp[d,mk]
  ·rw[Array.getElem?_eq_none (by omega),List.getElem?_eq_none (by omega)];rfl
 have hO':SWO (ltOf fun p q:zJR dd xs M ρ=>cf p.1.1 q.1.1):=⟨fun x=>hO.irrefl _,fun x y z=>hO.trans _ _ _,fun x y z=>hO.ntrans _ _ _⟩;have hholds:Go.Sort.Holds enc w l.blk pre.length d:=by
  intro j hj;rw[hd] at hj;refine⟨?_,by simp[World.frozen?,hw]⟩;rw[hdi _ hj];have hv:=(hval j hj).choose_spec.1;simp only[World.cell?,hw,Option.isSome_none,Bool.false_eq_true,if_false];exact hv
 have hlays:CmpLays1 P cmp #[] enc (fun p q=>cf p.1.1 q.1.1) l.blk pre.length d.size w:=by
  intro m os dk hdk x y;have hfrm:=zGv enc w l.blk pre.length m dk os;have hgood:∀g,P.globalNamed wE=some g→Lib.TabIs P (sortWorld enc w l.blk pre.length m dk os) wE .u64 Lib.pow10Tab:=fun g hg=>by
   have h2:=hg0.here hs.below hg;unfold Lib.TabIs World.var? at h2⊢;rw[hg] at h2⊢;simp only[Option.bind_some] at h2⊢;have hgk:=(hg0 g hg).1;rw[hfrm g (fun q=>hkeep (q▸hgk)) (Nat.lt_of_lt_of_le (w0.kept g hgk) hs.below.size)];exact h2
  refine zA.stays (fun H=>(hcmp x.1.1 x.2.1 y.1.1 y.2.1 H).mono fun r H' hq=>hq.2) (fun M ρ v hv=>by simp only[rel] at hv;exact hv.1) (M:=M) (ρ:=ρ) (n:=h.next) (fun b o v hb=> ?_) hgood hfr ?_
  ·have hne:b≠l.blk:=fun q=>by subst q;rw[hM o] at hb;cases hb
   rw[←hs.imm b o v hb];exact World.cell?_of_block (w:=w) (hfrm b hne (hs.lt hb))
  ·show zl M ρ _ [_,_];simp only[zl];exact⟨_,_,rfl,x.2.2.1,_,_,rfl,y.2.2.1,rfl⟩
 have hcall:=hlib (zJR dd xs M ρ) enc henc1 (fun p q=>cf p.1.1 q.1.1) hO' cmp #[] l.blk pre.length cap d w hcm hlays hholds hblk (by rw[hd];exact hlen);rw[hd] at hcall;refine hcall.mono fun e w' hq=> ?_;obtain⟨rfl,d',n,os,hperm,hsorted,rfl⟩:=hq;rw[←hd] at hperm;have hpl:=PermIn.list hperm;have hd':d'.size=xs.length:=by rw[hperm.1,hd]
 have hys:(d'.toList.map fun p=>p.1.1).Perm xs:=by
  have q:=hpl.map (fun p=>p.1.1)
  rwa [hdl] at q
 let mk2:zJR dd xs M ρ→zY2:=fun p=>⟨(dd p.1.1,p.1.2),p.2.2.2⟩
 have hm1:∀dk:List (zJR dd xs M ρ),(dk.map mk2).map (fun q=>q.1.1)=(dk.map fun p=>p.1.1).map dd:=fun dk=>by rw[List.map_map,List.map_map];rfl
 have hm2:∀dk:List (zJR dd xs M ρ),(dk.map mk2).map (fun q=>q.1.2)=dk.map enc:=fun dk=>by rw[List.map_map];rfl
 have hrow2:h.at' id=some (.row (pre++(d.toList.map mk2).map (fun q=>q.1.1)++post)):=by rw[hm1,hdl];exact hrow
 have hS:=(hs.ahead n).putRow (α:=zY2) (enc:=fun q=>q.1.2) (dd:=fun q=>q.1.1) (fun q=>q.2) hrow2 hl (ys:=d'.toList.map mk2) (hpl.map mk2).length_eq (fun q hq=>by
  obtain⟨p,hp,rfl⟩:=List.mem_map.1 hq;exact p.2.2.1)
 have hS2:=hS.grow os;rw[zEd,List.map_toArray,hm2,hm1,←List.map_toArray,Array.toArray_toList,←zEd] at hS2;refine⟨.tuple #[],M,ρ, .tuple [],_,rfl,MLe.refl _,RLe.refl _,hS2,hfr,by simp only[rel,zl];exact⟨#[],rfl,rfl⟩,rfl,d'.toList.map (fun p=>p.1.1),hys,?_,rfl⟩;rw[List.pairwise_map,List.pairwise_iff_getElem];intro i j hi hj hij;have hj':j<d'.size:=by simpa using hj
 have:=hsorted i j (Nat.zero_le _) hij (by omega);rw[getElem!_pos d' j hj',getElem!_pos d' i (by omega)] at this;simpa [ltOf] using this
end
open Go.Proofs Go.Shelf Go.Sort
theorem zRp:QC zEY where
 anti x y:=by unfold zEY;(repeat' split)<;>omega
 trans x y z h1 h2:=by
  have e:∀a b:Int,zEY a b≤0↔a≤b:=fun a b=>by unfold zEY;(repeat' split)<;>omega
  rw[e] at *;omega
theorem zIH:∀a b:List Trm,zAI a b=zFe zJ a b
 | [],[]=>rfl
 | [],_::_=>rfl
 |_::_,[]=>rfl
 |x::xs,y::ys=>by
  simp only[zAI,zFe,zOe,zIH xs ys];by_cases h:zJ x y=0<;>simp[h]
theorem zAU (a b:List Trm):zCw a b=zOe (zEY a.length b.length) (zFe zJ a b):=by
 unfold zCw zOe;simp only[orL,zIH];split
 ·split
  ·rename_i q;exact q.symm
  ·rfl
 ·rfl
theorem zGw:QC zCw:=by
 have:=(zRp.key (γ:=List Trm) (fun a=>(a.length:Int))).lex zCL.list;exact⟨fun x y=>by rw[zAU,zAU];exact this.anti x y,fun x y z=>by rw[zAU,zAU,zAU];exact this.trans x y z⟩
theorem zK4 (x y:List Trm) (h:zCw x y=0):x=y:=by
 rw[zAU,zOe] at h;split at h
 ·exact zMK zD4 _ _ h
 ·rename_i q;exact absurd h q
theorem zJS (l:List (List Trm)):(yW (l.map mkA)).flatten=l.map fun ts=>(mkA ts).d:=by rw[zRo,List.map_map];rfl
theorem zXm {l:List (List Trm)} {id:Nat} {g:Heap} (h0:l≠[]) (hl:l.length≤1048576) (hle:∀ts∈l,ts.length≤1048576) (hrow:g.at' id=some (.row (yW (l.map mkA)).flatten)):
  zA Tryz.prog 262 [.rs id 1 0 l.length, .fn (.func 263) [] []] g fun r h'=>r= .tuple []∧h'=g.set id (.row (yW ((srt zCw l).map mkA)).flatten):=by
 have:=zA.of_sort1 (P:=Tryz.prog) (f:=262) (cmp:=263) (dd:=fun ts=>(mkA ts).d) (xs:=l) (id:=id) (pre:=[]) (post:=[]) (h:=g) (cf:=zCw) h0 (by kernel_rfl) (enters_of Tryz.func263 (by kernel_rfl) rfl) (by simpa [zJS] using hrow) zGw.swo (by omega)
  (fun x hx y hy H=>zKz (zV.mk .no) (zV.mk .no) (hle x hx) (hle y hy) H) (fun α _ enc h1 cf hO g cb blk off cap d w hg hc hH hb hs=>Any.slices_SortFunc Tryz.sortAlt enc h1 cf hO g cb blk off cap d w hg hc hH hb hs)
 refine this.mono fun r h' ⟨e1,ys,hp,hs,e2⟩=>⟨e1,?_⟩;rw[e2,zRh zGw zK4 hp hs,zJS];simp
def zAC (ts:List Trm):List Trm:=cpt zJ (srt zJ ts)
def zCN (out:List (List Trm)) (a:List Trm):List (List Trm):=if(out.any fun b=>zD2 a b)=true then out else out++ [a]
def zBq (l:List (List Trm)):Nat→List (List Trm)
 |0=>[]
 |n+1=>match l[n]? with
  |none=>zBq l n
  |some a=>zCN (zBq l n) a
def qv (l:List (List Trm)):List (List Trm):=srt zCw (l.map zAC)
def yK (l:List (List Trm)):List (List Trm):=zBq (qv l) (qv l).length
theorem zNl {ts:List Trm} (h:ts≠[]):zAC ts≠[]:=fun e=>by
 have h1:0<(srt zJ ts).length:=by rw[(wY ts).length_eq];exact List.length_pos_iff.2 h
 have:=zNj (c:=zJ) h1 _ (Nat.le_refl _) h1;rw[show zAr zJ (srt zJ ts) (srt zJ ts).length=zAC ts from rfl,e] at this
 exact absurd this (Nat.lt_irrefl _)
theorem zK5 (ts:List Trm):(zAC ts).length≤ts.length:=by
 have:=zFf (c:=zJ) (l:=srt zJ ts) (srt zJ ts).length;rw[(wY ts).length_eq] at this;exact(by rw[←(wY (c:=zJ) ts).length_eq];exact zFf _)
theorem zNm {ts:List Trm} (h:ts≠[]) (hl:ts.length≤4096):(mkA ts).Ok:=⟨zV.mk .no,h,hl⟩
theorem zCO {l:List (List Trm)} :∀n,∀x∈zBq l n,x∈l
 |0,x,h=>by cases h
 |n+1,x,h=>by
  rw[zBq] at h;split at h
  ·exact zCO n x h
  ·rename_i a e;unfold zCN at h;split at h
   ·exact zCO n x h
   ·rcases List.mem_append.1 h with h|h
    ·exact zCO n x h
    ·cases List.mem_singleton.1 h;exact List.mem_of_getElem? e
theorem zGx {l:List (List Trm)} :∀n,(zBq l n).length≤n
 |0=>Nat.le_refl _
 |n+1=>by
  have ih:=zGx (l:=l) n;rw[zBq];split
  ·omega
  ·unfold zCN;split
   ·omega
   ·rw[List.length_append];simp only[List.length_cons,List.length_nil];omega
theorem zK6 {l:List (List Trm)} {x:List Trm} (h:x∈yK l):∃y∈l,x=zAC y:=by
 have:=zML.1 (zCO _ x h);obtain⟨y,hy,rfl⟩:=List.mem_map.1 this;exact⟨y,hy,rfl⟩
theorem zGy (d:D) (nid:Nat) (h:Heap) (h1:d.cells= [d]) (h2:d.notTuple=true) (h3:d.flat=true):zU Tryz.prog false nid 30 1 [(0,d)] h=some (.sl 1 [[d]] .full,h):=by
 have:=yU (P:=Tryz.prog) (nid:=nid) (h:=h) (x:=d) wR zKI wG rfl rfl (by omega) (by omega) h2 (by rw[h1];rfl);rw[h1] at this;exact this
set_option maxHeartbeats 4000000 in
theorem zGz {l:List Alt} {d:D} (hd:zV 1 (yW l) d) (h0:l≠[]) (hl:l.length≤1048576) (hok:∀a∈l,a.Ok) (g:Heap):
  zA Tryz.prog 230 [d] g fun r h'=>h'=g∧Fin 1 (yW ((yK (l.map Alt.ts)).map mkA)) r:=by
 refine zA.pure (by kernel_rfl) fun hok'=>zA.strip ?_;have hlen:=zBp hd;refine zA.post fun Q hQ=> ?_;have hE0:=Own.start (Ext.refl g) 1;refine zA.of_fn (g:=zQ6) mix Tryz.func230 zeq rfl rfl ?_;simp only[Tryz.f230,gJ]
 repeat' first|simp only[go_sem,zFD, *]|apply bc<;>intro hc
 refine zC (fun i fr h=>∃s,fr 10=d∧fr 11= .int .i64 (l.length:Int)∧fr 12= .int .i64 (i:Int)∧fr 3=s∧zLJ g h 1 (yW (((l.take i).map fun a=>zAC a.ts).map mkA)) s) l.length (by omega) ?_ ?_ ?_
 ·have hs:=zLJ.start (Ext.refl g) 1;simp only[go_sem,zFD,true_and,and_true,Int.ofNat_zero];exact⟨_,rfl,hs⟩
 ·rintro i fr h hlt e1 ew ⟨s,f10,f11,f12,f3,ho⟩;have a1:=zDE hd hlt;obtain⟨o1,o2,o3⟩:=hok _ (List.getElem_mem hlt);have htk:(l.take (i+1)).map (fun a=>zAC a.ts)=(l.take i).map (fun a=>zAC a.ts)++ [zAC l[i].ts]:=by rw[List.take_succ_eq_append_getElem hlt,List.map_append];rfl
  have hli:((l.take i).map fun a=>zAC a.ts).length=i:=by rw[List.length_map,List.length_take];omega
  rw[htk];clear htk;generalize l[i]=a at *
  generalize(l.take i).map (fun a=>zAC a.ts)=pre at *
  obtain⟨k1,k2,k3⟩:=zp o1;have hcl:=fun h=>zRk o1 o2 (by omega) h;have hso:=fun(H:Heap) (hr:H.at' h.next=some (.row (qJ a.ts).flatten))=>zXl (id:=h.next) o2 (by omega) hr;have hn0:srt zJ a.ts≠[]:=fun e=>o2 (List.length_eq_zero_iff.1 (by rw[←(wY (c:=zJ) a.ts).length_eq,e];rfl));have hnl:(srt zJ a.ts).length=a.ts.length:=(wY a.ts).length_eq;have hco:=fun(H:Heap) (hr:H.at' h.next=some (.row (qJ (srt zJ a.ts)).flatten))=>zMM (id:=h.next) hn0 (by omega) hr;rw[hnl] at hco;have hnd:D.sl 2 (qJ (cpt zJ (srt zJ a.ts))) .no=(mkA (zAC a.ts)).d:=rfl;clear hd hok hlen
  repeat' first|simp only[go_sem,zFD, *]|apply bc<;>intro hc|(refine zA.mono (hcl _) ?_;rintro r h ⟨rfl,rfl⟩)
  refine(hso _ (zM _ _ _)).mono ?_;rintro r h2 ⟨rfl,rfl⟩
  repeat' first|simp only[go_sem,zFD, *]|apply bc<;>intro hc
  refine(hco _ (zE _ _ _)).mono ?_;rintro r h2 ⟨rfl,rfl⟩;have hE:Ext h (((h.new h.next (.row (qJ a.ts).flatten)).set h.next (.row (qJ (srt zJ a.ts)).flatten)).del h.next):=(((Ext.refl h).new (Nat.le_refl _) _).set (Nat.le_refl _) _).del (Nat.le_refl _);generalize((h.new h.next (.row (qJ a.ts).flatten)).set h.next (.row (qJ (srt zJ a.ts)).flatten)).del h.next=H at *
  have hoH:=ho.ext hE;obtain⟨d',G,hap,hoG,htr⟩:=hoH.app (P:=Tryz.prog) (ys:=yW [mkA (zAC a.ts)]) (tk:= .full) wR zDi wG (by omega) (fun cs=>zRn Tryz.underlying168) (zD5 _) (zD5 _) (by simp[yW]) (by rw[yP,List.length_map,hli,zBI];unfold lim;simp[yW];omega) (by rw[yP,List.length_map,hli];unfold lim;simp[yW];omega);have hone:=zGy (mkA (zAC a.ts)).d H.next H rfl rfl rfl;have hal:yW [mkA (zAC a.ts)]= [[(mkA (zAC a.ts)).d]]:=rfl;rw[hal] at hap htr;have hfin:zLJ g G 1 (yW ((pre++ [zAC a.ts]).map mkA)) d':=by
   rw[List.map_append]
   have:yW (pre.map mkA++List.map mkA [zAC a.ts])=yW (pre.map mkA)++yW [mkA (zAC a.ts)]:=by simp[yW]
   rw[this];exact hoG
  clear ho hoH hoG hso hco hcl hal
  repeat' first|simp only[go_sem,zFD, *]|apply bc<;>intro hc
  exact⟨_,rfl,hfin⟩
 ·rintro fr h e1 ⟨s,f10,f11,f12,f3,ho⟩;rw[List.take_length] at ho;have hS:srt zCw (l.map fun a=>zAC a.ts)=qv (l.map Alt.ts):=by rw[qv,List.map_map];rfl
  have hSl:(qv (l.map Alt.ts)).length=l.length:=by rw[←hS,(wY _).length_eq,List.length_map]
  have hm0:l.map (fun a=>zAC a.ts)≠[]:=by simp[h0]
  have hml:(l.map fun a=>zAC a.ts).length=l.length:=List.length_map ..;have hmok:∀ts∈qv (l.map Alt.ts),ts≠[]∧ts.length≤4096:=fun ts h=>by
   rw[←hS] at h;obtain⟨a,ha,rfl⟩:=List.mem_map.1 (zML.1 h);exact⟨zNl (hok a ha).ne,Nat.le_trans (zK5 _) (hok a ha).len⟩
  have hle:∀ts∈l.map (fun a=>zAC a.ts),ts.length≤1048576:=fun ts h=>by
   have:=(hmok ts (by rw[←hS];exact zML.2 h)).2;omega
  obtain⟨hx,hc⟩:=ho;rcases hc with⟨_,e⟩ | ⟨id,rfl,hrow,hid,hidn,_⟩
  ·exact absurd (by simpa [yW] using e) h0
  have hal:(yW ((l.map fun a=>zAC a.ts).map mkA)).length=l.length:=by rw[yP,List.length_map,hml]
  rw[hal] at f3;have hso:=zXm hm0 (by omega) hle hrow;have hmin:yK (l.map Alt.ts)=zBq (qv (l.map Alt.ts)) (qv (l.map Alt.ts)).length:=rfl;rw[hmin] at hQ;clear hmin;rw[hml,hS] at hso;generalize qv (l.map Alt.ts)=L at *
  have E0:Ext g (h.set id (.row (yW (L.map mkA)).flatten)):=hx.set hid _;have hQ2:∀r h',Ext g h'→below g.next (yI r)→Fin 1 (yW ((zBq L L.length).map mkA)) (yI r)→Q r h':=fun r h' q1 q2 q3=>hQ r h' ⟨q1,q2,q3⟩;clear hQ hd hlen hS hm0 hml hle hal
  repeat' first|simp only[go_sem,zFD, *]|apply bc<;>intro hc|(refine zA.mono hso ?_;rintro r h ⟨rfl,rfl⟩)
  have r0:(h.set id (.row (yW (L.map mkA)).flatten)).at' id=some (.row (yW (L.map mkA)).flatten):=zE _ _ _;have hidn2:id<(h.set id (.row (yW (L.map mkA)).flatten)).next:=hidn;generalize h.set id (.row (yW (L.map mkA)).flatten)=H at *
  have hvl:=fun(h:Heap)=>zGR (P:=Tryz.prog) (t:=30) (sz:=1) (id:=id) (off:=0) (len:=l.length) (h:=h) Tryz.underlying30
  repeat' first|simp only[go_sem,zFD, *]|apply bc<;>intro hc
  refine zC (fun i fr h=>∃o,fr 28= .rs id 1 0 l.length∧fr 29= .int .i64 (l.length:Int)∧fr 30= .int .i64 (i:Int)∧fr 7=o∧Own H h 1 (yW ((zBq L i).map mkA)) o) l.length (by omega) ?_ ?_ ?_
  ·have hs:=Own.start (Ext.refl H) 1;simp only[go_sem,zFD,true_and,and_true,Int.ofNat_zero];exact⟨_,rfl,hs⟩
  ·rintro i fr h2 hlt ec ew ⟨o,f28,f29,f30,f7,ho⟩;have hlt':i<L.length:=by omega
   have a1:=qN (P:=Tryz.prog) (sz:=1) (id:=id) wR wG (k:= .i64) hlt;have hrow2:h2.at' id=some (.row (yW (L.map mkA)).flatten):=by rw[ho.1.2 _ hidn2];exact r0
   have hLi:(yW (L.map mkA)).flatten[i*1]? =some (mkA L[i]).d:=by rw[zJS,Nat.mul_one,List.getElem?_map,List.getElem?_eq_getElem hlt'];rfl
   obtain⟨m1,m2⟩:=hmok L[i] (List.getElem_mem hlt');have hmi:zBq L (i+1)=zCN (zBq L i) L[i]:=by rw[zBq,List.getElem?_eq_getElem hlt']
   have hsub:∀x∈zBq L i,x≠[]∧x.length≤4096:=fun x hx=>hmok x (zCO i x hx);have hml:=zGx (l:=L) i;rw[hmi];clear hmi;generalize L[i]=a at *
   generalize zBq L i=out at *
   have hnx:h2.next<(h2.new h2.next (.row [(mkA a).d])).next:=by rw[zO];omega
   have hrn:(h2.new h2.next (.row [(mkA a).d])).at' h2.next=some (.row [(mkA a).d]):=zM _ _ _;have hstn:zX Tryz.prog 168 (.ptr h2.next 0) (mkA a).d (h2.new h2.next (.row [.nilsl]))=some (h2.new h2.next (.row [(mkA a).d])):=by
    rw[zT (zM _ _ _) wG (by simp) rfl rfl,zA3];rfl
   have hoN:=ho.ext ((Ext.refl h2).new (Nat.le_refl _) (.row [(mkA a).d]));have hcf:=zCM (l:=out.map mkA) (d:=o) hoN.isSl (by rw[List.length_map];omega) (f:=264) (cap:=[.ptr h2.next 0]) (p:=fun b=>zD2 a b.ts) (g:=h2.new h2.next (.row [(mkA a).d])) (fun s hs=>by
    obtain⟨y,hy,rfl⟩:=List.mem_map.1 hs;obtain⟨n1,n2⟩:=hsub y hy;exact⟨(zNm n1 n2).sl,zbm (zNm m1 m2) (zNm n1 n2) hrn⟩)
   have hany:(out.map mkA).any (fun b=>zD2 a b.ts)=out.any fun b=>zD2 a b:=by rw[List.any_map];rfl
   rw[hany] at hcf;have hck:(mkA a).d.cells= [(mkA a).d]∧(mkA a).d.notTuple=true:=⟨rfl,rfl⟩;obtain⟨k1,k2⟩:=hck;cases hb:(out.any fun b=>zD2 a b) with
   |true=>
    have hst:zCN out a=out:=if_pos hb;rw[hst];rw[hb] at hcf;clear hmok hsub hany hst hb hQ2 ho;generalize h2.new h2.next (.row [(mkA a).d])=h3 at *
    repeat' first|simp only[go_sem,zFD, *]|apply bc<;>intro hc|(refine zA.mono hcf ?_;rintro r h ⟨rfl,rfl⟩)
    exact⟨_,rfl,hoN⟩
   |false=>
    have hst:zCN out a=out++ [a]:=if_neg (by rw[hb];exact Bool.false_ne_true);rw[hst];rw[hb] at hcf;have hone:=fun nid h=>zGy (mkA a).d nid h rfl rfl rfl;clear hmok hsub hany hst hb hQ2 ho;have hld:zA9 Tryz.prog 168 (.ptr h2.next 0) (h2.new h2.next (.row [(mkA a).d]))=some (mkA a).d:=by
     simp only[go_sem,hrn]
    generalize h2.new h2.next (.row [(mkA a).d])=h3 at *
    repeat' first|simp only[go_sem,zFD, *]|apply bc<;>intro hc|(refine zA.mono hcf ?_;rintro r h ⟨rfl,rfl⟩)
    refine hoN.appH (ys:=yW [mkA a]) wR zDi wG (by omega) (zD5 _) (by simp[yW]) (by rw[yP,List.length_map,zBI];unfold lim;simp[yW];omega) (by rw[yP,List.length_map];unfold lim;simp[yW];omega) fun d' h' ho'=> ?_;have ho2:Own H h' 1 (yW ((out++ [a]).map mkA)) d':=by
     rw[List.map_append]
     have:yW (out.map mkA++List.map mkA [a])=yW (out.map mkA)++yW [mkA a]:=by simp[yW]
     rw[this];exact ho'
    clear hoN ho'
    repeat' first|simp only[go_sem,zFD, *]|apply bc<;>intro hc
    exact⟨_,rfl,ho2⟩
  ·rintro fr h2 ec ⟨o,f28,f29,f30,f7,ho⟩;have hfin:=ho.2.1.fin (fun x hx=>by
    obtain⟨y,hy,rfl⟩:=List.mem_map.1 hx;obtain⟨z,_,rfl⟩:=List.mem_map.1 hy;exact zK2 z)
   have hq:=hQ2 o h2 (E0.trans ho.1) (zo (Nat.zero_le _) _ hfin.1) (by rw[hSl];exact hfin.2);clear hQ2 hfin hmok ho
   repeat' first|simp only[go_sem,zFD, *]|apply bc<;>intro hc
noncomputable def zXn:Cfg:=⟨fun t=>List.contains (α:=Nat) [22] t,fun i=>(zIq (α:=List (Nat×Fl)) [] i).getD []⟩
theorem zhz (t:Tmp):zXn.mu t=List.contains (α:=Nat) [22] t:=(rfl)
theorem zh0:zY Tryz.prog zXn Tryz.f291=true:=by kernel_rfl
noncomputable def zXo:Cfg:=⟨fun t=>List.contains (α:=Nat) [33] t,fun i=>(zIq (α:=List (Nat×Fl)) [] i).getD []⟩
theorem zVO (t:Tmp):zXo.mu t=List.contains (α:=Nat) [33] t:=(rfl)
theorem zh1:zY Tryz.prog zXo Tryz.f268=true:=by kernel_rfl
theorem zXp {n:Nat} (h0:0<n) (hn:n≤1048576) (h:Heap):
  zA Tryz.prog 291 [.nilsl, .int .i64 n] h fun r h'=>∃xs:List D,xs.length=n*2∧r= .rs h.next 2 0 0∧h'=h.new h.next (.row xs):=by
 have e1:decide ((n:Int)<0)=false:=decide_eq_false (by omega);have e2:IntKind.i64.wrap (0-0)=0:=rfl;have e3:IntKind.i64.wrap ((n:Int)-0)=n:=by rw[zq (by omega) (by omega)];omega
 have e4:decide ((n:Int)>0)=true:=decide_eq_true (by omega);have e5:yR Tryz.prog 168 .nilsl none (some (.int .i64 0)) none h=some .nilsl:=by
  simp[yR,zDj,zB0,yT,wL,qU,zHV,zJg]
 have e6:zAK Tryz.prog true h.next 168 3 .nilsl (.int .i64 n) h=some (.rs h.next 2 0 n,h.new h.next (.row (zBT n [.str [], .str []]))):=by
  have hb:n*32≤lim:=by unfold lim;omega
  have hb2:n≤lim:=by unfold lim;omega
  simp only[zAK,Tryz.underlying3,yT,zBf,wL,zGH,Int.toNat_natCast,D.notTuple,D.cells];rw[if_pos (by simp[hb,hb2,h0]),zBg Tryz.underlying51]
 have e7:yR Tryz.prog 168 (.rs h.next 2 0 n) none (some (.int .i64 0)) none (h.new h.next (.row (zBT n [.str [], .str []])))=some (.rs h.next 2 0 0):=
  zCE (n:=0) zDj yT wL (by omega)
 have e8:∀h:Heap,zBU Tryz.prog 168 .nilsl h=some (.int .i64 0):=fun h=>zP (sz:=2) zV.nil Tryz.underlying168;refine zA.of_fn (g:=zXn) mix Tryz.func291 zh0 rfl rfl ?_;simp only[Tryz.f291,gJ];simp only[go_sem,zhz,e1,e2,e3,e4,zTH Tryz.underlying168,e8,e5,e6,e7,Option.map_none,Option.map_some,List.length_nil,Int.natCast_zero,Int.ofNat_zero];refine⟨zBT n [.str [], .str []],?_,rfl⟩
 have:∀m,(zBT m [D.str [],D.str []]).length=m*2:=fun m=>by
  induction m with
  |zero=>rfl
  |succ m ih=>
   change (List.replicate m [D.str [],D.str []]).flatten.length=_ at ih;change (List.replicate (m+1) [D.str [],D.str []]).flatten.length=_;rw[List.replicate_succ,List.flatten_cons,List.length_append,ih];simp;omega
 exact this n
def zbn (h0 h:Heap) (l:List Trm) (d:D):Prop:=Ext h0 h∧∃id xs,d= .rs id 2 0 l.length∧h.at' id=some (.row xs)∧h0.next≤id∧id<h.next∧l.length*2≤xs.length∧xs.take (l.length*2)=(qJ l).flatten
theorem zRq (l:List Trm):(qJ l).flatten.length=l.length*2:=by rw[yw (wx l),qA]
theorem zTl {l l2:List Trm} {d d2:D} {h0 h:Heap} (hc:zbn h0 h l d) (hd:zV 2 (qJ l2) d2) (hl:l.length≤1048576) (hl2:l2.length≤1048576):
  ∃d' h',ze Tryz.prog true h.next 168 d d2 (qd d d2 h)=some (d',h')∧zbn h0 h' (l++l2) d':=by
 obtain⟨he,id,xs,rfl,hid,hg,hlt,hle,ht⟩:=hc;have hb:(l.length+l2.length)*32≤lim:=by unfold lim;omega
 have hb2:l.length+l2.length≤lim:=by unfold lim;omega
 have hv:∀h2:Heap,zOz 2 d2 h2=some (qJ l2).flatten:=fun h2=>by
  rcases hd with⟨rfl,hs⟩ | ⟨tk,rfl⟩
  ·have:l2= []:=List.map_eq_nil_iff.1 hs;subst this;rfl
  ·simp only[zOz,if_true]
 have hlt2:(xs.take (l.length*2)).length=l.length*2:=by rw[List.length_take];omega
 have hfl2:=zRq l2;have key:∀h2:Heap,h2.at' id=some (.row (xs.take (l.length*2)))→ze Tryz.prog true h.next 168 (.rs id 2 0 l.length) d2 h2=some (.rs h.next 2 0 (l.length+l2.length),(h2.del id).new h.next (.row (xs.take (l.length*2)++(qJ l2).flatten))):=fun h2 e=>by
  simp only[ze,yT,zPr,wL,if_true,hv,hfl2,Nat.mul_div_cancel _ (show 0<2 by omega),qC,zGH,Bool.true_and];rw[if_pos (by simp[hb,hb2]),e];simp only[];rw[if_pos (by rw[hlt2])]
 obtain⟨h2,e1,e2,e3,e4⟩:∃h2,qd (.rs id 2 0 l.length) d2 h=h2∧h2.next=h.next∧(∀j,j≠id→h2.at' j=h.at' j)∧h2.at' id=some (.row (xs.take (l.length*2))):=by
  by_cases hq:l.length*2<xs.length
  ·refine⟨h.set id (.row (xs.take (l.length*2))),?_,rfl,fun j hj=>by simp[Heap.set,hj],zE _ _ _⟩;rcases hd with⟨rfl,hs⟩ | ⟨tk,rfl⟩ <;>simp[qd,hid,hq]
  ·have ht:xs.take (l.length*2)=xs:=List.take_of_length_le (by omega);refine⟨h,?_,rfl,fun _ _=>rfl,by rw[ht];exact hid⟩;rcases hd with⟨rfl,hs⟩ | ⟨tk,rfl⟩ <;>simp[qd,hid,hq]
 have he2:Ext h0 h2:=⟨by rw[e2];exact he.1,fun i hi=>by rw[e3 i (by omega)];exact he.2 i hi⟩;rw[e1,key h2 e4];refine⟨_,_,rfl,(he2.del hg).new he.1 _,h.next,_,by rw[List.length_append],zM _ _ _,he.1,?_,?_,?_⟩
 ·have:(h2.del id).next=h2.next:=rfl;simp only[Heap.new,this,e2];omega
 ·rw[List.length_append,List.length_append,hlt2,hfl2];omega
 ·rw[ht,zTh,List.take_of_length_le (by rw[List.length_append,List.length_append,zRq,hfl2];omega)]
set_option maxHeartbeats 2000000 in
theorem zRr {a b:Alt} (ha:a.Ok) (hb:b.Ok) (g:Heap):
  zA Tryz.prog 268 [.sl 1 [[a.d],[b.d]] .full] g fun r h'=>h'=g∧r=(mkA (a.ts++b.ts)).d:=by
 obtain⟨a1,a2,a3⟩:=ha;obtain⟨b1,b2,b3⟩:=hb;have hpa:0<a.ts.length:=List.length_pos_iff.2 a2;refine zA.pure (by kernel_rfl) fun hok=> ?_
 suffices hh:zA Tryz.prog 268 [.sl 1 [[a.d],[b.d]] .full] g fun r h'=>zbn g h' (a.ts++b.ts) r by
  refine zA.freezeD (hh.mono ?_);rintro r h' ⟨hE,id,xs,rfl,hid,hg,hlt,hle,ht⟩;refine⟨id,xs,hid,hE.del hg,?_⟩;rw[zRj (xs:=qJ (a.ts++b.ts)) (rest:=xs.drop ((a.ts++b.ts).length*2)) (wx _) (qA _) (by rw[←ht,List.take_append_drop])];exact⟨zTi _ _,rfl⟩
 obtain⟨M,hM0,hM1,hM2⟩:∃M:Nat→Nat,M 0=0∧M 1=a.ts.length∧M 2=a.ts.length+b.ts.length:=⟨fun i=>if i=0 then 0 else if i=1 then a.ts.length else a.ts.length+b.ts.length,rfl,rfl,rfl⟩
 obtain⟨L,hL0,hL1,hL2⟩:∃L:Nat→List Trm,L 0= []∧L 1=a.ts∧L 2=a.ts++b.ts:=⟨fun i=>if i=0 then [] else if i=1 then a.ts else a.ts++b.ts,rfl,rfl,rfl⟩
 obtain⟨pt,hp0,hp1⟩:∃pt:Nat→Alt,pt 0=a∧pt 1=b:=⟨fun i=>if i=0 then a else b,rfl,rfl⟩
 have hll:∀h:Heap,zBU Tryz.prog 30 (.sl 1 [[a.d],[b.d]] .full) h=some (.int .i64 2):=fun h=>zP (zV.mk .full) Tryz.underlying30;have hx:∀i:Nat,i<2→zQ Tryz.prog 30 (.sl 1 [[a.d],[b.d]] .full) (.int .i64 (i:Int))=some (.iptr [(pt i).d] 0)∧zV 2 (qJ (pt i).ts) (pt i).d∧M (i+1)=M i+(pt i).ts.length∧L (i+1)=L i++(pt i).ts∧(L i).length≤8192∧(pt i).ts.length≤8192∧M i≤8192:=fun i hi=>by
  rcases i with _|_|i
  ·refine⟨zF (zV.mk .full) wR wG (by rw[hp0];rfl),by rw[hp0];exact a1,by rw[hM0,hp0,hM1];omega,by rw[hL0,hL1,hp0];rfl,by rw[hL0];simp,by rw[hp0];omega,by omega⟩
  ·refine⟨zF (zV.mk .full) wR wG (by rw[hp1];rfl),by rw[hp1];exact b1,by rw[hM1,hp1,hM2],by rw[hL1,hL2,hp1],by rw[hL1];omega,by rw[hp1];omega,by show M 1≤8192;omega⟩
  ·omega
 clear hp0 hp1;refine zA.of_fn (g:=zXo) mix Tryz.func268 zh1 rfl rfl ?_;simp only[Tryz.f268,gJ]
 repeat' first|simp only[go_sem,zVO, *]|apply bc<;>intro hc
 refine zC (fun i fr h=>fr 0= .sl 1 [[a.d],[b.d]] .full∧fr 9= .sl 1 [[a.d],[b.d]] .full∧fr 10= .int .i64 2∧fr 11= .int .i64 (i:Int)∧fr 3= .int .i64 ((M i:Nat):Int)∧h=g) 2 (by omega) ?_ ?_ ?_
 ·simp only[go_sem,true_and,and_true,Int.ofNat_zero,zVO,hM0]
 ·rintro i fr h hlt e1 ew ⟨f0,f9,f10,f11,f3,rfl⟩;obtain⟨x1,x2,x3,x4,x5,x6,x7⟩:=hx i hlt;have hlen:=wC x2;have hw:IntKind.i64.wrap (((M i:Nat):Int)+(((pt i).ts.length:Nat):Int))=((M (i+1):Nat):Int):=by rw[x3,zq (by omega) (by omega)];omega
  have hneg:decide (((M (i+1):Nat):Int)<0)=false:=decide_eq_false (by omega);have e2:decide ((i:Int)<2)=true:=e1;clear x3 x4 hx hM0 hM1 hM2
  repeat' first|simp only[go_sem,zVO, *]|apply bc<;>intro hc
 ·rintro fr h e1 ⟨f0,f9,f10,f11,f3,rfl⟩;have e2:decide ((((2:Nat):Int))<2)=false:=rfl;have hgr:=zXp (n:=M 2) (by omega) (by omega) h;have f11':fr 11= .int .i64 2:=f11;clear e1 f11 hM0 hM1 hM2
  repeat' first|simp only[go_sem,zVO, *]|apply bc<;>intro hc
  refine hgr.mono ?_;rintro r h2 ⟨xs,hxs,rfl,rfl⟩;have hc0:zbn h (h.new h.next (.row xs)) (L 0) (.rs h.next 2 0 0):=⟨(Ext.refl h).new (Nat.le_refl _) _,h.next,xs,by rw[hL0];rfl,zM _ _ _,Nat.le_refl _,by rw[zO];omega,by rw[hL0];simp,by rw[hL0];rfl⟩;generalize h.new h.next (.row xs)=h2 at *
  clear hgr
  repeat' first|simp only[go_sem,zVO, *]|apply bc<;>intro hc
  refine zC (fun i fr h4=>fr 25= .sl 1 [[a.d],[b.d]] .full∧fr 26= .int .i64 2∧fr 27= .int .i64 (i:Int)∧zbn h h4 (L i) (fr 6)) 2 (by omega) ?_ ?_ ?_
  ·simp only[go_sem,true_and,and_true,Int.ofNat_zero,zVO];exact hc0
  ·rintro i fr2 h4 hlt e1 ew ⟨g25,g26,g27,gC⟩;obtain⟨d,g6⟩:∃x,fr2 6=x:=⟨_,rfl⟩;rw[g6] at gC;obtain⟨x1,x2,x3,x4,x5,x6,x7⟩:=hx i hlt;obtain⟨d',h5,k1,k2⟩:=zTl gC x2 (by omega) (by omega);rw[←x4] at k2;have e2:decide ((i:Int)<2)=true:=e1;obtain⟨q1,q2,q3⟩:=zp x2;clear x3 x4 hx hL0 hL1 hL2 gC hc0
   repeat' first|simp only[go_sem,zVO, *]|apply bc<;>intro hc
  ·rintro fr2 h4 e1 ⟨g25,g26,g27,gC⟩;have e2:decide ((((2:Nat):Int))<2)=false:=rfl;have g27':fr2 27= .int .i64 2:=g27;rw[hL2] at gC;obtain⟨d,g6⟩:∃x,fr2 6=x:=⟨_,rfl⟩;rw[g6] at gC;clear e1 g27 hx hL0 hL1 hL2
   repeat' first|simp only[go_sem,zVO, *]|apply bc<;>intro hc
def zE4 (a b:List Alt) (k:Nat):List Trm:=(a.getD (k/b.length) (mkA [])).ts++(b.getD (k%b.length) (mkA [])).ts
def zCy (a b:List Alt):List (List Trm):=(List.range (a.length*b.length)).map (zE4 a b)
theorem zRs {a b:List Alt} {i j:Nat} (hi:i<a.length) (hj:j<b.length):zE4 a b (i*b.length+j)=a[i].ts++b[j].ts:=by
 unfold zE4;rw[show(i*b.length+j)/b.length=i by rw[Nat.mul_comm,Nat.mul_add_div (by omega),Nat.div_eq_of_lt hj];rfl,show(i*b.length+j)%b.length=j by rw[Nat.mul_comm,Nat.mul_add_mod,Nat.mod_eq_of_lt hj]];simp[hi,hj]
theorem zII (a b:List Alt):(zCy a b).length=a.length*b.length:=by simp[zCy]
theorem zXq {a b:List Alt} {x y:D} (hx:zV 1 (yW a) x) (hy:zV 1 (yW b) y) (g:Heap):zA Tryz.prog 232 [x,y] g fun r h'=>h'=g∧r= .fn (.func 267) [] [.iptr [x] 0, .iptr [y] 0]:=by
 refine zA.of_fn (g:=zQE) mix Tryz.func232 zdh rfl rfl ?_;simp only[Tryz.f232,gJ];rcases hx with⟨rfl,_⟩ | ⟨_,rfl⟩
 ·rcases hy with⟨rfl,_⟩ | ⟨_,rfl⟩
  ·repeat' first|simp only[go_sem,zSp, *]|apply bc<;>intro hc
  ·repeat' first|simp only[go_sem,zSp, *]|apply bc<;>intro hc
 ·rcases hy with⟨rfl,_⟩ | ⟨_,rfl⟩
  ·repeat' first|simp only[go_sem,zSp, *]|apply bc<;>intro hc
  ·repeat' first|simp only[go_sem,zSp, *]|apply bc<;>intro hc
set_option maxHeartbeats 2000000 in
theorem zTm {a b:List Alt} {x y:D} (hx:zV 1 (yW a) x) (hy:zV 1 (yW b) y) (ha:∀q∈a,q.Ok) (hb:∀q∈b,q.Ok) (hla:a.length≤4096) (hlb:b.length≤4096)
  {id:Nat} {Y:Nat→(Nat→Prop)→Heap→Prop} (yl:Yld Tryz.prog id (a.length*b.length) (fun k=>[(mkA (zE4 a b k)).d]) Y fun _ _=>False) {S:Nat→Prop} {w:Heap} (hY:Y 0 S w):
  zA Tryz.prog 267 [.yld id, .iptr [x] 0, .iptr [y] 0] w fun _ h'=>∃S',But S w h'∧Y (a.length*b.length) S' h':=by
 have hl1:=zBp hx;have hl2:=zBp hy;obtain⟨x1,x2,_⟩:=zp hx;obtain⟨y1,y2,_⟩:=zp hy;refine zA.of_fn (g:=zQk) mix Tryz.func267 zeK rfl rfl ?_;simp only[Tryz.f267,gJ]
 repeat' first|simp only[go_sem,zKO, *]|apply bc<;>intro hc
 refine zC (fun i fr h'=>fr 0= .yld id∧fr 2= .iptr [y] 0∧fr 8=x∧fr 9= .int .i64 (a.length:Int)∧fr 10= .int .i64 (i:Int)∧∃S',(∀j,S' j→S j∨w.next≤j)∧But S w h'∧Y (i*b.length) S' h') a.length (by omega) ?_ ?_ ?_
 ·have hst:∃S',(∀j,S' j→S j∨w.next≤j)∧But S w w∧Y (0*b.length) S' w:=⟨S,fun j hj=> .inl hj,But.refl S w,by rw[Nat.zero_mul];exact hY⟩;simp only[go_sem,zKO,true_and,and_true,Int.ofNat_zero];exact hst
 ·rintro i fr h1 hlt e1 ew ⟨f0,f2,f8,f9,f10,hS⟩;have a1:=zDE hx hlt;have oka:=ha _ (List.getElem_mem hlt);have hpr:=fun j (hj:j<b.length)=>zRs hlt hj;generalize a[i]=p at *
  obtain⟨p1,p2,_⟩:=zp oka.sl
  repeat' first|simp only[go_sem,zKO, *]|apply bc<;>intro hc
  refine yJ (fun j fr h'=>fr 0= .yld id∧fr 2= .iptr [y] 0∧fr 8=x∧fr 9= .int .i64 (a.length:Int)∧fr 10= .int .i64 (i:Int)∧fr 5=p.d∧fr 14=y∧fr 15= .int .i64 (b.length:Int)∧fr 16= .int .i64 (j:Int)∧∃S',(∀j,S' j→S j∨w.next≤j)∧But S w h'∧Y (i*b.length+j) S' h') b.length ?_ ?_
  ·simp only[go_sem,zKO,true_and,and_true,Int.ofNat_zero];exact⟨f0,f2,f8,f9,f10,hS⟩
  clear hS;rintro j fr2 h2 hj ⟨g0,g2,g8,g9,g10,g5,g14,g15,g16,S',hS1,hS2,hS3⟩;by_cases hlt2:j<b.length
  ·have e2:decide ((j:Int)<(b.length:Int))=true:=decide_eq_true (by omega);have ew2:IntKind.i64.wrap ((j:Int)+1)=((j+1:Nat):Int):=zh (by unfold lim;omega);have b1:=zDE hy hlt2;have okb:=hb _ (List.getElem_mem hlt2);have hpij:=hpr j hlt2;have hk:i*b.length+j<a.length*b.length:=by
    have:i*b.length+b.length≤a.length*b.length:=by rw[←Nat.succ_mul];exact Nat.mul_le_mul_right _ hlt
    omega
   have hgo:=yl.go (i*b.length+j) S' h2 hk hS3;simp only[hpij] at hgo;generalize b[j]=q at *
   obtain⟨q1,q2,_⟩:=zp okb.sl;have hcc:=zRr oka okb h2;have hbs:∀nid:Nat,zU Tryz.prog false nid 30 2 [(0,p.d),(1,q.d)] h2=some (.sl 1 [[p.d],[q.d]] .full,h2):=fun nid=>by
    have:=zGZ (P:=Tryz.prog) (nid:=nid) (h:=h2) (x:=p.d) (y:=q.d) wR zKI wG rfl rfl (by omega) (by omega) p2 (by rw[p1];rfl) q2 (by rw[q1];rfl);rw[p1,q1] at this;exact this
   have hm1:(mkA (p.ts++q.ts)).d.notTuple=true:=rfl;clear oka okb hpr hpij yl hx hy ha hb
   repeat' first|simp only[go_sem,zKO, *]|apply bc<;>intro hc|(refine zA.mono hcc ?_;rintro r h ⟨hq,rfl⟩)
   subst hq;refine hgo.mono ?_;rintro r h3 ⟨S2,k1,k2,k3⟩;rcases k3 with⟨rfl,k3⟩ | ⟨rfl,k3⟩
   ·have hfin:∃S',(∀j,S' j→S j∨w.next≤j)∧But S w h3∧Y (i*b.length+(j+1)) S' h3:=⟨S2,fun i' hi'=>by
     rcases k1 i' hi' with q|q
     ·exact hS1 _ q
     ·exact .inr (by have:=hS2.1;omega),hS2.trans k2 hS1,k3⟩
    clear hS1 hS2 hS3 k1 k2 k3 hgo
    repeat' first|simp only[go_sem,zKO, *]|apply bc<;>intro hc
   ·exact k3.elim
  ·have e2:decide ((j:Int)<(b.length:Int))=false:=decide_eq_false (by omega);have hje:j=b.length:=by omega
   have hfin:∃S',(∀j,S' j→S j∨w.next≤j)∧But S w h2∧Y ((i+1)*b.length) S' h2:=⟨S',hS1,hS2,by rw[Nat.succ_mul,←hje];rw[hje] at hS3⊢;exact hS3⟩;clear hS1 hS2 hS3 yl hje
   repeat' first|simp only[go_sem,zKO, *]|apply bc<;>intro hc
 ·rintro fr h2 e1 ⟨f0,f2,f8,f9,f10,S',hS1,hS2,hS3⟩;have hfin:∃S',But S w h2∧Y (a.length*b.length) S' h2:=⟨S',hS2,hS3⟩;clear hS1 hS2 hS3 yl
  repeat' first|simp only[go_sem,zKO, *]|apply bc<;>intro hc
theorem zNn (l:List (List Trm)):∀c∈yW (l.map mkA),zCD c:=fun c hc=>by
 obtain⟨y,hy,rfl⟩:=List.mem_map.1 hc;obtain⟨z,_,rfl⟩:=List.mem_map.1 hy;exact zK2 z
set_option maxHeartbeats 2000000 in
theorem zK7 {a b:List Alt} {x y:D} (hx:zV 1 (yW a) x) (hy:zV 1 (yW b) y) (ha:∀q∈a,q.Ok) (hb:∀q∈b,q.Ok) (hla:a.length≤256) (hlb:b.length≤256) (g:Heap):
  zA Tryz.prog 266 [.nilsl, .fn (.func 267) [] [.iptr [x] 0, .iptr [y] 0]] g fun r h'=>h'=g∧Fin 1 (yW ((zCy a b).map mkA)) r:=by
 refine zA.pure (by kernel_rfl) fun hok=>zA.strip ?_;refine zA.post fun Q hQ=> ?_;have hPl:(zCy a b).length=a.length*b.length:=zII a b;have hm:a.length*b.length≤65536:=Nat.le_trans (Nat.mul_le_mul hla hlb) (by omega);obtain⟨ps,hps⟩:∃ps,yW ((zCy a b).map mkA)=ps:=⟨_,rfl⟩;have hpl:ps.length=a.length*b.length:=by rw[←hps,yP,List.length_map,hPl]
 have hpe:∀k,k<a.length*b.length→ps[k]? =some [(mkA (zE4 a b k)).d]:=fun k hk=>by
  rw[←hps];simp[yW,zCy,hk]
 have hp1:∀c∈ps,zCD c:=by rw[←hps];exact zNn _
 rw[hps] at hQ;clear hPl hps;refine zA.of_fn (g:=zND) mix Tryz.func266 zd1 rfl rfl ?_;simp only[Tryz.f266,gJ]
 repeat' first|simp only[go_sem,zQT, *]|apply bc<;>intro hc
 simp only[zO];generalize hL:LRec.mk _ _ _ _ _ _ _=L;have yl:Yld Tryz.prog (g.next+1) (a.length*b.length) (fun k=>[(mkA (zE4 a b k)).d]) (zYt g.next 1 L ps) (fun _ _=>False):=by
  refine⟨fun k S h y=>y.here,fun k S h h' y hn hk=>y.loc hn hk,fun S h hz=>hz.elim,fun S h h' hz=>hz.elim,fun i S h3 hi hyy=> ?_⟩;have hc:=hpe i hi;generalize hmm:(mkA (zE4 a b i)).d=m at *
  have hmc:m.cells= [m]∧m.notTuple=true∧m.flat=true:=by rw[←hmm];exact⟨rfl,rfl,rfl⟩
  obtain⟨m1,m2,m3⟩:=hmc;have hone:=fun nid h=>zGy m nid h m1 m2 m3;obtain⟨g1,g2,d,g3,g4,g5⟩:=hyy;subst hL;refine qR.round (g:=zND) mix g2 rfl (by kernel_rfl) (by kernel_rfl) (by kernel_rfl) ?_;simp only[go_sem,zQT];refine⟨g2,?_⟩;generalize hB:LRec.mk .busy _ _ _ _ _ _=B;generalize h5e:Heap.set h3 (g.next+1) (.loop B)=h5;have a1:h5.at' g.next=some (.row [d]):=by rw[←h5e,zG (by omega)];exact g3
  have a3:h5.at' (g.next+1)=some (.loop B):=by rw[←h5e];simp[Heap.set]
  have a4:h5.next=h3.next:=by rw[←h5e,zt]
  have a5:wH h5 1 (ps.take i) d:=g4.loc (by omega) fun j hj=>by
   have:=g4.tok hj;rw[←h5e,zG (fun e=>by subst e;rw[g2] at this;cases this.2)]
  simp only[go_sem,zQT,a1,hone];have htl:(ps.take i).length=i:=by rw[List.length_take];omega
  refine a5.app2 wR zDi wG (by omega) (by simp) (by simp) (by rw[htl,zBI];unfold lim;simp;omega) (by rw[htl];unfold lim;simp;omega) ?_;intro d' h6 b1 b2 b3 b4 b5 b6;have c1:h6.at' g.next=some (.row [d]):=by
   rw[b3 _ (by omega) fun ht=> ?_]
   ·exact a1
   ·have:=(a5.tok ht).2;rw[a1] at this;cases this
  have hst:=zT (P:=Tryz.prog) (off:=0) c1 zMx (by simp) b5 b6;simp only[go_sem,zQT,hst,List.set_cons_zero];have c2:(h6.set g.next (.row [d'])).at' (g.next+1)=some (.loop B):=by
   rw[zG (by omega),b3 _ (by omega) fun ht=> ?_]
   ·exact a3
   ·have:=(a5.tok ht).2;rw[a3] at this;cases this
  refine qp c2 ⟨fun j=>j=g.next∨j=g.next+1∨wS d' j,fun j hj=> ?_,⟨by simp only[go_sem];omega,fun j hj hS=> ?_⟩, .inl ⟨rfl,by simp only[go_sem];omega,?_,d',?_,?_,fun j=>Iff.rfl⟩⟩
  ·rcases hj with rfl|rfl|hj
   ·exact .inl ((g5 _).2 (.inl rfl))
   ·exact .inl ((g5 _).2 (.inr (.inl rfl)))
   ·exact .inr (by have:=b4 j hj;omega)
  ·have n1:j≠g.next:=fun e=>hS ((g5 j).2 (.inl e));have n2:j≠g.next+1:=fun e=>hS ((g5 j).2 (.inr (.inl e)));rw[zG n2,zG n1,b3 j (by omega) (fun ht=>hS ((g5 j).2 (.inr (.inr ht)))),←h5e,zG n2]
  ·rw[zE,←hB]
  ·rw[zG (by omega),zE]
  ·have:ps.take (i+1)=ps.take i++ [[m]]:=by rw[List.take_add_one,hc];rfl
   rw[this];refine b1.loc (Nat.le_refl _) fun j hj=> ?_;have:=b4 j hj;rw[zG (by omega),zG (by omega)]
 refine(zTm hx hy ha hb (by omega) (by omega) yl (S:=fun i=>i=g.next∨i=g.next+1) (w:=(g.new g.next (.row [.nilsl])).new (g.next+1) (.loop L)) ?_).mono ?_
 ·refine⟨?_,zM _ _ _, .nilsl,by rw[zK (by omega),zM], .inl ⟨rfl,rfl⟩,fun j=>by simp[wS]⟩;rw[yD _ (by rw[zO];exact Nat.le_refl _)];omega
 rintro r h2 ⟨S',hb2,hYY⟩;obtain⟨g1,g2,d,g3,g4,g5⟩:=hYY;rw[←hpl,List.take_length] at g4;refine⟨L,g2,?_,?_⟩
 ·rw[←hL];intro e;cases e
 have hp:L.pending=none:=by rw[←hL]
 rw[hp,zBK];have k1:(h2.del (g.next+1)).at' g.next=some (.row [d]):=by rw[qE (by omega)];exact g3
 have hfin:=g4.fin hp1;have hq:=hQ d (h2.del (g.next+1)) ⟨Ext.del (Ext.of_but (((Ext.refl g).new (Nat.le_refl _) _).new (by omega) _) hb2 fun j hj=>by rcases hj with rfl|rfl<;>omega) (by omega),zo (Nat.zero_le _) _ hfin.1,hfin.2⟩;clear hQ hfin g4 g5 hb2 yl hpe hp1
 repeat' first|simp only[go_sem,zQT, *]|apply bc<;>intro hc
theorem zOi {a b:List Alt} {x y:D} (hx:zV 1 (yW a) x) (hy:zV 1 (yW b) y) (ha:∀q∈a,q.Ok) (hb:∀q∈b,q.Ok) (hla:a.length≤256) (hlb:b.length≤256) (g:Heap):
  zA Tryz.prog 231 [.fn (.func 267) [] [.iptr [x] 0, .iptr [y] 0]] g fun r h'=>h'=g∧Fin 1 (yW ((zCy a b).map mkA)) r:=by
 have h1:=zK7 hx hy ha hb hla hlb;refine zA.post fun Q hQ=> ?_;refine zA.of_fn (g:=zP4) mix Tryz.func231 zdO rfl rfl ?_;simp only[Tryz.f231,gJ]
 repeat' first|simp only[go_sem,zZ8, *]|apply bc<;>intro hc
 refine(h1 _).mono ?_;rintro r h ⟨hq,hf⟩;subst hq;have:=hQ r h ⟨rfl,hf⟩;clear hQ hf
 repeat' first|simp only[go_sem,zZ8, *]|apply bc<;>intro hc
def zK8 (l:List (List Trm)):D:= .tuple (if l.length>64 then [.nilsl, .int .i64 10] else [.sl 1 (yW (l.map mkA)) .no, .int .i64 0])
theorem zMN {l:List (List Trm)} (hl:l.length≤1048576) (g:Heap):
  zA Tryz.prog 229 [.sl 1 (yW (l.map mkA)) .no] g fun r h'=>h'=g∧r=zK8 l:=by
 have hlen:=zBp (l:=l.map mkA) (zV.mk .no);rw[List.length_map] at hlen;refine zA.post fun Q hQ=> ?_;have h2:=hQ (zK8 l) g ⟨rfl,rfl⟩;unfold zK8 at h2;clear hQ;refine zA.of_fn (g:=zQs) mix Tryz.func229 zeb rfl rfl ?_;simp only[Tryz.f229,gJ];by_cases hb:l.length>64
 ·rw[if_pos hb] at h2;have e1:decide ((l.length:Int)>64)=true:=decide_eq_true (by omega)
  repeat' first|simp only[go_sem,zay, *]|apply bc<;>intro hc
 ·rw[if_neg hb] at h2;have e1:decide ((l.length:Int)>64)=false:=decide_eq_false (by omega)
  repeat' first|simp only[go_sem,zay, *]|apply bc<;>intro hc
theorem zG0 (l:List Lic):∀x∈zBv l,x.length=4:=fun x hx=>by
 obtain⟨y,_,rfl⟩:=List.mem_map.1 hx;rfl
theorem zTn (x y:Lic) (g:Heap):zA Tryz.prog 258 [.agg x.cells, .agg y.cells] g fun r h'=>h'=g∧r= .int .i64 (zEY x.ver y.ver):=by
 have h1:=zKe x.ver y.ver;refine zA.of_fn (g:=zP6) mix Tryz.func258 zdQ rfl rfl ?_;simp only[Tryz.f258,gJ];simp only[Lic.cells]
 repeat' first|simp only[go_sem,zdP, *]|apply bc<;>intro hc|(refine zA.mono (h1 _) ?_;rintro r h ⟨rfl,rfl⟩)
theorem zXr {l:List Lic} {id:Nat} {g:Heap} (h0:l≠[]) (hl:l.length≤1048576) (hrow:g.at' id=some (.row (zBv l).flatten)):
  zA Tryz.prog 257 [.rs id 4 0 l.length, .fn (.func 258) [] []] g fun r h'=>r= .tuple []∧∃ys:List Lic,ys.Perm l∧h'=g.set id (.row (zBv ys).flatten):=by
 have:=zA.of_sortK (P:=Tryz.prog) (f:=257) (cmp:=258) (k:=4) (cells:=Lic.cells) (xs:=l) (id:=id) (pre:=[]) (post:=[]) (h:=g) (cf:=fun x y=>zEY x.ver y.ver) (mid:=[]) (midV:=[]) (fun M ρ vs h=>by simpa [zl] using h) h0 (by omega) (fun _ _=>rfl) (by kernel_rfl) (enters_of Tryz.func258 (by kernel_rfl) rfl) (by simpa [zBv] using hrow) (zRp.key Lic.ver).swo (by omega)
  (fun x _ y _ H=>zTn x y H) (fun α _ enc h1 h2 cf hO g cb blk off cap d w hg hc hH hb hs hd=>AnyQ.slices_SortFunc Tryz.sortLic 4 (Tryz.isAgg56) (Tryz.sizeOf56) enc h1 h2 cf hO g cb blk off cap d w hg hc hH hb hs)
 refine this.mono fun r h' ⟨e1,ys,hp,hs,e2⟩=>⟨e1,ys,hp,?_⟩;rw[e2];simp[zBv]
def wZ (x y:Lic):Bool:=y.fam==x.fam&&decide (y.ver≥x.ver)
def zCP (c:Cat) (x:Lic):List (List UInt8):=(c.ls.filter (wZ x)).map Lic.name
theorem zK9 {c:Cat} {k:List UInt8} {x:Lic} (h:wp c k=some x):x∈c.ls:=by
 unfold wp at h;split at h
 ·cases h
 ·split at h
  ·exact List.mem_of_getElem? h
  ·cases h
theorem zLA {c:Cat} {x:Lic} (h:x∈c.ls):c.ls.filter (wZ x)≠[]:=fun e=>by
 have:x∈c.ls.filter (wZ x):=List.mem_filter.2 ⟨h,by simp[wZ]⟩;rw[e] at this;cases this
theorem zXs (x:Lic) (nid:Nat) (h:Heap):zU Tryz.prog false nid 22 1 [(0, .agg [.str x.name, .str x.fam, .int .i64 x.ver, .str x.text])] h=some (.sl 4 [x.cells] .full,h):=
 yU (P:=Tryz.prog) (x:= .agg [.str x.name, .str x.fam, .int .i64 x.ver, .str x.text]) zDf zIy zCq rfl rfl (by omega) (by omega) rfl rfl
set_option maxHeartbeats 4000000 in
theorem zXt {c:Cat} {d:D} (hc:qt c d) (hs:c.Sm) {k:List UInt8} {x:Lic} (hf:wp c k=some x) (g:Heap):
  zA Tryz.prog 228 [d, .str k] g fun r h'=>h'=g∧∃ns,ns.Perm (zCP c x)∧r= .tuple [.sl 1 (zy ns) .no, .int .i64 0]:=by
 have hfi:=zKs hc hs k;have hfd:zBO c k= .tuple [.agg [.str x.name, .str x.fam, .int .i64 x.ver, .str x.text], .bool true]:=by unfold zBO;rw[hf]
 rw[hfd] at hfi;clear hfd;refine zA.pure (by kernel_rfl) fun hok'=>zA.strip ?_;refine zA.post fun Q hQ=> ?_;have hxm:=zK9 hf;have s1:=hs.ls.1;obtain⟨a,b,e,p,rfl,ha,hb,he,hp⟩:=hc;have hlen:=ww ha;have hv4:∀a b c e:D,zW true 4 [a,b,c,e] 0=some (.agg [a,b,c,e]):=fun a b c e=>zB rfl (by omega);have hst0:=zBw x;obtain⟨G0,hG0,r0,E0,n0⟩:∃G,g.new g.next (.row [.str x.name, .str x.fam, .int .i64 x.ver, .str x.text])=G∧G.at' g.next=some (.row [.str x.name, .str x.fam, .int .i64 x.ver, .str x.text])∧Ext g G∧g.next<G.next:=⟨_,rfl,zM _ _ _,(Ext.refl g).new (Nat.le_refl _) _,by rw[zO];omega⟩
 refine zA.of_fn (g:=zQg) mix Tryz.func228 zeG rfl rfl ?_;simp only[Tryz.f228,gJ]
 repeat' first|simp only[go_sem,zGM, *]|apply bc<;>intro hc|(refine zA.mono (hfi _) ?_;rintro r h ⟨hq,rfl⟩)
 clear hst0 hfi hb he hp;refine zC (fun i fr h=>∃s,fr 6= .ptr g.next 0∧fr 23=a∧fr 24= .int .i64 (c.ls.length:Int)∧fr 25= .int .i64 (i:Int)∧fr 8=s∧zLJ G0 h 4 (zBv ((c.ls.take i).filter (wZ x))) s) c.ls.length (by omega) ?_ ?_ ?_
 ·have hs0:=zLJ.start (Ext.refl G0) 4;simp only[go_sem,zGM,true_and,and_true,Int.ofNat_zero];exact⟨_,rfl,hs0⟩
 ·rintro i fr h2 hlt ec ew ⟨s,f6,f23,f24,f25,f8,ho⟩;have a1:=wW ha hlt;have htk:(c.ls.take (i+1)).filter (wZ x)=(c.ls.take i).filter (wZ x)++ [c.ls[i]].filter (wZ x):=by rw[List.take_succ_eq_append_getElem hlt,List.filter_append]
  have hli:((c.ls.take i).filter (wZ x)).length≤i:=Nat.le_trans (List.length_filter_le _ _) (by rw[List.length_take];omega);rw[htk];clear htk;generalize c.ls[i]=y at *
  generalize(c.ls.take i).filter (wZ x)=pre at *
  have hst:=zBw y h2 h2.next;have r1:(h2.new h2.next (.row [.str y.name, .str y.fam, .int .i64 y.ver, .str y.text])).at' g.next=some (.row [.str x.name, .str x.fam, .int .i64 x.ver, .str x.text]):=by
   rw[zK (by have:=ho.1.1;omega),ho.1.2 _ n0];exact r0
  have r2:(h2.new h2.next (.row [.str y.name, .str y.fam, .int .i64 y.ver, .str y.text])).at' h2.next=some (.row [.str y.name, .str y.fam, .int .i64 y.ver, .str y.text]):=zM _ _ _;have hoN:=ho.ext ((Ext.refl h2).new (Nat.le_refl _) (.row [.str y.name, .str y.fam, .int .i64 y.ver, .str y.text]));simp only[Lic.cells] at a1;have hone:=zXs y;generalize h2.new h2.next (.row [.str y.name, .str y.fam, .int .i64 y.ver, .str y.text])=H at *
  obtain⟨d',G,hap,hoG,htr⟩:=hoN.app (P:=Tryz.prog) (ys:=zBv [y]) (tk:= .full) zDf zWH zCq (by omega) (fun cs=>zBg Tryz.underlying56) (zG0 _) (zG0 _) (by simp[zBv]) (by rw[zAo,zPu];unfold lim;simp[zBv];omega) (by rw[zAo];unfold lim;simp[zBv];omega);have hal:zBv [y]= [y.cells]:=rfl;rw[hal] at hap htr hoG;have hla:zBv (pre++ [y])=zBv pre++ [y.cells]:=by simp[zBv]
  rw[←hla] at hoG;clear ho hla hal hQ hlen ha E0 hG0 r0;cases q1:(y.fam==x.fam) with
  |false=>
   have hfl:pre++ [y].filter (wZ x)=pre:=by simp[wZ,q1]
   rw[hfl];clear hfl hap htr hoG
   repeat' first|simp only[go_sem,zGM, *]|apply bc<;>intro hc
   exact⟨_,rfl,hoN⟩
  |true=>
   cases q2:decide (y.ver≥x.ver) with
   |false=>
    have hfl:pre++ [y].filter (wZ x)=pre:=by simp only[List.filter_cons,wZ,q1,q2];simp
    rw[hfl];clear hfl hap htr hoG
    repeat' first|simp only[go_sem,zGM, *]|apply bc<;>intro hc
    exact⟨_,rfl,hoN⟩
   |true=>
    have hfl:pre++ [y].filter (wZ x)=pre++ [y]:=by simp only[List.filter_cons,wZ,q1,q2];simp
    rw[hfl];clear hfl hoN
    repeat' first|simp only[go_sem,zGM, *]|apply bc<;>intro hc
    exact⟨_,rfl,hoG⟩
 ·rintro fr h2 ec ⟨s,f6,f23,f24,f25,f8,ho⟩;rw[List.take_length] at ho;have hne:=zLA hxm;have hnl:(c.ls.filter (wZ x)).length≤1048576:=Nat.le_trans (List.length_filter_le _ _) s1;have hS:zCP c x=(c.ls.filter (wZ x)).map Lic.name:=rfl;rw[hS] at hQ;clear hS;generalize c.ls.filter (wZ x)=L at *
  obtain⟨hx,hc⟩:=ho;rcases hc with⟨_,e⟩ | ⟨id,rfl,hrow,hid,hidn,_⟩
  ·exact absurd (by simpa [zBv] using e) hne
  rw[zAo] at f8;have hso:=zXr hne hnl hrow;have hQ2:∀ (ys:List Lic) r h',ys.Perm L→Ext g h'→below g.next (yI r)→Fin 1 (zy (ys.map Lic.name)) (yI r)→Q (.tuple [r, .int .i64 0]) h':=fun ys r h' q0 q1 q2 q3=>by
   refine hQ _ _ ⟨q1,?_,?_⟩
   ·simp only[yI,yS,below,zz];exact⟨q2,trivial,trivial⟩
   ·refine⟨ys.map Lic.name,q0.map _,?_⟩;rcases q3 with⟨_,e⟩ |e
    ·have:ys= []:=by simpa [zy] using e
     subst this;exact absurd (List.nil_perm.1 q0) hne
    ·simp only[yI,yS,e]
  clear hQ hxm hlen ha;have hxid:g.next≤id:=Nat.le_trans E0.1 hid
  repeat' first|simp only[go_sem,zGM, *]|apply bc<;>intro hc
  refine hso.mono ?_;rintro r h3 ⟨rfl,ys,hp,rfl⟩;have hyl:=hp.length_eq;have r1:(h2.set id (.row (zBv ys).flatten)).at' id=some (.row (zBv ys).flatten):=zE _ _ _;have hE1:Ext g (h2.set id (.row (zBv ys).flatten)):=(E0.trans hx).set hxid _;have hidn2:id<(h2.set id (.row (zBv ys).flatten)).next:=hidn;generalize h2.set id (.row (zBv ys).flatten)=H at *
  have hvl:=fun(h:Heap)=>zGR (P:=Tryz.prog) (t:=22) (sz:=4) (id:=id) (off:=0) (len:=L.length) (h:=h) Tryz.underlying22;have hQ3:=fun r h'=>hQ2 ys r h' hp;clear hQ2 hso hrow hx E0 hG0 r0
  repeat' first|simp only[go_sem,zGM, *]|apply bc<;>intro hc
  refine zC (fun i fr h=>∃o,fr 48= .rs id 4 0 L.length∧fr 49= .int .i64 (L.length:Int)∧fr 50= .int .i64 (i:Int)∧fr 11=o∧Own H h 1 (zy ((ys.take i).map Lic.name)) o) L.length (by omega) ?_ ?_ ?_
  ·have hs:=Own.start (Ext.refl H) 1;simp only[go_sem,zGM,true_and,and_true,Int.ofNat_zero];exact⟨_,rfl,hs⟩
  ·rintro i fr h3 hlt ec ew ⟨o,f48,f49,f50,f11,ho⟩;have hlt':i<ys.length:=by omega
   have a1:=qN (P:=Tryz.prog) (sz:=4) (id:=id) zDf zCq (k:= .i64) hlt;have hrow2:h3.at' id=some (.row (zBv ys).flatten):=by rw[ho.1.2 _ hidn2];exact r1
   have p1:=zCZ (zG0 ys) (by omega) (zNd hlt');have htk:(ys.take (i+1)).map Lic.name=(ys.take i).map Lic.name++ [ys[i].name]:=by rw[List.take_succ_eq_append_getElem hlt',List.map_append];rfl
   have hli:((ys.take i).map Lic.name).length=i:=by rw[List.length_map,List.length_take];omega
   rw[htk];clear htk;generalize ys[i]=y at *
   generalize(ys.take i).map Lic.name=pre at *
   simp only[Lic.cells] at p1;have hst:=zBw y h3 h3.next;have hoN:=ho.ext ((Ext.refl h3).new (Nat.le_refl _) (.row [.str y.name, .str y.fam, .int .i64 y.ver, .str y.text]));have r2:(h3.new h3.next (.row [.str y.name, .str y.fam, .int .i64 y.ver, .str y.text])).at' h3.next=some (.row [.str y.name, .str y.fam, .int .i64 y.ver, .str y.text]):=zM _ _ _;have hone:=zCG y.name;generalize h3.new h3.next (.row [.str y.name, .str y.fam, .int .i64 y.ver, .str y.text])=h4 at *
   clear hQ3 ho r1 hE1 hidn2
   repeat' first|simp only[go_sem,zGM, *]|apply bc<;>intro hc
   refine hoN.appH (ys:=zy [y.name]) zi zCp qH (by omega) zDq (by simp[zy]) (by rw[zH,wv,hli];unfold lim;simp[zy];omega) (by rw[zH,hli];unfold lim;simp[zy];omega) fun d' h' ho'=> ?_;have ho2:Own H h' 1 (zy (pre++ [y.name])) d':=by
    have:zy (pre++ [y.name])=zy pre++zy [y.name]:=by simp[zy]
    rw[this];exact ho'
   clear hoN ho'
   repeat' first|simp only[go_sem,zGM, *]|apply bc<;>intro hc
   exact⟨_,rfl,ho2⟩
  ·rintro fr h3 ec ⟨o,f48,f49,f50,f11,ho⟩;rw[←hyl,List.take_length] at ho;have hfin:=ho.2.1.fin yh;have hq:=hQ3 o h3 (hE1.trans ho.1) (zo (Nat.zero_le _) _ hfin.1) hfin.2;clear hQ3 hfin ho
   repeat' first|simp only[go_sem,zGM, *]|apply bc<;>intro hc
def szd (l:List (List Trm)):Option (List (List Trm)):=if l.length>64 then none else some l
def zCQ (a b:List (List Trm)):List (List Trm):=zCy (a.map mkA) (b.map mkA)
mutual
def zD6 (c:Cat):Ex→Option (List (List Trm))
 | .mk k n x l _=>if(k==0)=true then some [[⟨n,x⟩]] else if(k==1)=true then(match wp c n with
   |none=>none
   |some y=>szd (yK ((zCP c y).map fun s=>[⟨s,[]⟩])))
  else match zDF c k l true [] with
   |none=>none
   |some out=>szd (yK out)
def zDF (c:Cat) (k:Int):List Ex→Bool→List (List Trm)→Option (List (List Trm))
 | [],_,out=>some out
 |e::es,first,out=>match zD6 c e with
  |none=>none
  |some l=>if(k==3)=true then zDF c k es false (out++l) else if first=true then zDF c k es false l else match szd (yK (zCQ out l)) with
   |none=>none
   |some o=>zDF c k es false o
end
def Ex.Fit (c:Cat) (e:Ex):Prop:=∀x∈e.pre,x.err=0∧zRW c x=0
theorem zNo:∀ {l:List Ex} {e x:Ex},e∈l→x∈e.pre→x∈zFd l
 |a::l,e,x,h,hx=>by
  simp only[zFd];rcases List.mem_cons.1 h with rfl|h
  ·exact List.mem_append_left _ hx
  ·exact List.mem_append_right _ (zNo h hx)
theorem Ex.Fit.kid {c:Cat} {e k:Ex} (h:e.Fit c) (hk:k∈e.kids):k.Fit c:=fun x hx=>by
 obtain⟨kd,n,ex,l,d⟩:=e;exact h x (by simp only[Ex.pre];exact List.mem_cons_of_mem _ (zNo hk hx))
theorem Ex.Fit.self {c:Cat} {e:Ex} (h:e.Fit c):e.err=0∧zRW c e=0:=by
 obtain⟨kd,n,ex,l,d⟩:=e;exact h _ (by simp only[Ex.pre];exact List.mem_cons_self)
theorem zD7 {f:Nat→Int} :∀ {n:Nat},zED f n=0→∀i,i<n→f i=0
 |n+1,h,i,hi=>by
  simp only[zED] at h;split at h
  ·rename_i q;rcases Nat.lt_succ_iff_lt_or_eq.1 hi with g|rfl
   ·exact zD7 (by simpa using q) i g
   ·exact h
  ·rename_i q;exact absurd (by simpa using h) q
theorem zRt {c:Cat} {e:Ex} (h:wr c e=0):wX c=0∧e.size≤64∧e.Fit c:=by
 unfold wr at h;split at h
 ·exact absurd h (by decide)
 rename_i q1;split at h
 ·rename_i q;rw[h] at q;exact absurd q (by decide)
 rename_i q2;have f0:zCI e=0:=by simpa using q2
 unfold zCI at f0;split at f0
 ·exact absurd f0 (by decide)
 rename_i q3;split at f0
 ·exact absurd f0 (by decide)
 refine⟨by simpa using q1,by simp at q3;omega,fun x hx=> ?_⟩;obtain⟨i,hi,rfl⟩:=List.mem_iff_getElem.1 hx;rw[e.pre_len] at hi;have h1:=zD7 f0 i hi;have h2:=zD7 h i hi;have hg:e.pre.getD i e=e.pre[i]'(by rw[e.pre_len];exact hi):=by rw[List.getD_eq_getElem?_getD,List.getElem?_eq_getElem];rfl
 unfold Ex.errAt at h1;unfold Ex.unk at h2;rw[hg] at h1 h2;exact⟨h1,h2⟩
theorem zNp {c:Cat} {k:Int} {n x:List UInt8} {l:List Ex} {d:D} (h:(Ex.mk k n x l d).Fit c):((k=0∨k=1)∧l= []∧(k=1→x= [])∧∃y,wp c n=some y)∨((k=2∨k=3)∧2≤l.length):=by
 obtain⟨h1,h2⟩:=h.self;replace h1:zGo k n x l.length=0:=h1;unfold zGo at h1;by_cases q:((k==0)||(k==1))=true
 ·left;rw[if_pos q] at h1;by_cases q1:(decide ((l.length:Int)>0)||((k==1)&& !(x== [])))=true
  ·rw[if_pos q1] at h1;exact absurd h1 (by decide)
  rw[if_neg q1] at h1;by_cases q2:(!yk n||(!(x== [])&& !yk x))=true
  ·rw[if_pos q2] at h1;exact absurd h1 (by decide)
  simp only[Bool.or_eq_true,beq_iff_eq,decide_eq_true_eq,Bool.and_eq_true,Bool.not_eq_true',not_or,not_and,Bool.not_eq_false,beq_eq_false_iff_ne] at q q1 q2;refine⟨q,List.length_eq_zero_iff.1 (by omega),fun e=>by simpa using q1.2 e,?_⟩;replace h2:(if(!(n== [])&& !zHP c n x)=true then(7:Int) else 0)=0:=h2
  by_cases q3:(!(n== [])&& !zHP c n x)=true
  ·rw[if_pos q3] at h2;exact absurd h2 (by decide)
  have hn:¬(n== [])=true:=fun e=>by
   have:n= []:=by simpa using e
   subst this;exact absurd q2.1 (by decide)
  have hk:zHP c n x=true:=by
   cases hh:zHP c n x with
   |true=>rfl
   |false=>exact absurd (by simp[hh,hn]) q3
  unfold zHP at hk;simp only[Bool.and_eq_true] at hk;exact Option.isSome_iff_exists.1 hk.1
 ·rw[if_neg q] at h1;by_cases q1:((k==2)||(k==3))=true
  ·rw[if_pos q1] at h1;right;by_cases q2:(decide ((l.length:Int)<2)|| !(n== [])|| !(x== []))=true
   ·rw[if_pos q2] at h1;exact absurd h1 (by decide)
   simp only[Bool.or_eq_true,beq_iff_eq,decide_eq_true_eq,Bool.not_eq_true',not_or] at q1 q2;exact⟨q1,by omega⟩
  ·rw[if_neg q1] at h1;exact absurd h1 (by decide)
theorem zNq {l:List (List Trm)} (h:l≠[]):∀n,0<n→n≤l.length→zBq l n≠[]
 |1,_,hn=>by
  rw[zBq,List.getElem?_eq_getElem (by omega)];simp[zBq,zCN]
 |n+2,_,hn=>by
  have ih:=zNq h (n+1) (by omega) (by omega);rw[zBq,List.getElem?_eq_getElem (by omega)];simp only[zCN];split
  ·exact ih
  ·simp
theorem zG1 {l:List (List Trm)} (h:l≠[]):yK l≠[]:=by
 have hl:(qv l).length=l.length:=by rw[qv,(wY _).length_eq,List.length_map]
 have hp:0<l.length:=List.length_pos_iff.2 h;exact zNq (fun e=>by rw[e] at hl;simp at hl;omega) _ (by omega) (Nat.le_refl _)
theorem zCR (l:List (List Trm)):(yK l).length≤l.length:=by
 have hl:(qv l).length=l.length:=by rw[qv,(wY _).length_eq,List.length_map]
 have:=zGx (l:=qv l) (qv l).length;rw[hl] at this;unfold yK;rw[hl];exact this
theorem zJT {l m:List (List Trm)} (h:l.Perm m):yK l=yK m:=by
 unfold yK qv;rw[zRi zGw zK4 (h.map zAC)]
theorem zFg {l m:List (List Trm)} (h:szd l=some m):m=l∧l.length≤64:=by
 unfold szd at h;split at h
 ·cases h
 ·cases h;exact⟨rfl,by omega⟩
structure AltsOk (n:Nat) (l:List (List Trm)):Prop where
 ne:l≠[]
 ts:∀t∈l,t≠[]∧t.length≤n
theorem AltsOk.mono {n m:Nat} {l:List (List Trm)} (h:AltsOk n l) (hn:n≤m):AltsOk m l:=⟨h.ne,fun t ht=>⟨(h.ts t ht).1,Nat.le_trans (h.ts t ht).2 hn⟩⟩
theorem AltsOk.min {n:Nat} {l:List (List Trm)} (h:AltsOk n l):AltsOk n (yK l):=⟨zG1 h.ne,fun t ht=>by
 obtain⟨y,hy,rfl⟩:=zK6 ht;obtain⟨h1,h2⟩:=h.ts y hy;exact⟨zNl h1,Nat.le_trans (zK5 _) h2⟩⟩
theorem AltsOk.app {n:Nat} {l m:List (List Trm)} (h:∀t∈l,t≠[]∧t.length≤n) (k:AltsOk n m):AltsOk n (l++m):=⟨fun e=>k.ne (List.append_eq_nil_iff.1 e).2,fun t ht=>by
 rcases List.mem_append.1 ht with q|q
 ·exact h t q
 ·exact k.ts t q⟩
theorem zOj {a b:List (List Trm)} {t:List Trm} (h:t∈zCQ a b):∃x∈a,∃y∈b,t=x++y:=by
 unfold zCQ zCy at h;obtain⟨k,hk,rfl⟩:=List.mem_map.1 h;rw[List.mem_range,List.length_map,List.length_map] at hk;have hb:0<b.length:=by
  rcases Nat.eq_zero_or_pos b.length with e|e
  ·rw[e,Nat.mul_zero] at hk;omega
  ·exact e
 have h1:k/b.length<a.length:=by rw[Nat.div_lt_iff_lt_mul hb];exact hk
 have h2:k%b.length<b.length:=Nat.mod_lt _ hb;refine⟨a[k/b.length],List.getElem_mem _,b[k%b.length],List.getElem_mem _,?_⟩;simp[zE4,h1,h2,mkA]
theorem zIJ (a b:List (List Trm)):(zCQ a b).length=a.length*b.length:=by rw[zCQ,zII,List.length_map,List.length_map]
theorem AltsOk.pairs {n m:Nat} {a b:List (List Trm)} (h:AltsOk n a) (k:AltsOk m b):AltsOk (n+m) (zCQ a b):=by
 refine⟨fun e=> ?_,fun t ht=> ?_⟩
 ·have:=zIJ a b;rw[e] at this;have h1:0<a.length:=List.length_pos_iff.2 h.ne;have h2:0<b.length:=List.length_pos_iff.2 k.ne;have:=Nat.mul_pos h1 h2;simp at *;omega
 ·obtain⟨x,hx,y,hy,rfl⟩:=zOj ht;have h1:=h.ts x hx;have h2:=k.ts y hy;exact⟨fun e=>h1.1 (List.append_eq_nil_iff.1 e).1,by rw[List.length_append];omega⟩
theorem zG2 {c:Cat} {n:List UInt8} {y:Lic} (h:wp c n=some y):zCP c y≠[]:=fun e=>zLA (zK9 h) (List.map_eq_nil_iff.1 e)
theorem zMO {c:Cat} :∀n:Nat,(∀e:Ex,e.size≤n→e.Fit c→∀l,zD6 c e=some l→l.length≤64∧AltsOk e.size l)∧
  ∀ (k:Int) (es:List Ex),z7 es≤n→(∀e∈es,e.Fit c)→∀ (m:Nat) (first:Bool) (out R:List (List Trm)),(∀t∈out,t≠[]∧t.length≤m)→(first=false→out≠[])→(es= []→out≠[])→zDF c k es first out=some R→AltsOk (m+z7 es) R∧R.length≤out.length+64*es.length:=by
 intro n
 induction n with
 |zero=>
  refine⟨fun e h=> ?_,fun k es h hf m first out R h1 h2 h3 hR=> ?_⟩
  ·cases e;simp only[Ex.size] at h;omega
  ·cases es with
   |nil=>simp only[zDF] at hR;cases hR;exact⟨⟨h3 rfl,by simpa [z7] using h1⟩,by simp⟩
   |cons e l=>cases e;simp only[z7,Ex.size] at h;omega
 |succ n ih=>
  have key:∀e:Ex,e.size≤n+1→e.Fit c→∀l,zD6 c e=some l→l.length≤64∧AltsOk e.size l:=fun e h hf l hl=>by
   obtain⟨k,nm,x,es,d⟩:=e;simp only[Ex.size] at h⊢;have hk:=zNp hf;rw[zD6] at hl;split at hl
   ·cases hl;exact⟨by simp,by simp,fun t ht=>by cases List.mem_singleton.1 ht;exact⟨by simp,by simp⟩⟩
   split at hl
   ·split at hl
    ·cases hl
    ·rename_i y hy;obtain⟨rfl,h64⟩:=zFg hl;refine⟨h64,AltsOk.min ⟨by simpa using zG2 hy,fun t ht=> ?_⟩⟩;obtain⟨s,_,rfl⟩:=List.mem_map.1 ht;exact⟨by simp,by simp⟩
   ·rename_i q0 q1;split at hl
    ·cases hl
    ·rename_i out hout;obtain⟨rfl,h64⟩:=zFg hl;have hk2:2≤es.length:=by
      rcases hk with⟨q,_⟩ | ⟨_,q⟩
      ·rcases q with rfl|rfl
       ·exact absurd rfl q0
       ·exact absurd rfl q1
      ·exact q
     have:=ih.2 k es (by omega) (fun e he=>hf.kid he) 0 true [] out (fun t ht=>by cases ht) (by simp) (fun e=>by subst e;simp at hk2) hout;exact⟨h64,this.1.min.mono (by omega)⟩
  refine⟨key,fun k es h hf m first out R h1 h2 h3 hR=> ?_⟩
  cases es with
  |nil=>simp only[zDF] at hR;cases hR;exact⟨⟨h3 rfl,by simpa [z7] using h1⟩,by simp⟩
  |cons e es=>
   have hesz:0<e.size:=by cases e;simp only[Ex.size];omega
   simp only[z7] at h⊢;rw[zDF] at hR;split at hR
   ·cases hR
   ·rename_i l hl;obtain⟨hl64,hlok⟩:=key e (by omega) (hf e (by simp)) l hl;have hfs:∀e∈es,e.Fit c:=fun x hx=>hf x (List.mem_cons_of_mem _ hx);split at hR
    ·have hq:=AltsOk.app (n:=m+e.size) (fun t ht=>⟨(h1 t ht).1,Nat.le_trans (h1 t ht).2 (by omega)⟩) (hlok.mono (show e.size≤m+e.size by omega));have:=ih.2 k es (by omega) hfs (m+e.size) false (out++l) R hq.ts (fun _=>hq.ne) (fun _=>hq.ne) hR;refine⟨this.1.mono (by omega),?_⟩;have q:=this.2;rw[List.length_append] at q;simp only[List.length_cons];omega
    ·split at hR
     ·have hq:=hlok.mono (show e.size≤m+e.size by omega);have:=ih.2 k es (by omega) hfs (m+e.size) false l R hq.ts (fun _=>hq.ne) (fun _=>hq.ne) hR;refine⟨this.1.mono (by omega),?_⟩;have q:=this.2;simp only[List.length_cons];omega
     ·rename_i hfirst;have hone:out≠[]:=h2 (by simpa using hfirst);split at hR
      ·cases hR
      ·rename_i o ho;obtain⟨rfl,ho64⟩:=zFg ho;have hq:=(AltsOk.pairs ⟨hone,h1⟩ hlok).min;have:=ih.2 k es (by omega) hfs (m+e.size) false _ R hq.ts (fun _=>hq.ne) (fun _=>hq.ne) hR;refine⟨this.1.mono (by omega),?_⟩;have q:=this.2;simp only[List.length_cons];omega
def zHR:Option (List (List Trm))→D
 |some l=> .tuple [.sl 1 (yW (l.map mkA)) .no, .int .i64 0]
 |none=> .tuple [.nilsl, .int .i64 10]
theorem zEe (l:List (List Trm)):zK8 l=zHR (szd l):=by
 unfold zK8 szd;split<;>rfl
theorem zIK (l:List (List Trm)):yI (.sl 1 (yW (l.map mkA)) .no)= .sl 1 (yW (l.map mkA)) .no∧below 0 (.sl 1 (yW (l.map mkA)) .no):=yV (zNn l) .no
theorem zBR (o:Option (List (List Trm))) (n:Nat):yI (zHR o)=zHR o∧below n (zHR o):=by
 cases o with
 |none=>exact⟨rfl,by simp[zHR,below,zz]⟩
 |some l=>
  obtain⟨h1,h2⟩:=zIK l;refine⟨?_,?_⟩
  ·simp only[zHR,yI,yS] at h1⊢;rw[h1]
  ·simp only[zHR,below,zz];exact⟨zo (Nat.zero_le _) _ h2,trivial,trivial⟩
def zNr (s x:List UInt8):Alt:=⟨[⟨s,x⟩], .sl 2 [[.str s, .str x]] .full⟩
theorem zXu (s x:List UInt8):(zNr s x).Ok:=⟨zV.mk .full,by simp[zNr],by simp[zNr]⟩
theorem zbo (s x:List UInt8):yc Tryz.prog 51 [(0, .str s),(1, .str x)]=some (.agg [.str s, .str x]):=by simp[yc,zET,zBf,wO,D.notTuple,D.cells,yu]
theorem zbp (s:List UInt8):yc Tryz.prog 51 [(0, .str s)]=some (.agg [.str s, .str []]):=by simp[yc,zET,zBf,wO,D.notTuple,D.cells,yu]
theorem zRu (s x:List UInt8) (nid:Nat) (h:Heap):zU Tryz.prog false nid 168 1 [(0, .agg [.str s, .str x])] h=some (.sl 2 [[.str s, .str x]] .full,h):=
 yU (P:=Tryz.prog) (x:= .agg [.str s, .str x]) yT zBf wL rfl rfl (by omega) (by omega) rfl rfl
def zCh (c:Cat) (e:Ex):D:=zHR (zD6 c e)
set_option maxHeartbeats 4000000 in
theorem zOk {c:Cat} {d:D} (hc:qt c d) {n x:List UInt8} {y:D} (g:Heap):
  zA Tryz.prog 197 [d, .agg [.int .i64 0, .str n, .str x,y]] g fun r h'=>h'=g∧r=zHR (some [[⟨n,x⟩]]):=by
 refine zA.pure (by kernel_rfl) fun hok'=>zA.strip ?_;refine zA.post fun Q hQ=> ?_;obtain⟨ca,cb,ce,cp,rfl,_,_,_,_⟩:=hc;have hv4:∀a b c e:D,zW true 4 [a,b,c,e] 0=some (.agg [a,b,c,e]):=fun a b c e=>zB rfl (by omega);have h1:=zbo n x;have h2:=zRu n x;have h3:=fun nid h=>zGy (.sl 2 [[.str n, .str x]] .full) nid h rfl rfl rfl;have hq:=hQ (.tuple [.sl 1 [[.sl 2 [[.str n, .str x]] .full]] .full, .int .i64 0]) g ⟨Ext.refl g,by
  simp[yI,yS,zBt,below,zz,zBG],by simp[yI,yS,zBt,zHR,yW,mkA,qJ,Trm.cells]⟩
 clear hQ;refine zA.of_fn (g:=zHx) mix Tryz.func197 zSo rfl rfl ?_;simp only[Tryz.f197,gJ]
 repeat' first|simp only[go_sem,zAl, *]|apply bc<;>intro hc
set_option maxHeartbeats 4000000 in
theorem zOl {c:Cat} {d:D} (hc:qt c d) (hs:c.Sm) {n x:List UInt8} {z:Lic} (hf:wp c n=some z) {y:D} (g:Heap):
  zA Tryz.prog 197 [d, .agg [.int .i64 1, .str n, .str x,y]] g fun r h'=>h'=g∧r=zHR (szd (yK ((zCP c z).map fun s=>[⟨s,[]⟩]))):=by
 have hla:=zXt hc hs hf;have hsl:=hs.ls.1;have hne:=zG2 hf;have hll:(zCP c z).length≤c.ls.length:=by rw[zCP,List.length_map];exact List.length_filter_le _ _
 refine zA.pure (by kernel_rfl) fun hok'=>zA.strip ?_;refine zA.post fun Q hQ=> ?_;obtain⟨ca,cb,ce,cp,rfl,_,_,_,_⟩:=hc;have hv4:∀a b c e:D,zW true 4 [a,b,c,e] 0=some (.agg [a,b,c,e]):=fun a b c e=>zB rfl (by omega);have hE0:=Own.start (Ext.refl g) 1;have hle:∀ (ns:List (List UInt8)) (h:Heap),zBU Tryz.prog 31 (.sl 1 (zy ns) .no) h=some (.int .i64 ns.length):=fun ns h=>yE (zV.mk .no) h;have hat:∀ (ns:List (List UInt8)) (i:Nat) (hi:i<ns.length),zQ Tryz.prog 31 (.sl 1 (zy ns) .no) (.int .i64 (i:Int))=some (.iptr [.str ns[i]] 0):=fun ns i hi=>qI (zV.mk .no) hi
 refine zA.of_fn (g:=zHx) mix Tryz.func197 zSo rfl rfl ?_;simp only[Tryz.f197,gJ]
 repeat' first|simp only[go_sem,zAl, *]|apply bc<;>intro hc
 refine(hla _).mono ?_;rintro r h ⟨hq,ns,hp,rfl⟩;subst hq;have hnl:ns.length≤1048576:=by rw[hp.length_eq];omega
 have hns:ns≠[]:=fun e=>by subst e;exact hne (List.nil_perm.1 hp)
 have hl1:=hle ns;clear hle hla
 repeat' first|simp only[go_sem,zAl, *]|apply bc<;>intro hc
 refine zC (fun i fr h2=>∃o,fr 35= .sl 1 (zy ns) .no∧fr 36= .int .i64 (ns.length:Int)∧fr 37= .int .i64 (i:Int)∧fr 6=o∧Own h h2 1 (yW ((ns.take i).map fun s=>zNr s [])) o) ns.length (by omega) ?_ ?_ ?_
 ·simp only[go_sem,zAl,true_and,and_true,Int.ofNat_zero];exact⟨_,rfl,hE0⟩
 ·rintro i fr h2 hlt ec ew ⟨o,f35,f36,f37,f6,ho⟩;have a1:=hat ns i hlt;have htk:(ns.take (i+1)).map (fun s=>zNr s [])=(ns.take i).map (fun s=>zNr s [])++ [zNr ns[i] []]:=by rw[List.take_succ_eq_append_getElem hlt,List.map_append];rfl
  have hli:((ns.take i).map fun s=>zNr s []).length=i:=by rw[List.length_map,List.length_take];omega
  rw[htk];clear htk hQ hat hp;generalize ns[i]=s at *
  generalize(ns.take i).map (fun s=>zNr s [])=pre at *
  have b1:=zbp s;have b2:=zRu s [];have b3:=fun nid h=>zGy (.sl 2 [[.str s, .str []]] .full) nid h rfl rfl rfl
  repeat' first|simp only[go_sem,zAl, *]|apply bc<;>intro hc
  refine ho.appH (ys:=yW [zNr s []]) wR zDi wG (by omega) (zD5 _) (by simp[yW]) (by rw[yP,zBI,hli];unfold lim;simp[yW];omega) (by rw[yP,hli];unfold lim;simp[yW];omega) fun d' h' ho'=> ?_;have ho2:Own h h' 1 (yW (pre++ [zNr s []])) d':=by
   have:yW (pre++ [zNr s []])=yW pre++yW [zNr s []]:=by simp[yW]
   rw[this];exact ho'
  clear ho ho'
  repeat' first|simp only[go_sem,zAl, *]|apply bc<;>intro hc
  exact⟨_,rfl,ho2⟩
 ·rintro fr h2 ec ⟨o,f35,f36,f37,f6,ho⟩;rw[List.take_length] at ho;have hmi:=zGz ho.isSl (by simpa using hns) (by rw[List.length_map];omega) (fun a ha=>by
   obtain⟨s,_,rfl⟩:=List.mem_map.1 ha;exact zXu s [])
  have hmm:yK ((ns.map fun s=>zNr s []).map Alt.ts)=yK ((zCP c z).map fun s=>[⟨s,[]⟩]):=by
   rw[List.map_map];exact zJT (hp.map _)
  rw[hmm] at hmi;have hm0:yK ((zCP c z).map fun s=>[⟨s,[]⟩])≠[]:=zG1 (by simpa using hne);have hml:(yK ((zCP c z).map fun s=>[⟨s,[]⟩])).length≤1048576:=by
   refine Nat.le_trans (zCR _) ?_;rw[List.length_map];omega
  generalize yK ((zCP c z).map fun s=>[⟨s,[]⟩])=M at *
  have hsz:=zMN hml;rw[zEe] at hsz;have hQ2:∀h',Ext h h'→Q (zHR (szd M)) h':=fun h' he=>hQ _ _ ⟨he,by rw[(zBR _ 0).1];exact(zBR _ _).2,by rw[(zBR _ 0).1]⟩;have hex:=ho.1;clear hQ hmm hp hat hne hns ho;have hfin:∀r,Fin 1 (yW (M.map mkA)) r→r= .sl 1 (yW (M.map mkA)) .no:=fun r hr=>by
   rcases hr with⟨_,e⟩ |e
   ·exact absurd (by simpa [yW] using e) hm0
   ·exact e
  repeat' first|simp only[go_sem,zAl, *]|apply bc<;>intro hc
  refine(hmi _).mono ?_;rintro r h3 ⟨hq,hr⟩;subst hq;have hr2:=hfin r hr;subst hr2;have hq:=hQ2 _ hex;clear hQ2 hr hmi hex hm0 hml;cases hz:szd M with
  |none=>
   rw[hz] at hsz hq;simp only[zHR] at hsz hq
   repeat' first|simp only[go_sem,zAl, *]|apply bc<;>intro hc|(refine zA.mono (hsz _) ?_;rintro r h ⟨rfl,rfl⟩)
  |some M'=>
   rw[hz] at hsz hq;simp only[zHR] at hsz hq
   repeat' first|simp only[go_sem,zAl, *]|apply bc<;>intro hc|(refine zA.mono (hsz _) ?_;rintro r h ⟨rfl,rfl⟩)
theorem zRv {l:List (List Trm)} (h0:l≠[]) {r:D} (hr:Fin 1 (yW (l.map mkA)) r):r= .sl 1 (yW (l.map mkA)) .no:=by
 rcases hr with⟨_,e⟩ |e
 ·exact absurd (by simpa [yW] using e) h0
 ·exact e
theorem zJU {m:Nat} {l:List (List Trm)} (h:∀t∈l,t≠[]∧t.length≤m) (hm:m≤4096):∀q∈l.map mkA,q.Ok:=fun q hq=>by
 obtain⟨t,ht,rfl⟩:=List.mem_map.1 hq;exact zNm (h t ht).1 (Nat.le_trans (h t ht).2 hm)
theorem zVP (l:List (List Trm)):(l.map mkA).map Alt.ts=l:=by rw[List.map_map];exact List.map_id _
structure MInv (c:Cat) (k:Int) (l:List Ex) (R:Option (List (List Trm))) (g:Heap) (i:Nat) (out:List (List Trm)) (o:D) (h:Heap):Prop where
 hE:Ext g h
 hK:zDF c k (l.drop i) (i==0) out=R
 hor:k=3→Own g h 1 (yW (out.map mkA)) o
 hand:k≠3→(i=0∧out= [])∨(out≠[]∧o= .sl 1 (yW (out.map mkA)) .no∧out.length≤64)
 hts:∀t∈out,t≠[]∧t.length≤z7 (l.take i)
 hol:out.length≤64*i+64
set_option maxHeartbeats 8000000 in
theorem zRw {c:Cat} {d:D} (hc:qt c d) (hs:c.Sm):∀ (n:Nat) (e:Ex),e.size≤n→e.size≤64→e.Fit c→e.Ok→∀g:Heap,
  zA Tryz.prog 197 [d, .agg e.cells] g fun r h'=>h'=g∧r=zCh c e:=by
 intro n
 induction n with
 |zero=>intro e h;cases e;simp only[Ex.size] at h;omega
 |succ n ih=>
 intro e hn h64 hfit hok g;obtain⟨k,nm,x,l,dd⟩:=e;have hcells:(Ex.mk k nm x l dd).cells= [.int .i64 k, .str nm, .str x,dd]:=rfl;rw[hcells];simp only[Ex.size] at hn h64;have hkids:∀ (i:Nat) (hi:i<l.length),l[i].Fit c∧l[i].Ok∧∀g:Heap,zA Tryz.prog 197 [d, .agg l[i].cells] g fun r h'=>h'=g∧r=zCh c l[i]:=fun i hi=>by
  have hm:=List.getElem_mem hi;have h1:l[i].Fit c:=hfit.kid (e:= .mk k nm x l dd) hm;have h2:l[i].Ok:=zDB (by simp only[Ex.Ok] at hok;exact hok.2.2.2.2) _ hm;have h3:=zAq hm;exact⟨h1,h2,ih _ (by omega) (by omega) h1 h2⟩
 rcases zNp hfit with⟨hk,hl,hx,y,hy⟩ | ⟨hk,hl2⟩
 ·rcases hk with rfl|rfl
  ·refine(zOk hc (n:=nm) (x:=x) (y:=dd) g).mono fun r h' ⟨q1,q2⟩=>⟨q1,?_⟩;rw[q2];simp[zCh,zD6]
  ·refine(zOl hc hs hy (x:=x) (y:=dd) g).mono fun r h' ⟨q1,q2⟩=>⟨q1,?_⟩;rw[q2];simp[zCh,zD6,hy]
 have e0:(k==0)=false:=by rcases hk with rfl|rfl<;>rfl
 have e1:(k==1)=false:=by rcases hk with rfl|rfl<;>rfl
 have hR:zD6 c (.mk k nm x l dd)=match zDF c k l true [] with
  |none=>none
  |some out=>szd (yK out):=by rw[zD6,if_neg (by rw[e0];exact Bool.false_ne_true),if_neg (by rw[e1];exact Bool.false_ne_true)];try (cases zDF c k l true []<;>rfl)
 have hfin:∀R,zDF c k l true []=some R→AltsOk 64 R∧R.length≤64*l.length:=fun R hR=>by
  have:=(zMO (c:=c) (z7 l)).2 k l (Nat.le_refl _) (fun e he=>hfit.kid (e:= .mk k nm x l dd) he) 0 true [] R (fun t ht=>by cases ht) (by simp) (fun e=>by subst e;simp at hl2) hR;exact⟨this.1.mono (by omega),by simpa using this.2⟩
 have hll:l.length≤64:=by
  have:∀l:List Ex,l.length≤z7 l:=fun l=>by
   induction l with
   |nil=>simp
   |cons e l ih=>simp only[z7,List.length_cons];cases e;simp only[Ex.size];omega
  have:=this l;omega
 have hdd:zV 4 (exs l) dd:=by simp only[Ex.Ok] at hok;exact hok.1
 have hmo:=fun(e:Ex) (he:e.Fit c) (l:List (List Trm)) (hl:zD6 c e=some l)=>(zMO (c:=c) e.size).1 e (Nat.le_refl _) he l hl;have hsL:∀i (hi:i<l.length),z7 (l.take (i+1))=z7 (l.take i)+l[i].size∧z7 (l.take (i+1))≤z7 l:=fun i hi=>by
  have app:∀a b:List Ex,z7 (a++b)=z7 a+z7 b:=fun a b=>by
   induction a with
   |nil=>simp[z7]
   |cons e a ih=>simp only[List.cons_append,z7,ih];omega
  refine⟨by rw[List.take_succ_eq_append_getElem hi,app];simp[z7],?_⟩;have:=app (l.take (i+1)) (l.drop (i+1));rw[List.take_append_drop] at this;omega
 obtain⟨R,eR⟩:∃R,zDF c k l true []=R:=⟨_,rfl⟩;refine zA.pure (by kernel_rfl) fun hok'=>zA.strip ?_;refine zA.post fun Q hQ=> ?_;have hQ2:∀h',Ext g h'→Q (zCh c (.mk k nm x l dd)) h':=fun h' he=>hQ _ _ ⟨he,by unfold zCh;rw[(zBR _ 0).1];exact(zBR _ _).2,by unfold zCh;rw[(zBR _ 0).1]⟩;unfold zCh at hQ2;rw[hR,eR] at hQ2;rw[eR] at hfin;clear hQ hR hfit hok ih hcells;obtain⟨ca,cb,ce,cp,rfl,_,_,_,_⟩:=hc;have hv4:∀a b c e:D,zW true 4 [a,b,c,e] 0=some (.agg [a,b,c,e]):=fun a b c e=>zB rfl (by omega);have hlen:=zDC hdd;have hE0:=Own.start (Ext.refl g) 1
 refine zA.of_fn (g:=zHx) mix Tryz.func197 zSo rfl rfl ?_;simp only[Tryz.f197,gJ]
 repeat' first|simp only[go_sem,zAl, *]|apply bc<;>intro hc
 refine zC (fun i fr h=>∃out o,fr 2= .iptr [ca,cb,ce,cp] 0∧fr 3= .iptr [.int .i64 k, .str nm, .str x,dd] 0∧fr 54=dd∧fr 55= .int .i64 (l.length:Int)∧fr 56= .int .i64 (i:Int)∧fr 6=o∧MInv c k l R g i out o h) l.length (by omega) ?_ ?_ ?_
 ·have h0:MInv c k l R g 0 [] .nilsl g:=⟨Ext.refl g,eR,fun _=>hE0,fun _=> .inl ⟨rfl,rfl⟩,fun t ht=>(by cases ht),by simp⟩;simp only[go_sem,zAl,true_and,and_true,Int.ofNat_zero];exact⟨_,_,rfl,h0⟩
 ·rintro i fr h hlt ec ew ⟨out,o,f2,f3,f54,f55,f56,f6,⟨hE,hK,hor,hand,hts,hol⟩⟩;have a1:=zKt hdd hlt;obtain⟨kf,ko,kc⟩:=hkids i hlt;obtain⟨s1,s2⟩:=hsL i hlt;have hst:=zRU l[i] (Ex.flat ko) h h.next;have hE2:=hE.new hE.1 (.row l[i].cells);have hrow:(h.new h.next (.row l[i].cells)).at' h.next=some (.row l[i].cells):=zM _ _ _;rw[List.drop_eq_getElem_cons hlt,zDF] at hK;have hmo1:=hmo _ kf;have hol2:Ext h (h.new h.next (.row l[i].cells)):=(Ext.refl h).new (Nat.le_refl _) _;have hor2:k=3→Own g (h.new h.next (.row l[i].cells)) 1 (yW (out.map mkA)) o:=fun e=>(hor e).ext hol2;generalize hy:l[i]=y at *
  simp only[Ex.cells] at a1 kc hst hE2 hrow hor2 hol2;generalize hH:h.new h.next (.row [.int .i64 y.kind, .str y.name, .str y.exc,y.d])=H at *
  clear hkids hsL hmo hor;have hi0:((i:Int)==0)=(i==0):=by cases i<;>rfl
  have hi1:(i+1==0)=false:=rfl;cases hm:zD6 c y with
  |none=>
   rw[hm] at hK;simp only at hK;have hq:=hQ2 H hE2;rw[←hK] at hq;simp only[zHR] at hq;have hmd:zCh c y= .tuple [.nilsl, .int .i64 10]:=by unfold zCh;rw[hm];rfl
   rw[hmd] at kc;clear hmd hQ2 hor2 hand hts hK
   repeat' first|simp only[go_sem,zAl, *]|apply bc<;>intro hc|(refine zA.mono (kc _) ?_;rintro r h ⟨hq,rfl⟩)
  |some lk=>
   rw[hm] at hK;simp only at hK;obtain⟨h64,hlo⟩:=hmo1 lk hm;have hmd:zCh c y= .tuple [.sl 1 (yW (lk.map mkA)) .no, .int .i64 0]:=by unfold zCh;rw[hm];rfl
   rw[hmd] at kc;clear hmd hmo1;cases q3:(k==3) with
   |true=>
    rw[if_pos q3] at hK;have hk3:k=3:=by simpa using q3
    have hoH:=hor2 hk3;clear hand hor2 hQ2
    repeat' first|simp only[go_sem,zAl, *]|apply bc<;>intro hc|(refine zA.mono (kc _) ?_;rintro r h ⟨hq,rfl⟩)
    subst hq;refine hoH.appH (ys:=yW (lk.map mkA)) wR zDi wG (by omega) (zD5 _) (by simpa [yW] using hlo.ne) (by rw[yP,yP,List.length_map,List.length_map,zBI];unfold lim;omega) (by rw[yP,yP,List.length_map,List.length_map];unfold lim;omega) fun d' h' ho'=> ?_;have ho2:Own g h' 1 (yW ((out++lk).map mkA)) d':=by
     have:yW ((out++lk).map mkA)=yW (out.map mkA)++yW (lk.map mkA):=by simp[yW]
     rw[this];exact ho'
    have hres:MInv c k l R g (i+1) (out++lk) d' h':=⟨ho2.1,hK,fun _=>ho2,fun q=>absurd hk3 q,fun t ht=>by
     rcases List.mem_append.1 ht with q|q
     ·exact⟨(hts t q).1,Nat.le_trans (hts t q).2 (by omega)⟩
     ·exact⟨(hlo.ts t q).1,Nat.le_trans (hlo.ts t q).2 (by omega)⟩,by rw[List.length_append];omega⟩
    clear ho' hoH hK hts hol hlo ho2 hk3
    repeat' first|simp only[go_sem,zAl, *]|apply bc<;>intro hc
    exact⟨_,_,rfl,hres⟩
   |false=>
    rw[if_neg (by rw[q3];exact Bool.false_ne_true)] at hK;have hk3:k≠3:=by simpa using q3
    have hand2:=hand hk3;clear hand hor2;cases q0:(i==0) with
    |true=>
     rw[if_pos q0] at hK;have hres:MInv c k l R g (i+1) lk (.sl 1 (yW (lk.map mkA)) .no) H:=⟨hE2,hK,fun q=>absurd q hk3,fun _=> .inr ⟨hlo.ne,rfl,h64⟩,fun t ht=>⟨(hlo.ts t ht).1,Nat.le_trans (hlo.ts t ht).2 (by omega)⟩,by omega⟩;clear hK hts hol hlo hand2 hQ2;rw[q0] at hi0
     repeat' first|simp only[go_sem,zAl, *]|apply bc<;>intro hc|(refine zA.mono (kc _) ?_;rintro r h ⟨hq,rfl⟩)
     subst hq;exact⟨_,_,rfl,hres⟩
    |false=>
     rw[if_neg (by rw[q0];exact Bool.false_ne_true)] at hK;rw[q0] at hi0;obtain⟨hone,ho,ho64⟩:out≠[]∧o= .sl 1 (yW (out.map mkA)) .no∧out.length≤64:=by
      rcases hand2 with⟨q,_⟩ |q
      ·subst q;exact absurd q0 (by decide)
      ·exact q
     subst ho;have hpo:=AltsOk.pairs ⟨hone,hts⟩ hlo;have okA:=zJU hts (by omega);have okB:=zJU hlo.ts (by omega);have hcp:=zXq (zV.mk (sz:=1) (xs:=yW (out.map mkA)) .no) (zV.mk (sz:=1) (xs:=yW (lk.map mkA)) .no);have hco:=zOi (zV.mk (sz:=1) (xs:=yW (out.map mkA)) .no) (zV.mk (sz:=1) (xs:=yW (lk.map mkA)) .no) okA okB (by rw[List.length_map];omega) (by rw[List.length_map];omega);have hpt:zCy (out.map mkA) (lk.map mkA)=zCQ out lk:=rfl;rw[hpt] at hco;have hpl:(zCQ out lk).length≤4096:=by
      rw[zIJ];exact Nat.le_trans (Nat.mul_le_mul ho64 h64) (by omega)
     have hmi:=zGz (zV.mk (sz:=1) (xs:=yW ((zCQ out lk).map mkA)) .no) (by simpa using hpo.ne) (by rw[List.length_map];omega) (zJU hpo.ts (by omega));rw[zVP] at hmi;have hmo:=hpo.min;have hmn:=hmo.ne;have hml:(yK (zCQ out lk)).length≤1048576:=Nat.le_trans (zCR _) (by omega);have hf1:=fun r hr=>zRv hpo.ne (r:=r) hr;have hf2:=fun r hr=>zRv hmo.ne (r:=r) hr;generalize zCQ out lk=P at *
     generalize hM:yK P=M at *
     have hsz:=zMN hml;rw[zEe] at hsz;clear hpt hpo okA okB hts hol hlo hand2 hone
     repeat' first|simp only[go_sem,zAl, *]|apply bc<;>intro hc|(refine zA.mono (kc _) ?_;rintro r h ⟨hq,rfl⟩)
     subst hq;clear kc;refine(hcp _).mono ?_;rintro r h1 ⟨hq,rfl⟩;subst hq;clear hcp
     repeat' first|simp only[go_sem,zAl, *]|apply bc<;>intro hc
     refine(hco _).mono ?_;rintro r h2 ⟨hq,hr⟩;subst hq;have hr:=hf1 r hr;subst hr;clear hco
     repeat' first|simp only[go_sem,zAl, *]|apply bc<;>intro hc
     refine(hmi _).mono ?_;rintro r h3 ⟨hq,hr⟩;subst hq;have hr:=hf2 r hr;subst hr;clear hmi hf1 hf2;cases hz:szd M with
     |none=>
      rw[hz] at hK hsz;simp only at hK;have hq:=hQ2 _ hE2;rw[←hK] at hq;simp only[zHR] at hq hsz;clear hQ2 hK hmo hmn
      repeat' first|simp only[go_sem,zAl, *]|apply bc<;>intro hc|(refine zA.mono (hsz _) ?_;rintro r h ⟨rfl,rfl⟩)
     |some M'=>
      obtain⟨rfl,hM64⟩:=zFg hz;rw[hz] at hK hsz;simp only at hK;simp only[zHR] at hsz;have hres:MInv c k l R g (i+1) M' (.sl 1 (yW (M'.map mkA)) .no) h3:=⟨hE2,hK,fun q=>absurd q hk3,fun _=> .inr ⟨hmn,rfl,hM64⟩,fun t ht=>by rw[s1];exact hmo.ts t ht,by omega⟩;clear hQ2 hK hmo
      repeat' first|simp only[go_sem,zAl, *]|apply bc<;>intro hc|(refine zA.mono (hsz _) ?_;rintro r h ⟨rfl,rfl⟩)
      exact⟨_,_,rfl,hres⟩
 ·rintro fr h ec ⟨out,o,f2,f3,f54,f55,f56,f6,⟨hE,hK,hor,hand,hts,hol⟩⟩;have hd0:l.drop l.length= []:=List.drop_length;rw[hd0,zDF] at hK;obtain⟨hao,haol⟩:=hfin out hK.symm;have hsl:zV 1 (yW (out.map mkA)) o:=by
   by_cases hk3:k=3
   ·exact(hor hk3).isSl
   ·rcases hand hk3 with⟨q,_⟩ | ⟨_,q,_⟩
    ·omega
    ·rw[q];exact zV.mk .no
  have hmi:=zGz hsl (by simpa using hao.ne) (by rw[List.length_map];omega) (zJU hao.ts (by omega));rw[zVP] at hmi;have hf2:=fun r hr=>zRv hao.min.ne (r:=r) hr;have hml:(yK out).length≤1048576:=Nat.le_trans (zCR _) (by omega);have hsz:=zMN hml;rw[zEe] at hsz;have hq:=hQ2 _ hE;rw[←hK] at hq;simp only at hq;clear hQ2 hfin hor hand hts hao hsl hkids hmo hsL hK;generalize yK out=M at *
  repeat' first|simp only[go_sem,zAl, *]|apply bc<;>intro hc
  refine(hmi _).mono ?_;rintro r h3 ⟨hq3,hr⟩;subst hq3;have hr:=hf2 r hr;subst hr;clear hmi hf2;cases hz:szd M with
  |none=>
   rw[hz] at hsz hq;simp only[zHR] at hq hsz
   repeat' first|simp only[go_sem,zAl, *]|apply bc<;>intro hc|(refine zA.mono (hsz _) ?_;rintro r h ⟨rfl,rfl⟩)
  |some M'=>
   rw[hz] at hsz hq;simp only[zHR] at hq hsz
   repeat' first|simp only[go_sem,zAl, *]|apply bc<;>intro hc|(refine zA.mono (hsz _) ?_;rintro r h ⟨rfl,rfl⟩)
def ofD (c:Cat) (e:Ex):D:=if(wr c e==0)=true then zCh c e else .tuple [.nilsl, .int .i64 (wr c e)]
theorem zXv {c:Cat} {d:D} (hc:qt c d) (hs:c.Sm) {e:Ex} (hok:e.Ok) (hsz:e.size≤1048576) (g:Heap):
  zA Tryz.prog 135 [d, .agg e.cells] g fun r h'=>h'=g∧r=ofD c e:=by
 have hck:=zGp hc hs hok hsz;have hme:=fun(h:wr c e=0)=>zRw hc hs e.size e (Nat.le_refl _) (zRt h).2.1 (zRt h).2.2 hok;obtain⟨ca,cb,ce,cp,rfl,_,_,_,_⟩:=hc;have hv4:∀a b c e:D,zW true 4 [a,b,c,e] 0=some (.agg [a,b,c,e]):=fun a b c e=>zB rfl (by omega);refine zA.post fun Q hQ=> ?_;have hq:=hQ (ofD c e) g ⟨rfl,rfl⟩;clear hQ;unfold ofD at hq;simp only[Ex.cells] at hck hme⊢;refine zA.of_fn (g:=zM4) mix Tryz.func135 zaE rfl rfl ?_;simp only[Tryz.f135,gJ];cases q:(wr c e==0) with
 |false=>
  rw[if_neg (by rw[q];exact Bool.false_ne_true)] at hq;clear hme
  repeat' first|simp only[go_sem,zWq, *]|apply bc<;>intro hc|(refine zA.mono (hck _) ?_;rintro r h ⟨rfl,rfl⟩)
 |true=>
  rw[if_pos q] at hq;have hme2:=hme (by simpa using q);clear hme;unfold zCh at hq hme2;cases hm:zD6 c e with
  |none=>
   rw[hm] at hq hme2;simp only[zHR] at hq hme2
   repeat' first|simp only[go_sem,zWq, *]|apply bc<;>intro hc|(refine zA.mono (hck _) ?_;rintro r h ⟨rfl,rfl⟩)|(refine zA.mono (hme2 _) ?_;rintro r h ⟨rfl,rfl⟩)
  |some l=>
   rw[hm] at hq hme2;simp only[zHR] at hq hme2
   repeat' first|simp only[go_sem,zWq, *]|apply bc<;>intro hc|(refine zA.mono (hck _) ?_;rintro r h ⟨rfl,rfl⟩)|(refine zA.mono (hme2 _) ?_;rintro r h ⟨rfl,rfl⟩)
def zSJ (l:List (List Trm)):D:= .sl 1 (yW (l.map mkA)) .no
def zLK (l:List (List (List Trm))):List (List D):=l.map fun a=>[zSJ a]
theorem zAs (l:List (List (List Trm))):(zLK l).length=l.length:=List.length_map ..
theorem zTo {l:List (List (List Trm))} {i:Nat} (h:i<l.length):(zLK l)[i]? =some [zSJ l[i]]:=by simp[zLK,h]
theorem zTp (l:List (List (List Trm))):∀x∈zLK l,x.length=1:=fun x hx=>by
 obtain⟨s,_,rfl⟩:=List.mem_map.1 hx;rfl
theorem zOm (l:List (List (List Trm))):∀x∈zLK l,zCD x:=fun x hx=>by
 obtain⟨s,_,rfl⟩:=List.mem_map.1 hx;obtain⟨h1,h2⟩:=zIK s;exact⟨rfl,by simp only[zz];exact⟨h2,trivial⟩,by simp only[yS,zSJ];rw[h1]⟩
theorem zTq {l:List (List (List Trm))} {d:D} (hd:zV 1 (zLK l) d) (h:Heap):zBU Tryz.prog 149 d h=some (.int .i64 l.length):=by rw[zP hd Tryz.underlying149,zAs]
theorem zXw {l:List (List (List Trm))} {d:D} (hd:zV 1 (zLK l) d) {i:Nat} (hi:i<l.length):zQ Tryz.prog 149 d (.int .i64 (i:Int))=some (.iptr [zSJ l[i]] 0):=zF hd zGJ zMx (zTo hi)
def zFI (c:Cat) (e:Ex):Int:=if(wr c e==0)=true then(match zD6 c e with
 |some _=>0
 |none=>10) else wr c e
def ofL (c:Cat) (e:Ex):List (List Trm):=(zD6 c e).getD []
abbrev zfE:=List (List (List Trm)) ×List (List UInt8) ×Int
def zIL (c:Cat):List Fac→List (List (List Trm))→List (List UInt8)→zfE
 | [],t,o=>(t,o,0)
 |f::fs,t,o=>if(f.kind==1)=true then(if(zFI c f.e==0)=true then zIL c fs (t++ [ofL c f.e]) o else([],[],zFI c f.e))
  else if(f.kind==2)=true then zIL c fs t (if(o.any (· ==f.out))=true then o else o++ [f.out]) else zIL c fs t o
def yn (c:Cat) (l:List Fac):zfE:=if(!((qP c l).2==0))=true then([],[],(qP c l).2) else zIL c l [] []
theorem zbq {c:Cat} {e:Ex} (h:(zFI c e==0)=true):ofD c e= .tuple [zSJ (ofL c e), .int .i64 0]:=by
 unfold zFI at h;unfold ofD ofL zCh;split at h
 ·rename_i q;rw[if_pos q];split at h
  ·rename_i l hl;rw[hl];rfl
  ·exact absurd h (by decide)
 ·rename_i q;exact absurd h q
theorem zXx {c:Cat} {e:Ex} (h:(zFI c e==0)=false):ofD c e= .tuple [.nilsl, .int .i64 (zFI c e)]:=by
 unfold zFI at h⊢;unfold ofD zCh;split at h
 ·rename_i q;rw[if_pos q,if_pos q];split at h
  ·exact absurd h (by decide)
  ·rename_i hl;rw[hl];rfl
 ·rename_i q;rw[if_neg q,if_neg q]
theorem zXy (a:List (List Trm)) (nid:Nat) (h:Heap):zU Tryz.prog false nid 149 1 [(0,zSJ a)] h=some (.sl 1 [[zSJ a]] .full,h):=
 yU (P:=Tryz.prog) (x:=zSJ a) zGJ zSd zMx rfl rfl (by omega) (by omega) rfl rfl
structure ValI (c:Cat) (l:List Fac) (R:zfE) (g:Heap) (i:Nat) (t:List (List (List Trm))) (o:List (List UInt8)) (td od:D) (h:Heap):Prop where
 own:Own2 g h 1 (zLK t) td 1 (zy o) od
 eq:zIL c (l.drop i) t o=R
 tl:t.length≤i
 ol:o.length≤i
set_option maxHeartbeats 8000000 in
theorem zTr {c:Cat} {d x:D} (hc:qt c d) (hs:c.Sm) {l:List Fac} (hx:zV 12 (zJj l) x) (hl:l.length≤1048576) (hok:∀f∈l,f.Ok) (g:Heap):
  zA Tryz.prog 86 [d,x] g fun r h'=>h'=g∧∃td od,r= .tuple [td,od, .int .i64 (yn c l).2.2]∧Fin 1 (zLK (yn c l).1) td∧Fin 1 (zy (yn c l).2.1) od:=by
 have hck:=zMF hc hs hx hl hok;have hof:=fun f (hf:f∈l)=>zXv hc hs (hok f hf).e (hok f hf).es;have hlen:=zD0 hx;have h12:=zJL;obtain⟨ca,cb,ce,cp,rfl,_,_,_,_⟩:=hc;have hv4:∀a b c e:D,zW true 4 [a,b,c,e] 0=some (.agg [a,b,c,e]):=fun a b c e=>zB rfl (by omega);refine zA.pure (by kernel_rfl) fun hok'=>zA.strip ?_;refine zA.post fun Q hQ=> ?_;have hE0:=Own2.start (Ext.refl g) 1 1;refine zA.of_fn (g:=zSs) mix Tryz.func86 zgG rfl rfl ?_;simp only[Tryz.f86,gJ];cases q1:((qP c l).2==0) with
 |false=>
  have hR:yn c l=([],[],(qP c l).2):=by unfold yn;rw[q1];rfl
  have hq:=hQ (.tuple [.nilsl, .nilsl, .int .i64 (qP c l).2]) g ⟨Ext.refl g,by simp[yI,yS,below,zz], .nilsl, .nilsl,by rw[hR];rfl, .inl ⟨rfl,by rw[hR];rfl⟩, .inl ⟨rfl,by rw[hR];rfl⟩⟩;clear hQ hof hR
  repeat' first|simp only[go_sem,zQK, *]|apply bc<;>intro hc|(refine zA.mono (hck _) ?_;rintro r h ⟨rfl,rfl⟩)
 |true=>
 have hR:yn c l=zIL c l [] []:=by unfold yn;rw[q1];rfl
 obtain⟨R,eR⟩:∃R,zIL c l [] []=R:=⟨_,rfl⟩;rw[hR,eR] at hQ;clear hR
 repeat' first|simp only[go_sem,zQK, *]|apply bc<;>intro hc|(refine zA.mono (hck _) ?_;rintro r h ⟨hq,rfl⟩)
 refine zC (fun i fr h=>∃t o td od,fr 2= .iptr [ca,cb,ce,cp] 0∧fr 24=x∧fr 25= .int .i64 (l.length:Int)∧fr 26= .int .i64 (i:Int)∧fr 9=td∧fr 10=od∧ValI c l R g i t o td od h) l.length (by omega) ?_ ?_ ?_
 ·have h0:ValI c l R g 0 [] [] .nilsl .nilsl g:=⟨hE0,eR,Nat.le_refl _,Nat.le_refl _⟩;simp only[go_sem,zQK,true_and,and_true,Int.ofNat_zero];exact⟨_,_,_,_,rfl,rfl,h0⟩
 ·clear hck;rintro i fr h2 hlt ec ew ⟨t,o,td,od,f2,f24,f25,f26,f9,f10,⟨hown,hK,htl,hol⟩⟩;have a1:=zEc hx hlt;have hfo:=hok _ (List.getElem_mem hlt);have hfc:=hof _ (List.getElem_mem hlt);have hst:=zH9 hfo h2 h2.next;rw[List.drop_eq_getElem_cons hlt,zIL] at hK;have hrow:(h2.new h2.next (.row l[i].cells)).at' h2.next=some (.row l[i].cells):=zM _ _ _;have hown2:=hown.ext ((Ext.refl h2).new (Nat.le_refl _) (.row l[i].cells));have hcon:=fun(h:Heap)=>zGV hown.b.isSl (by omega:o.length≤1048576) l[i].out h;generalize l[i]=f at *
  simp only[Fac.cells,Ex.cells] at a1 hst hrow hown2 hfc;generalize hH:h2.new h2.next (.row [.int .i64 f.kind, .str f.comp, .str f.out, .int .i64 f.rel, .int .i64 f.way, .int .i64 f.duty, .bool f.chg, .int .i64 f.e.kind, .str f.e.name, .str f.e.exc,f.e.d,f.d])=H at *
  have hpe:zW true 4 [.int .i64 f.kind, .str f.comp, .str f.out, .int .i64 f.rel, .int .i64 f.way, .int .i64 f.duty, .bool f.chg, .int .i64 f.e.kind, .str f.e.name, .str f.e.exc,f.e.d,f.d] 7=some (.agg [.int .i64 f.e.kind, .str f.e.name, .str f.e.exc,f.e.d]):=rfl;clear hown hof;cases q2:(f.kind==1) with
  |true=>
   rw[if_pos q2] at hK;cases q3:(zFI c f.e==0) with
   |true=>
    rw[if_pos q3] at hK;rw[zbq q3] at hfc;have hone:=zXy (ofL c f.e);clear hQ hcon
    repeat' first|simp only[go_sem,zQK, *]|apply bc<;>intro hc|(refine zA.mono (hfc _) ?_;rintro r h ⟨hq,rfl⟩)
    subst hq;refine hown2.appH (zs:=zLK [ofL c f.e]) zGJ zVy zMx (by omega) (zTp _) (by simp[zLK]) (by rw[zAs,zAs,zPq];unfold lim;simp;omega) (by rw[zAs,zAs];unfold lim;simp;omega) fun d' h' ho'=> ?_;have hres:ValI c l R g (i+1) (t++ [ofL c f.e]) o d' od h':=⟨by
     have:zLK (t++ [ofL c f.e])=zLK t++zLK [ofL c f.e]:=by simp[zLK]
     rw[this];exact ho',hK,by simp;omega,by omega⟩
    clear ho' hown2 hK
    repeat' first|simp only[go_sem,zQK, *]|apply bc<;>intro hc
    exact⟨_,_,_,_,rfl,rfl,hres⟩
   |false=>
    rw[if_neg (by rw[q3];exact Bool.false_ne_true)] at hK;rw[zXx q3] at hfc;have hq:=hQ (.tuple [.nilsl, .nilsl, .int .i64 (zFI c f.e)]) H ⟨hown2.a.1,by simp[yI,yS,below,zz], .nilsl, .nilsl,by rw[←hK];rfl, .inl ⟨rfl,by rw[←hK];rfl⟩, .inl ⟨rfl,by rw[←hK];rfl⟩⟩;clear hQ hcon hown2 hK
    repeat' first|simp only[go_sem,zQK, *]|apply bc<;>intro hc|(refine zA.mono (hfc _) ?_;rintro r h ⟨rfl,rfl⟩)
  |false=>
   rw[if_neg (by rw[q2];exact Bool.false_ne_true)] at hK;clear hQ hfc;cases q3:(f.kind==2) with
   |true=>
    rw[if_pos q3] at hK;cases q4:(o.any (· ==f.out)) with
    |true=>
     rw[if_pos q4] at hK;rw[q4] at hcon;have hres:ValI c l R g (i+1) t o td od H:=⟨hown2,hK,by omega,by omega⟩;clear hown2 hK
     repeat' first|simp only[go_sem,zQK, *]|apply bc<;>intro hc|(refine zA.mono (hcon _) ?_;rintro r h ⟨hq,rfl⟩)
     subst hq;exact⟨_,_,_,_,rfl,rfl,hres⟩
    |false=>
     rw[if_neg (by rw[q4];exact Bool.false_ne_true)] at hK;rw[q4] at hcon;have hone:=zCG f.out
     repeat' first|simp only[go_sem,zQK, *]|apply bc<;>intro hc|(refine zA.mono (hcon _) ?_;rintro r h ⟨hq,rfl⟩)
     subst hq;refine hown2.swap.appH (zs:=zy [f.out]) zi zCp qH (by omega) zDq (by simp[zy]) (by rw[zH,wv];unfold lim;simp[zy];omega) (by rw[zH];unfold lim;simp[zy];omega) fun d' h' ho'=> ?_;have hres:ValI c l R g (i+1) t (o++ [f.out]) td d' h':=⟨by
      have:zy (o++ [f.out])=zy o++zy [f.out]:=by simp[zy]
      rw[this];exact ho'.swap,hK,by omega,by simp;omega⟩
     clear ho' hown2 hK
     repeat' first|simp only[go_sem,zQK, *]|apply bc<;>intro hc
     exact⟨_,_,_,_,rfl,rfl,hres⟩
   |false=>
    rw[if_neg (by rw[q3];exact Bool.false_ne_true)] at hK;have hres:ValI c l R g (i+1) t o td od H:=⟨hown2,hK,by omega,by omega⟩;clear hown2 hK hcon
    repeat' first|simp only[go_sem,zQK, *]|apply bc<;>intro hc
    exact⟨_,_,_,_,rfl,rfl,hres⟩
 ·rintro fr h2 ec ⟨t,o,td,od,f2,f24,f25,f26,f9,f10,⟨hown,hK,htl,hol⟩⟩;rw[List.drop_length,zIL] at hK;have hf1:=hown.a.2.1.fin (zOm t);have hf2:=hown.b.2.1.fin (yh (l:=o));have hq:=hQ (.tuple [td,od, .int .i64 0]) h2 ⟨hown.a.1,by
   simp only[yI,yS,below,zz];exact⟨zo (Nat.zero_le _) _ hf1.1,zo (Nat.zero_le _) _ hf2.1,trivial,trivial⟩,yI td,yI od,by rw[←hK];rfl,by rw[←hK];exact hf1.2,by rw[←hK];exact hf2.2⟩
  clear hQ hown hK hf1 hf2
  repeat' first|simp only[go_sem,zQK, *]|apply bc<;>intro hc
def zLL (a b:List Trm):Bool:=zFe zJ a b==0
theorem zFh (a b:List Trm):zLL a b=true↔a=b:=by
 unfold zLL;constructor
 ·intro h;exact zMK zD4 _ _ (by simpa using h)
 ·rintro rfl;simp[zCL.list.refl]
theorem zXz (x y:Trm) (c:Bool):zDH Tryz.prog .neq 51 c (.agg [.str x.a, .str x.b]) (.agg [.str y.a, .str y.b])=some (.bool (!(zJ x y==0))):=by
 have he:eqT Tryz.prog 51=some [.s, .s]:=by kernel_rfl
 rw[zCd];simp only[zDH,he,zO6,eqK,Option.map_some,Bool.and_true,zAE]
theorem zTs {a b:List Trm} {x y:D} (hx:zV 2 (qJ a) x) (hy:zV 2 (qJ b) y) (hl:a.length≤1048576) (g:Heap):
  zA Tryz.prog 89 [x,y] g fun r h'=>h'=g∧r= .bool (zLL a b):=by
 have l1:=wC hx;have l2:=wC hy;have hv2:∀a b:D,zW true 2 [a,b] 0=some (.agg [a,b]):=fun a b=>zB rfl (by omega);refine zA.post fun Q hQ=> ?_;have hq:=hQ _ _ ⟨rfl,rfl⟩;clear hQ;refine zA.of_fn (g:=zS8) mix Tryz.func89 zgf rfl rfl ?_;simp only[Tryz.f89,gJ];cases q:((a.length:Int)==(b.length:Int)) with
 |false=>
  have hne:zLL a b=false:=by
   cases h:zLL a b with
   |false=>rfl
   |true=>rw[(zFh _ _).1 h] at q;simp at q
  rw[hne] at hq
  repeat' first|simp only[go_sem,zU9, *]|apply bc<;>intro hc
 |true=>
 have hle:a.length≤b.length∧b.length≤a.length:=by have:=of_decide_eq_true q;omega
 obtain⟨hle1,hle2⟩:=hle
 repeat' first|simp only[go_sem,zU9, *]|apply bc<;>intro hc
 refine zC (fun i fr h=>fr 0=x∧fr 1=y∧fr 12= .int .i64 (a.length:Int)∧fr 13= .int .i64 (i:Int)∧h=g∧a.take i=b.take i) a.length (by omega) ?_ ?_ ?_
 ·simp only[go_sem,zU9,true_and,and_true,Int.ofNat_zero];rfl
 ·rintro i fr h hlt ec ew ⟨f0,f1,f12,f13,rfl,ht⟩;have hlt2:i<b.length:=by omega
  have a1:=zCK hx hlt;have a2:=zCK hy hlt2;have hn:=zXz a[i] b[i];have h1:∀ (e:(zJ a[i] b[i]==0)=true),a.take (i+1)=b.take (i+1):=fun e=>by
   have he:=zD4 a[i] b[i] (by simpa using e);rw[List.take_succ_eq_append_getElem hlt,List.take_succ_eq_append_getElem hlt2,ht,he]
  have h2:∀ (e:(zJ a[i] b[i]==0)=false),zLL a b=false:=fun e=>by
   cases h:zLL a b with
   |false=>rfl
   |true=>
    have:=(zFh _ _).1 h;subst this;rw[zCL.refl] at e;exact absurd e (by decide)
  generalize a[i]=u at *
  generalize b[i]=v at *
  simp only[Trm.cells] at a1 a2;cases qq:(zJ u v==0) with
  |true=>
   have hres:=h1 qq;rw[qq] at hn;clear h1 h2 ht hq
   repeat' first|simp only[go_sem,zU9, *]|apply bc<;>intro hc
   refine zg (by kernel_rfl) ?_
   repeat' first|simp only[go_sem,zU9, *]|apply bc<;>intro hc
  |false=>
   rw[h2 qq] at hq;rw[qq] at hn;clear h1 h2 ht
   repeat' first|simp only[go_sem,zU9, *]|apply bc<;>intro hc
   refine zg (by kernel_rfl) ?_
   repeat' first|simp only[go_sem,zU9, *]|apply bc<;>intro hc
 ·rintro fr h ec ⟨f0,f1,f12,f13,rfl,ht⟩
  have:a=b:=by
   rw[List.take_length,show a.length=b.length by omega,List.take_length] at ht;exact ht
  rw[(zFh _ _).2 this] at hq;clear ht this
  repeat' first|simp only[go_sem,zU9, *]|apply bc<;>intro hc
theorem zfF {a b:List Trm} {x y:D} (hx:zV 2 (qJ a) x) (hy:zV 2 (qJ b) y) (hl:a.length≤1048576) {id:Nat} {g:Heap} (hi:g.at' id=some (.row [x])):
  zA Tryz.prog 88 [y, .ptr id 0] g fun r h'=>h'=g∧r= .bool (zLL a b):=by
 have hc:=zTs hx hy hl;refine zA.of_fn (g:=zS1) mix Tryz.func88 zgW rfl rfl ?_;simp only[Tryz.f88,gJ]
 repeat' first|simp only[go_sem,zhn, *]|apply bc<;>intro hc|(refine zA.mono (hc _) ?_;rintro r h ⟨rfl,rfl⟩)
theorem zLB {l:List Lic} {d:D} (hd:zV 4 (zBv l) d) (hl:l.length≤1048576) {f:FuncId} {cap:List D} {p:Lic→Bool} {g:Heap} (hp:∀s∈l,zA Tryz.prog f ([]++ [.agg s.cells]++cap) g fun r h'=>h'=g∧r= .bool (p s)):
  zA Tryz.prog 137 [d, .fn (.func f) [] cap] g fun r h'=>h'=g∧r= .int .i64 (zHA p l):=by
 have hlen:=ww hd;have hv4:∀a b c e:D,zW true 4 [a,b,c,e] 0=some (.agg [a,b,c,e]):=fun a b c e=>zB rfl (by omega);refine zA.of_fn (g:=zNF) mix Tryz.func137 zaf rfl rfl ?_;simp only[Tryz.f137,gJ]
 repeat' first|simp only[go_sem,zQc, *]|apply bc<;>intro hc
 refine zC (fun i fr h=>fr 1= .fn (.func f) [] cap∧fr 0=d∧fr 6=d∧fr 7= .int .i64 (l.length:Int)∧fr 8= .int .i64 (i:Int)∧h=g∧∀j (hj:j<l.length),j<i→p l[j]=false) l.length (by omega) ?_ ?_ ?_
 ·simp only[go_sem,zQc,true_and,and_true,Int.ofNat_zero];exact fun j hj h0=>by omega
 ·rintro i fr h hlt e1 ew ⟨f1,f0,f6,f7,f8,rfl,hj⟩;have a1:=wW hd hlt;have hq:=hp _ (List.getElem_mem hlt);simp only[List.nil_append,List.cons_append,Lic.cells] at hq;simp only[Lic.cells] at a1;cases hb:p l[i] with
  |true=>
   have hx:=zBm hlt hj hb;rw[hb] at hq;clear hj hp hd
   repeat' first|simp only[go_sem,zQc, *]|apply bc<;>intro hc|(refine zA.mono hq ?_;rintro r h ⟨rfl,rfl⟩)
  |false=>
   have hn:=qF (p:=p) hlt hj hb;rw[hb] at hq;clear hj hp hd
   repeat' first|simp only[go_sem,zQc, *]|apply bc<;>intro hc|(refine zA.mono hq ?_;rintro r h ⟨rfl,rfl⟩)
   exact hn
 ·rintro fr h e1 ⟨f1,f0,f6,f7,f8,rfl,hj⟩;have hx:=zBn (p:=p) fun j hj'=>hj j hj' hj';clear hj hp hd
  repeat' first|simp only[go_sem,zQc, *]|apply bc<;>intro hc
theorem zG3 {l:List Lic} {d:D} (hd:zV 4 (zBv l) d) (hl:l.length≤1048576) {f:FuncId} {cap:List D} {p:Lic→Bool} {g:Heap} (hp:∀s∈l,zA Tryz.prog f ([]++ [.agg s.cells]++cap) g fun r h'=>h'=g∧r= .bool (p s)):
  zA Tryz.prog 90 [d, .fn (.func f) [] cap] g fun r h'=>h'=g∧r= .bool (l.any p):=by
 have hix:=zLB hd hl hp;have hge:=zCH (l:=l) (p:=p);refine zA.of_fn (g:=zSj) mix Tryz.func90 zf3 rfl rfl ?_;simp only[Tryz.f90,gJ]
 repeat' first|simp only[go_sem,zg8, *]|apply bc<;>intro hc|(refine zA.mono hix ?_;rintro r h ⟨rfl,rfl⟩)
theorem zfG (x:Lic) (s:List UInt8) {id:Nat} {g:Heap} (hi:g.at' id=some (.row [.str s])):
  zA Tryz.prog 91 [.agg x.cells, .ptr id 0] g fun r h'=>h'=g∧r= .bool (x.name==s):=by
 refine zA.of_fn (g:=zSm) mix Tryz.func91 zgB rfl rfl ?_;simp only[Tryz.f91,gJ];simp only[Lic.cells]
 repeat' first|simp only[go_sem,zhK, *]|apply bc<;>intro hc
structure Cho where
 ts:List Alt
 own:List (List UInt8)
structure Alt.Sm (a:Alt):Prop where
 sl:zV 2 (qJ a.ts) a.d
 len:a.ts.length≤1048576
def zMP (y:Cho) (d:D):Prop:=∃a b,d= .agg [a,b]∧zV 1 (yW y.ts) a∧zV 1 (zy y.own) b
structure Cho.Sm (y:Cho):Prop where
 tl:y.ts.length≤1048576
 ol:y.own.length≤1048576
 ts:∀a∈y.ts,a.Sm
def zEf (v:List (List (List Trm))) (ts:List Alt) (p:Bool) (i:Nat):Int:=match ts[i]? with
 |none=>0
 |some a=>if(p&&((a.ts.length:Int)==0))=true then 0 else if(!((v.getD i []).any fun b=>zLL a.ts b))=true then 1 else 0
def zTt (c:Cat) (own:List (List UInt8)) (p:Bool) (i:Nat):Int:=match own[i]? with
 |none=>0
 |some s=>if(p&&(s== []))=true then 0 else if(!(c.ls.any fun x=>x.name==s))=true then 7 else 0
def yC (c:Cat) (l:List Fac) (y:Cho) (p:Bool):Int:=
 if(!((yn c l).2.2==0))=true then(yn c l).2.2
 else if(!((y.ts.length:Int)==((yn c l).1.length:Int))|| !((y.own.length:Int)==((yn c l).2.1.length:Int)))=true then 9
 else if(!(zED (zEf (yn c l).1 y.ts p) y.ts.length==0))=true then zED (zEf (yn c l).1 y.ts p) y.ts.length
 else zED (zTt c y.own p) y.own.length
theorem zbr {c:Cat} {e:Ex} (h:(zFI c e==0)=true):(ofL c e).length≤64∧AltsOk 64 (ofL c e):=by
 unfold zFI at h;unfold ofL;split at h
 ·rename_i q;obtain⟨_,h2,h3⟩:=zRt (show wr c e=0 by simpa using q);split at h
  ·rename_i l hl;have:=(zMO (c:=c) e.size).1 e (Nat.le_refl _) h3 l hl;rw[hl];exact⟨this.1,this.2.mono h2⟩
  ·exact absurd h (by decide)
 ·rename_i q;exact absurd h q
theorem zJV {c:Cat} :∀ {l:List Fac} {t:List (List (List Trm))} {o:List (List UInt8)},(∀a∈t,a.length≤64∧AltsOk 64 a)→∀a∈(zIL c l t o).1,a.length≤64∧AltsOk 64 a
 | [],t,o,h=>by rw[zIL];exact h
 |f::fs,t,o,h=>by
  rw[zIL];split
  ·split
   ·rename_i q;exact zJV fun a ha=>by
     rcases List.mem_append.1 ha with g|g
     ·exact h a g
     ·cases List.mem_singleton.1 g;exact zbr q
   ·intro a ha;cases ha
  ·split
   ·exact zJV h
   ·exact zJV h
theorem zLC {c:Cat} {l:List Fac} :∀a∈(yn c l).1,a.length≤64∧AltsOk 64 a:=by
 unfold yn;split
 ·intro a ha;cases ha
 ·exact zJV fun a ha=>by cases ha
set_option maxHeartbeats 8000000 in
theorem zJW {c:Cat} {d x z:D} (hc:qt c d) (hs:c.Sm) {l:List Fac} (hx:zV 12 (zJj l) x) (hl:l.length≤1048576) (hok:∀f∈l,f.Ok) {y:Cho} (hy:zMP y z) (hys:y.Sm) (p:Bool) (g:Heap):
  zA Tryz.prog 39 [d,x,z, .bool p] g fun r h'=>h'=g∧r= .int .i64 (yC c l y p):=by
 have hva:=zTr hc hs hx hl hok;have hcd:=hc;obtain⟨ca,cb,ce,cp,rfl,hca,_,_,_⟩:=hc;obtain⟨ya,yb,rfl,ha,hb⟩:=hy;obtain⟨y1,y2,y3⟩:=hys;have hv4:∀a b c e:D,zW true 4 [a,b,c,e] 0=some (.agg [a,b,c,e]):=fun a b c e=>zB rfl (by omega);have hlA:=zBp ha;have hlB:=yE hb;refine zA.pure (by kernel_rfl) fun hok'=> ?_;refine zA.post fun Q hQ=> ?_;obtain⟨E,hE⟩:∃E,yC c l y p=E:=⟨_,rfl⟩;have hQ2:∀h',Ext g h'→Q (.int .i64 E) h':=fun h' he=>hQ _ _ ⟨he,trivial,by rw[hE]⟩;clear hQ;unfold yC at hE;refine zA.of_fn (g:=zSi) mix Tryz.func39 zf0 rfl rfl ?_;simp only[Tryz.f39,gJ]
 repeat' first|simp only[go_sem,zI1, *]|apply bc<;>intro hc
 refine(hva _).mono ?_;rintro r h ⟨hq,td,od,rfl,htd,hod⟩;subst hq;clear hva;have e0:=Ext.refl h;have htd:zV 1 (zLK (yn c l).1) td:=htd.isSl;have hod:zV 1 (zy (yn c l).2.1) od:=hod.isSl;have hl1:=zTq htd;have hl2:=yE hod;have hvo:∀a∈(yn c l).1,a.length≤1048576:=fun a ha=>Nat.le_trans (zLC a ha).1 (by omega);cases q1:((yn c l).2.2==0) with
 |false=>
  rw[if_pos (by rw[q1];rfl)] at hE;have hq:=hQ2 h e0;rw[←hE] at hq;clear hQ2 hE
  repeat' first|simp only[go_sem,zI1, *]|apply bc<;>intro hc
 |true=>
 rw[if_neg (by rw[q1];decide)] at hE;generalize yn c l=v at *
 cases q2:((y.ts.length:Int)==(v.1.length:Int)) with
 |false=>
  rw[if_pos (by rw[q2];rfl)] at hE;have hq:=hQ2 h e0;rw[←hE] at hq;clear hQ2 hE
  repeat' first|simp only[go_sem,zI1, *]|apply bc<;>intro hc
 |true=>
 cases q3:((y.own.length:Int)==(v.2.1.length:Int)) with
 |false=>
  rw[if_pos (by rw[q2,q3];rfl)] at hE;have hq:=hQ2 h e0;rw[←hE] at hq;clear hQ2 hE
  repeat' first|simp only[go_sem,zI1, *]|apply bc<;>intro hc
 |true=>
 rw[if_neg (by rw[q2,q3];decide)] at hE;have hlt1:y.ts.length≤v.1.length:=by have:=of_decide_eq_true q2;omega
 obtain⟨F,hF⟩:∃F,zED (zEf v.1 y.ts p) y.ts.length=F:=⟨_,rfl⟩;rw[hF] at hE
 repeat' first|simp only[go_sem,zI1, *]|apply bc<;>intro hc
 clear q1;refine zC (fun i fr h2=>fr 3= .bool p∧fr 4= .iptr [ca,cb,ce,cp] 0∧fr 6= .iptr [ya,yb] 0∧fr 9=td∧fr 41=ya∧fr 42= .int .i64 (y.ts.length:Int)∧fr 43= .int .i64 (i:Int)∧Ext h h2∧∀j,j<i→zEf v.1 y.ts p j=0) y.ts.length (by omega) ?_ ?_ ?_
 ·have h0:∀j,j<0→zEf v.1 y.ts p j=0:=fun j hj=>absurd hj (Nat.not_lt_zero _);simp only[go_sem,zI1,true_and,and_true,Int.ofNat_zero];exact⟨e0,h0⟩
 ·rintro i fr h2 hlt ec ew ⟨f3,f4,f6,f9,f41,f42,f43,he,hj⟩;have a1:=zDE ha hlt;have a2:=zXw htd (show i<v.1.length by omega);have sm:=y3 _ (List.getElem_mem hlt);have hte:zEf v.1 y.ts p i=if(p&&((y.ts[i].ts.length:Int)==0))=true then 0 else if(!(v.1[i].any fun b=>zLL y.ts[i].ts b))=true then 1 else 0:=by
   unfold zEf;rw[List.getElem?_eq_getElem hlt];simp only;rw[List.getD_eq_getElem?_getD,List.getElem?_eq_getElem (by omega)];rfl
  have hnx:=fun(e:zEf v.1 y.ts p i=0)=>qz (f:=zEf v.1 y.ts p) hj e;have hat:=fun(e:zEf v.1 y.ts p i≠0)=>zBo (f:=zEf v.1 y.ts p) hlt hj e;rw[hF] at hat;have hrow:(h2.new h2.next (.row [y.ts[i].d])).at' h2.next=some (.row [y.ts[i].d]):=zM _ _ _;have heN:=he.new he.1 (.row [y.ts[i].d]);have hcf:=zCM (l:=v.1[i].map mkA) (d:=zSJ v.1[i]) (zV.mk .no) (by rw[List.length_map];exact hvo _ (List.getElem_mem _)) (f:=88) (cap:=[.ptr h2.next 0]) (p:=fun b=>zLL y.ts[i].ts b.ts) (g:=h2.new h2.next (.row [y.ts[i].d])) (fun s hs=>by
   obtain⟨t,ht,rfl⟩:=List.mem_map.1 hs;exact⟨zV.mk .no,zfF sm.sl (zV.mk .no) sm.len hrow⟩)
  have hany:(v.1[i].map mkA).any (fun b=>zLL y.ts[i].ts b.ts)=v.1[i].any fun b=>zLL y.ts[i].ts b:=by rw[List.any_map];rfl
  rw[hany] at hcf;clear hany;obtain⟨k1,k2,k3⟩:=zp sm.sl;have hla:=wC sm.sl;generalize y.ts[i]=a at *
  generalize v.1[i]=b at *
  have hst:zX Tryz.prog 168 (.ptr h2.next 0) a.d (h2.new h2.next (.row [.nilsl]))=some (h2.new h2.next (.row [a.d])):=by
   rw[zT (off:=0) (zM _ _ _) wG (by simp) k1 k3,zA3];rfl
  have had:(zSJ b).notTuple=true:=rfl;generalize h2.new h2.next (.row [a.d])=H at *
  clear hj hF ha hb htd hod y3 sm q2 q3;cases hp:p with
  |true=>
   subst hp;cases qa:((a.ts.length:Int)==0) with
   |true=>
    have hn:=hnx (by rw[hte,qa];rfl);clear hnx hat hte hcf hQ2 hE
    repeat' first|simp only[go_sem,zI1, *]|apply bc<;>intro hc
    exact hn
   |false=>
    rw[if_neg (by rw[qa];decide)] at hte;cases qb:(b.any fun t=>zLL a.ts t) with
    |true=>
     have hn:=hnx (by rw[hte,qb];rfl);rw[qb] at hcf;clear hnx hat hte hQ2 hE
     repeat' first|simp only[go_sem,zI1, *]|apply bc<;>intro hc|(refine zA.mono hcf ?_;rintro r h ⟨hq,rfl⟩)
     subst hq;exact hn
    |false=>
     have h1:F=1:=by rw[hat (by rw[hte,qb];decide),hte,qb];rfl
     subst h1;rw[if_pos (by decide)] at hE;have hq:=hQ2 H heN;rw[←hE] at hq;rw[qb] at hcf;clear hnx hat hte hQ2 hE
     repeat' first|simp only[go_sem,zI1, *]|apply bc<;>intro hc|(refine zA.mono hcf ?_;rintro r h ⟨rfl,rfl⟩)
  |false=>
   subst hp;rw[if_neg (by rw[Bool.false_and];decide)] at hte;cases qb:(b.any fun t=>zLL a.ts t) with
   |true=>
    have hn:=hnx (by rw[hte,qb];rfl);rw[qb] at hcf;clear hnx hat hte hQ2 hE
    repeat' first|simp only[go_sem,zI1, *]|apply bc<;>intro hc|(refine zA.mono hcf ?_;rintro r h ⟨hq,rfl⟩)
    subst hq;exact hn
   |false=>
    have h1:F=1:=by rw[hat (by rw[hte,qb];decide),hte,qb];rfl
    subst h1;rw[if_pos (by decide)] at hE;have hq:=hQ2 H heN;rw[←hE] at hq;rw[qb] at hcf;clear hnx hat hte hQ2 hE
    repeat' first|simp only[go_sem,zI1, *]|apply bc<;>intro hc|(refine zA.mono hcf ?_;rintro r h ⟨rfl,rfl⟩)
 ·rintro fr h2 ec ⟨f3,f4,f6,f9,f41,f42,f43,he,hj⟩;have hF0:F=0:=by rw[←hF];exact qy hj
  subst hF0;rw[if_neg (by decide)] at hE;clear hF hj htd hl1 hlt1 q2 q3
  repeat' first|simp only[go_sem,zI1, *]|apply bc<;>intro hc
  refine zC (fun i fr h2=>fr 3= .bool p∧fr 4= .iptr [ca,cb,ce,cp] 0∧fr 63=yb∧fr 64= .int .i64 (y.own.length:Int)∧fr 65= .int .i64 (i:Int)∧Ext h h2∧∀j,j<i→zTt c y.own p j=0) y.own.length (by omega) ?_ ?_ ?_
  ·have h0:∀j,j<0→zTt c y.own p j=0:=fun j hj=>absurd hj (Nat.not_lt_zero _);simp only[go_sem,zI1,true_and,and_true,Int.ofNat_zero];exact⟨f3,f4,he,h0⟩
  ·clear he;rintro i fr h2 hlt ec ew ⟨f3,f4,f63,f64,f65,he,hj⟩;have a1:=qI hb hlt;have hte:zTt c y.own p i=if(p&&(y.own[i]== []))=true then 0 else if(!(c.ls.any fun x=>x.name==y.own[i]))=true then 7 else 0:=by
    unfold zTt;rw[List.getElem?_eq_getElem hlt]
   have hnx:=fun(e:zTt c y.own p i=0)=>qz (f:=zTt c y.own p) hj e;have hat:=fun(e:zTt c y.own p i≠0)=>zBo (f:=zTt c y.own p) hlt hj e;rw[hE] at hat;generalize y.own[i]=s at *
   have hrow:(h2.new h2.next (.row [.str s])).at' h2.next=some (.row [.str s]):=zM _ _ _;have heN:=he.new he.1 (.row [.str s]);have hcf:=zG3 hca hs.ls.1 (f:=91) (cap:=[.ptr h2.next 0]) (p:=fun x=>x.name==s) (g:=h2.new h2.next (.row [.str s])) (fun x _=>zfG x s hrow);have hst:zX Tryz.prog 9 (.ptr h2.next 0) (.str s) (h2.new h2.next (.row [.str []]))=some (h2.new h2.next (.row [.str s])):=by
    rw[zT (off:=0) (zM _ _ _) qH (by simp) rfl rfl,zA3];rfl
   generalize h2.new h2.next (.row [.str s])=H at *
   clear hj hE ha hb hod y3;cases hp:p with
   |true=>
    subst hp;cases qa:(s== []) with
    |true=>
     have hn:=hnx (by rw[hte,qa];rfl);clear hnx hat hte hcf hQ2
     repeat' first|simp only[go_sem,zI1, *]|apply bc<;>intro hc
     exact hn
    |false=>
     rw[if_neg (by rw[qa];decide)] at hte;cases qb:(c.ls.any fun x=>x.name==s) with
     |true=>
      have hn:=hnx (by rw[hte,qb];rfl);rw[qb] at hcf;clear hnx hat hte hQ2
      repeat' first|simp only[go_sem,zI1, *]|apply bc<;>intro hc|(refine zA.mono hcf ?_;rintro r h ⟨hq,rfl⟩)
      subst hq;exact hn
     |false=>
      have h1:E=7:=by rw[hat (by rw[hte,qb];decide),hte,qb];rfl
      subst h1;have hq:=hQ2 H heN;rw[qb] at hcf;clear hnx hat hte hQ2
      repeat' first|simp only[go_sem,zI1, *]|apply bc<;>intro hc|(refine zA.mono hcf ?_;rintro r h ⟨rfl,rfl⟩)
   |false=>
    subst hp;rw[if_neg (by rw[Bool.false_and];decide)] at hte;cases qb:(c.ls.any fun x=>x.name==s) with
    |true=>
     have hn:=hnx (by rw[hte,qb];rfl);rw[qb] at hcf;clear hnx hat hte hQ2
     repeat' first|simp only[go_sem,zI1, *]|apply bc<;>intro hc|(refine zA.mono hcf ?_;rintro r h ⟨hq,rfl⟩)
     subst hq;exact hn
    |false=>
     have h1:E=7:=by rw[hat (by rw[hte,qb];decide),hte,qb];rfl
     subst h1;have hq:=hQ2 H heN;rw[qb] at hcf;clear hnx hat hte hQ2
     repeat' first|simp only[go_sem,zI1, *]|apply bc<;>intro hc|(refine zA.mono hcf ?_;rintro r h ⟨rfl,rfl⟩)
  ·clear he;rintro fr h2 ec ⟨f3,f4,f63,f64,f65,he,hj⟩;have h1:E=0:=by rw[←hE];exact qy hj
   subst h1;have hq:=hQ2 h2 he;clear hj hQ2 hE
   repeat' first|simp only[go_sem,zI1, *]|apply bc<;>intro hc
def nd (sz:Nat):List (List D)→D
 | []=> .nilsl
 |x::xs=> .sl sz (x::xs) .no
end Go.V
