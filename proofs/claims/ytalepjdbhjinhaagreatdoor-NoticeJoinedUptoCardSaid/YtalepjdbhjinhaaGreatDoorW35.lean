/- Rules of the machine of abstract values, part 9. No condition. -/
import Derived.Test.YtalepjdbhjinhaaGreatDoorW33
import Derived.Test.YtalepjdbhjinhaaGreatDoorW34
import Derived.Test.YtalepjdbhjinhaaGreatDoorW32
import Derived.Shelf.SlSortCmp.Whole1
import Derived.Test.YtalepjdbhjinhaaGreatDoorW23
import Derived.Test.YtalepjdbhjinhaaGreatDoorW30
set_option linter.all false
namespace Go.V
def zMg (h0 h:Heap) (sz:Nat) (xs:List (List D)) (d:D):Prop:=Ext h0 h∧((d= .nilsl∧xs= [])∨∃id,d= .rs id sz 0 xs.length∧h.at' id=some (.row xs.flatten)∧h0.next≤id∧id<h.next∧xs≠[])
section
variable {h0 h h':Heap} {sz:Nat} {xs:List (List D)} {d:D}
theorem zMg.start (he:Ext h0 h) (sz:Nat):zMg h0 h sz [] .nilsl:=⟨he, .inl ⟨rfl,rfl⟩⟩
theorem zMg.ext (ho:zMg h0 h sz xs d) (he:Ext h h'):zMg h0 h' sz xs d:=by
 refine⟨ho.1.trans he,?_⟩;rcases ho.2 with h1| ⟨id,rfl,h1,h2,h3,h4⟩
 ·exact .inl h1
 ·exact .inr ⟨id,rfl,by rw[he.2 _ h3];exact h1,h2,Nat.lt_of_lt_of_le h3 he.1,h4⟩
theorem zMg.trunc (ho:zMg h0 h sz xs d) (hxs:∀y∈xs,y.length=sz) (x:D):yv d x h=h:=by
 rcases ho.2 with⟨rfl,_⟩ | ⟨id,rfl,h1,_⟩
 ·rfl
 ·unfold yv;simp only;split
  ·rfl
  ·rw[h1];simp only;rw[if_neg (by rw[qR hxs];simp)]
theorem zTj {P:Program} {e x:TypeId} {cs:List D} (hu:P.underlying e=some (.slice x)):zAX P e cs= .row cs:=by simp[zAX,hu]
theorem zMg.app {P:Program} {ys:List (List D)} {tk:Tk} {t e:TypeId} (ho:zMg h0 h sz xs d) (he:yr P t=some e) (hz:zGM P e=true) (hs:szT P e=sz) (hp:0<sz) (hr:∀cs,zAX P e cs= .row cs) (hxs:∀y∈xs,y.length=sz) (hys:∀y∈ys,y.length=sz) (hy0:ys≠[])
  (hb:(xs.length+ys.length)*yY P e≤lim) (hl:xs.length+ys.length≤lim):∃d' G,zZ P true h.next t d (.sl sz ys tk) h=some (d',G)∧zMg h0 G sz (xs++ys) d'∧yv d (.sl sz ys tk) h=h:=by
 have htr:=ho.trunc hxs (.sl sz ys tk)
 suffices∃d' G,zZ P true h.next t d (.sl sz ys tk) h=some (d',G)∧zMg h0 G sz (xs++ys) d' from by
  obtain⟨d',G,q1,q2⟩:=this;exact⟨d',G,q1,q2,htr⟩
 clear htr;have hfl:ys.flatten.length=ys.length*sz:=qR hys;have hlen:0<ys.length:=List.length_pos_iff.2 hy0;obtain⟨hx,hc⟩:=ho;simp only[zZ,he,hz,hs,zKy,if_true,hfl,Nat.mul_div_cancel _ hp];have hx2:∀o,Ext h0 (h.new h.next o):=fun o=>hx.new hx.1 o;rcases hc with⟨rfl,rfl⟩ | ⟨id,rfl,h1,h2,h3,h4⟩
 ·refine⟨.rs h.next sz 0 ys.length,h.new h.next (.row ys.flatten),?_,hx2 _, .inr ⟨h.next,by simp,by rw[zQ];rfl,hx.1,by rw[zK];omega,by simpa using hy0⟩⟩;simp only[yk];rw[if_neg (by omega),if_pos (by simp only[Bool.and_eq_true,decide_eq_true_eq];simp only[List.length_nil,Nat.zero_add] at hb hl;exact⟨hb,hl⟩)];simp[hr]
 ·have hf2:xs.flatten.length=xs.length*sz:=qR hxs;have hE:Ext h0 ((h.del id).new h.next (.row (xs.flatten++ys.flatten))):=by
   refine⟨Nat.le_trans hx.1 (by show h.next≤max h.next _;omega),fun i hi=> ?_⟩;rw[zM (by have:=hx.1;omega),qP (by omega)];exact hx.2 i hi
  refine⟨.rs h.next sz 0 (xs.length+ys.length),(h.del id).new h.next (.row (xs.flatten++ys.flatten)),?_,hE, .inr ⟨h.next,by simp,by rw[zQ,List.flatten_append],hx.1,by show h.next<max h.next (h.next+1);omega,by simp[hy0]⟩⟩;simp only[yk,Bool.true_and,decide_true];rw[if_pos (by simp only[Bool.and_eq_true,decide_eq_true_eq];exact⟨hb,hl⟩)];simp only[h1,hf2,if_true,hr]
end
structure Own2 (h0 h:Heap) (s1:Nat) (xs:List (List D)) (d:D) (s2:Nat) (ys:List (List D)) (e:D):Prop where
 a:Own h0 h s1 xs d
 b:Own h0 h s2 ys e
 ap:∀i,wm d i→wm e i→False
section
variable {h0 h h':Heap} {s1 s2:Nat} {xs ys:List (List D)} {d e:D}
theorem Own2.start (he:Ext h0 h) (s1 s2:Nat):Own2 h0 h s1 [] .nilsl s2 [] .nilsl:=⟨Own.start he _,Own.start he _,fun i h=>h.elim⟩
theorem Own2.ext (ho:Own2 h0 h s1 xs d s2 ys e) (he:Ext h h'):Own2 h0 h' s1 xs d s2 ys e:=⟨ho.a.ext he,ho.b.ext he,ho.ap⟩
theorem Own2.swap (ho:Own2 h0 h s1 xs d s2 ys e):Own2 h0 h s2 ys e s1 xs d:=⟨ho.b,ho.a,fun i q p=>ho.ap i p q⟩
theorem Own2.appH {P:Program} {zs:List (List D)} {tk:Tk} {t u:TypeId} {K:D→Heap→Prop} {w:HidR K} (ho:Own2 h0 h s1 xs d s2 ys e) (he:yr P t=some u) (hz:zGM P u=true) (hs:szT P u=s1) (hp:0<s1) (hzs:∀y∈zs,y.length=s1) (hz0:zs≠[])
  (hb:(xs.length+zs.length)*yY P u≤lim) (hl:xs.length+zs.length≤lim) (hK:∀d' h',Own2 h0 h' s1 (xs++zs) d' s2 ys e→K d' h'):zZj (zZ P false h.next t d (.sl s1 zs tk) h) K w:=
 ho.a.2.1.app2 he hz hs hp hzs hz0 hb hl fun d' h' o n keep tk c f=>hK d' h' ⟨⟨⟨Nat.le_trans ho.a.1.1 n,fun i hi=>by rw[keep i (Nat.lt_of_lt_of_le hi ho.a.1.1) (fun q=>by have:=ho.a.2.2 i q;omega)];exact ho.a.1.2 i hi⟩,o,fun i hi=>Nat.le_trans ho.a.1.1 (tk i hi)⟩,
  ⟨⟨Nat.le_trans ho.a.1.1 n,fun i hi=>by rw[keep i (Nat.lt_of_lt_of_le hi ho.a.1.1) (fun q=>by have:=ho.a.2.2 i q;omega)];exact ho.a.1.2 i hi⟩,ho.b.2.1.loc n fun i hi=>keep i (ho.b.2.1.tok hi).1 fun q=>ho.ap i q hi,ho.b.2.2⟩,
  fun i q1 q2=>by have:=tk i q1;have:=(ho.b.2.1.tok q2).1;omega⟩
end
section
variable {h0 h h':Heap} {sz:Nat} {xs:List (List D)} {d:D}
theorem Own.appK {P:Program} {ys:List (List D)} {tk:Tk} {t e:TypeId} {K:D→Heap→Prop} {w:HidR K} (ho:Own h0 h sz xs d) (he:yr P t=some e) (hz:zGM P e=true) (hs:szT P e=sz) (hp:0<sz) (hys:∀y∈ys,y.length=sz) (hy0:ys≠[])
  (hb:(xs.length+ys.length)*yY P e≤lim) (hl:xs.length+ys.length≤lim) (hK:∀d' h',Own h0 h' sz (xs++ys) d'→h.next≤h'.next→(∀i,i<h.next→h.at' i≠some .tok→h'.at' i=h.at' i)→K d' h'):zZj (zZ P false h.next t d (.sl sz ys tk) h) K w:=
 ho.2.1.app2 he hz hs hp hys hy0 hb hl fun d' h' o n keep tk c f=>hK d' h' ⟨⟨Nat.le_trans ho.1.1 n,fun i hi=>by rw[keep i (Nat.lt_of_lt_of_le hi ho.1.1) (fun q=>by have:=ho.2.2 i q;omega)];exact ho.1.2 i hi⟩,o,fun i hi=>Nat.le_trans ho.1.1 (tk i hi)⟩ n fun i hi hn=>keep i hi fun q=>hn (ho.2.1.tok q).2
theorem Own.setK (ho:Own h0 h sz xs d) {id:Nat} {o:Obj} (hi:h0.next≤id) (hr:h.at' id=some o) (hne:o≠ .tok) (o':Obj):Own h0 (h.set id o') sz xs d:=
 ⟨ho.1.set hi _,ho.2.1.loc (Nat.le_refl _) fun i ht=>zH fun e=>by subst e;have:=(ho.2.1.tok ht).2;rw[hr] at this;exact hne (Option.some.inj this),ho.2.2⟩
end
open Go.Proofs
set_option maxRecDepth 100000
structure Alt where
 ts:List Trm
 d:D
structure Alt.Ok (a:Alt):Prop where
 sl:zX 2 (qg a.ts) a.d
 ne:a.ts≠[]
 len:a.ts.length≤4096
def mkA (ts:List Trm):Alt:=⟨ts, .sl 2 (qg ts) .no⟩
def yp (l:List Alt):List (List D):=l.map fun a=>[a.d]
theorem yj (l:List Alt):(yp l).length=l.length:=List.length_map ..
theorem zVy {l:List Alt} {i:Nat} (h:i<l.length):(yp l)[i]? =some [l[i].d]:=by simp[yp,h]
theorem zEs (l:List Alt):∀x∈yp l,x.length=1:=fun x hx=>by
 obtain⟨s,_,rfl⟩:=List.mem_map.1 hx;rfl
theorem zTk (l:List Alt):(yp l).flatten=l.map Alt.d:=by
 induction l with
 |nil=>rfl
 |cons a l ih=>simp only[yp,List.map_cons,List.flatten_cons] at ih⊢;rw[ih];rfl
theorem zCJ {l:List Alt} {d:D} (hd:zX 1 (yp l) d) (h:Heap):zAd Tryz.prog 30 d h=some (.int .i64 l.length):=by rw[zP hd Tryz.underlying30,yj]
theorem zDv {l:List Alt} {d:D} (hd:zX 1 (yp l) d) {i:Nat} (hi:i<l.length):zR Tryz.prog 30 d (.int .i64 (i:Int))=some (.iptr [l[i].d] 0):=zE hd wp we (zVy hi)
theorem zMO (ts:List Trm):zCj [(mkA ts).d]:=by
 have h:=yN (sz:=2) (xs:=qg ts) (fun x hx=>by
  obtain⟨y,_,rfl⟩:=List.mem_map.1 hx;exact⟨rfl,by simp[Trm.cells,yB,below],rfl⟩) .no
 exact⟨rfl,by simp only[yB];exact⟨h.2,trivial⟩,by simp only[yh];rw[show(mkA ts).d= .sl 2 (qg ts) .no from rfl,h.1]⟩
theorem zMP {l:List Alt} {d:D} (hd:zX 1 (yp l) d) (hl:l.length≤1048576) {f:FuncId} {cap:List D} {p:Alt→Bool} {g:Heap} (hp:∀s∈l,zX 2 (qg s.ts) s.d∧zA Tryz.prog f ([]++ [s.d]++cap) g fun r h'=>h'=g∧r= .bool (p s)):
  zA Tryz.prog 136 [d, .fn (.func f) [] cap] g fun r h'=>h'=g∧r= .int .i64 (zIT p l):=by
 have hlen:=zCJ hd;refine zA.of_fn (g:=zOf) mix Tryz.func136 zci rfl rfl ?_;simp only[Tryz.f136,gJ]
 repeat' first|simp only[go_sem,zR2, *]|apply bc<;>intro hc
 refine zD (fun i fr h=>fr 1= .fn (.func f) [] cap∧fr 0=d∧fr 6=d∧fr 7= .int .i64 (l.length:Int)∧fr 8= .int .i64 (i:Int)∧h=g∧∀j (hj:j<l.length),j<i→p l[j]=false) l.length (by omega) ?_ ?_ ?_
 ·simp only[go_sem,zR2,true_and,and_true,Int.ofNat_zero];exact fun j hj h0=>by omega
 ·rintro i fr h hlt e1 ew ⟨f1,f0,f6,f7,f8,rfl,hj⟩;have a1:=zDv hd hlt;obtain⟨ho,hq⟩:=hp _ (List.getElem_mem hlt);obtain⟨k1,k2,k3⟩:=zY ho;simp only[List.nil_append,List.cons_append] at hq;cases hb:p l[i] with
  |true=>
   have hx:=zCr hlt hj hb;rw[hb] at hq;clear hj hp hd ho
   repeat' first|simp only[go_sem,zR2, *]|apply bc<;>intro hc|(refine zA.mono hq ?_;rintro r h ⟨rfl,rfl⟩)
  |false=>
   have hn:=ql (p:=p) hlt hj hb;rw[hb] at hq;clear hj hp hd ho
   repeat' first|simp only[go_sem,zR2, *]|apply bc<;>intro hc|(refine zA.mono hq ?_;rintro r h ⟨rfl,rfl⟩)
   exact hn
 ·rintro fr h e1 ⟨f1,f0,f6,f7,f8,rfl,hj⟩;have hx:=zCs (p:=p) fun j hj'=>hj j hj' hj';clear hj hp hd
  repeat' first|simp only[go_sem,zR2, *]|apply bc<;>intro hc
theorem zCx {l:List Alt} {d:D} (hd:zX 1 (yp l) d) (hl:l.length≤1048576) {f:FuncId} {cap:List D} {p:Alt→Bool} {g:Heap} (hp:∀s∈l,zX 2 (qg s.ts) s.d∧zA Tryz.prog f ([]++ [s.d]++cap) g fun r h'=>h'=g∧r= .bool (p s)):
  zA Tryz.prog 87 [d, .fn (.func f) [] cap] g fun r h'=>h'=g∧r= .bool (l.any p):=by
 have hix:=zMP hd hl hp;have hge:=zFS (l:=l) (p:=p);refine zA.of_fn (g:=zU0) mix Tryz.func87 zim rfl rfl ?_;simp only[Tryz.f87,gJ]
 repeat' first|simp only[go_sem,zjl, *]|apply bc<;>intro hc|(refine zA.mono hix ?_;rintro r h ⟨rfl,rfl⟩)
theorem zd1 {a b:Alt} (ha:a.Ok) (hb:b.Ok) {id:Nat} {g:Heap} (hi:g.at' id=some (.row [a.d])):
  zA Tryz.prog 264 [b.d, .ptr id 0] g fun r h'=>h'=g∧r= .bool (zEp a.ts b.ts):=by
 have hc:=zKi ha.sl hb.sl (by have:=ha.len;omega) (by have:=hb.len;omega);refine zA.of_fn (g:=zRn) mix Tryz.func264 zfl rfl rfl ?_;simp only[Tryz.f264,gJ]
 repeat' first|simp only[go_sem,zfk, *]|apply bc<;>intro hc|(refine zA.mono (hc _) ?_;rintro r h ⟨rfl,rfl⟩)
open Go.Shelf Go.Proofs Go.Sort
open Go.RowKit (Below)
theorem zHv {α:Type} [Inhabited α] (enc:α→Value) (w:World) (blk off m:Nat) (dk:Array α) (os:Array Go.Obj):∀b,b≠blk→b<w.heap.size→(sortWorld enc w blk off m dk os).heap[b]? =w.heap[b]? :=fun b hb hl=>by
 show((putRow enc (Go.Sort.ahead w m) blk off dk).heap++os)[b]? =_;have hs:(putRow enc (Go.Sort.ahead w m) blk off dk).heap.size=w.heap.size:=by simp[putRow,mapBlock,Go.Sort.ahead]
 rw[Array.getElem?_append_left (by omega)];show((Go.Sort.ahead w m).heap.modify blk _)[b]? =_;rw[Array.getElem?_modify,if_neg (fun e=>hb e.symm)];rfl
section
variable {P:Program} {f cmp:FuncId} {β:Type} {dd:β→D} {xs:List β} {id:Nat} {pre post:List D} {h:Heap} {cf:β→β→Int}
abbrev zKj (dd:β→D) (xs:List β) (M:Imm) (ρ:Ren):= {p:β×Value // p.1∈xs∧rel M ρ (dd p.1) p.2∧(dd p.1).flat=true}
theorem zA.of_sort1 (h0:xs≠[]) (he:qV P f=true) (hcm:∀args w,(callFunc cmp args).run P w= .ok (.enter cmp args) w)
  (hrow:h.at' id=some (.row (pre++xs.map dd++post))) (hO:SWO (ltOf cf)) (hlen:xs.length<4611686018427387904)
  (hcmp:∀x∈xs,∀y∈xs,∀H,zA P cmp [dd x,dd y] H fun r H'=>H'=H∧r= .int .i64 (cf x y))
  (hlib:∀ (α:Type) [Inhabited α] (enc:α→Value),OneCell enc→∀ (cf:α→α→Int),SWO (ltOf cf)→∀ (g:Nat) (cb:Array Value) (blk off cap:Nat) (d:Array α) (w:World),
   (∀args w,(callFunc g args).run P w= .ok (.enter g args) w)→CmpLays1 P g cb enc cf blk off d.size w→Go.Sort.Holds enc w blk off d→blk<w.heap.size→d.size<4611686018427387904→
   Calls P f #[.slice (some ⟨blk,off,none⟩) d.size cap, .func (.func g) #[] cb] w fun e w'=>e= .returned (.tuple #[])∧∃d' n os,PermIn 0 d.size d d'∧SortedIn (ltOf cf) 0 d.size d'∧w'=sortWorld enc w blk off n d' os):
  zA P f [.rs id 1 pre.length xs.length, .fn (.func cmp) [] []] h fun r h'=>r= .tuple []∧∃ys:List β,ys.Perm xs∧ys.Pairwise (fun a b=>¬cf b a<0)∧h'=h.set id (.row (pre++ys.map dd++post)):=by
 refine⟨he,fun w0 G M ρ w va hg0 hs hfr hr=> ?_⟩;simp only[zy] at hr;obtain⟨v,vs',hva,hv,v2,vs2,rfl,hv2,rfl⟩:=hr;simp only[rel,zy] at hv hv2;obtain⟨_,hlim,l,cap,o,hl,rfl,⟨hc1,hc2⟩,hsz,ho⟩:=hv;obtain⟨_,fa,fc,rfl,hfa,hfc⟩:=hv2;have hfa':fa= #[]:=Array.ext' (by simpa using hfa);have hfc':fc= #[]:=Array.ext' (by simpa using hfc);subst hfa' hfc';have hxl:0<xs.length:=List.length_pos_iff.2 h0;have ho:o=pre.length:=by
  rcases ho with hz|ho
  ·omega
  ·exact ho
 subst ho;have hva':va= #[.slice (some ⟨l.blk,pre.length,none⟩) xs.length cap, .func (.func cmp) #[] #[]]:=Array.ext' (by simpa using hva);subst hva';obtain⟨l',h1,hkeep,hM,c,e,hw,hls,hcl,hcells⟩:=hs.live id _ hrow;rw[hl] at h1;cases h1;have hblk:l.blk<w.heap.size:=(Array.getElem?_eq_some_iff.1 hw).1;have hat:∀i (hi:i<xs.length),(pre++xs.map dd++post)[pre.length+i]? =some (dd xs[i]):=fun i hi=>by
  rw[List.append_assoc,List.getElem?_append_right (by omega),Nat.add_sub_cancel_left,List.getElem?_append_left (by simpa using hi),List.getElem?_map,List.getElem?_eq_getElem hi];rfl
 have hval:∀i (hi:i<xs.length),∃v,c[pre.length+i]? =some v∧rel M ρ (dd xs[i]) v∧(dd xs[i]).flat=true:=fun i hi=>by
  obtain⟨h1,v,h2,h3⟩:=hcells _ _ (hat i hi);exact⟨v,h2,h3,h1⟩
 let mk:_root_.Fin xs.length→zKj dd xs M ρ:=fun i=>⟨(xs[i.1],(hval i.1 i.2).choose),List.getElem_mem i.2,(hval i.1 i.2).choose_spec.2⟩
 letI:Inhabited (zKj dd xs M ρ):=⟨mk ⟨0,hxl⟩⟩
 let enc:zKj dd xs M ρ→Value:=fun p=>p.1.2
 have henc1:OneCell enc:=fun p=>zFd p.2.2.1 p.2.2.2
 let d:Array (zKj dd xs M ρ):=Array.ofFn mk
 have hd:d.size=xs.length:=by simp[d]
 have hdi:∀i (hi:i<xs.length),d[i]! =mk ⟨i,hi⟩:=fun i hi=>by rw[getElem!_pos d i (by rw[hd];exact hi)];simp[d]
 have hdl:d.toList.map (fun p=>p.1.1)=xs:=by
  apply List.ext_getElem?;intro i;rw[List.getElem?_map,Array.getElem?_toList];by_cases hi:i<xs.length
  ·rw[Array.getElem?_eq_getElem (by rw[hd];exact hi),List.getElem?_eq_getElem hi,Option.map_some];simp[d,mk]
  ·rw[Array.getElem?_eq_none (by omega),List.getElem?_eq_none (by omega)];rfl
 have hO':SWO (ltOf fun p q:zKj dd xs M ρ=>cf p.1.1 q.1.1):=⟨fun x=>hO.irrefl _,fun x y z=>hO.trans _ _ _,fun x y z=>hO.ntrans _ _ _⟩;have hholds:Go.Sort.Holds enc w l.blk pre.length d:=by
  intro j hj;rw[hd] at hj;refine⟨?_,by simp[World.frozen?,hw]⟩;rw[hdi _ hj];have hv:=(hval j hj).choose_spec.1;simp only[World.cell?,hw,Option.isSome_none,Bool.false_eq_true,if_false];exact hv
 have hlays:CmpLays1 P cmp #[] enc (fun p q=>cf p.1.1 q.1.1) l.blk pre.length d.size w:=by
  intro m os dk hdk x y;have hfrm:=zHv enc w l.blk pre.length m dk os;have hgood:zMy P (sortWorld enc w l.blk pre.length m dk os):=⟨fun g hg=>by
   have h2:=hg0.here hs.below hg;unfold Lib.TabIs World.var? at h2⊢;rw[hg] at h2⊢;simp only[Option.bind_some] at h2⊢;have hgk:=(hg0.1 g hg).1;rw[hfrm g (fun q=>hkeep (q▸hgk)) (Nat.lt_of_lt_of_le (w0.kept g hgk) hs.below.size)];exact h2,fun g hg=>by
   obtain⟨m,hm⟩:=hg0.max hs.below hg;have hgk:=(hg0.2 g hg).1;exact⟨m,(World.cell?_of_block (w:=w) (hfrm g (fun q=>hkeep (q▸hgk)) (Nat.lt_of_lt_of_le (w0.kept g hgk) hs.below.size))).trans hm⟩⟩
  refine zA.stays (fun H=>(hcmp x.1.1 x.2.1 y.1.1 y.2.1 H).mono fun r H' hq=>hq.2) (fun M ρ v hv=>by simp only[rel] at hv;exact hv.1) (M:=M) (ρ:=ρ) (n:=h.next) (fun b o v hb=> ?_) hgood hfr ?_
  ·have hne:b≠l.blk:=fun q=>by subst q;rw[hM o] at hb;cases hb
   rw[←hs.imm b o v hb];exact World.cell?_of_block (w:=w) (hfrm b hne (hs.lt hb))
  ·show zy M ρ _ [_,_];simp only[zy];exact⟨_,_,rfl,x.2.2.1,_,_,rfl,y.2.2.1,rfl⟩
 have hcall:=hlib (zKj dd xs M ρ) enc henc1 (fun p q=>cf p.1.1 q.1.1) hO' cmp #[] l.blk pre.length cap d w hcm hlays hholds hblk (by rw[hd];exact hlen);rw[hd] at hcall;refine hcall.mono fun e w' hq=> ?_;obtain⟨rfl,d',n,os,hperm,hsorted,rfl⟩:=hq;rw[←hd] at hperm;have hpl:=PermIn.list hperm;have hd':d'.size=xs.length:=by rw[hperm.1,hd]
 have hys:(d'.toList.map fun p=>p.1.1).Perm xs:=by
  have q:=hpl.map (fun p=>p.1.1)
  rwa [hdl] at q
 let mk2:zKj dd xs M ρ→zbL:=fun p=>⟨(dd p.1.1,p.1.2),p.2.2.2⟩
 have hm1:∀dk:List (zKj dd xs M ρ),(dk.map mk2).map (fun q=>q.1.1)=(dk.map fun p=>p.1.1).map dd:=fun dk=>by rw[List.map_map,List.map_map];rfl
 have hm2:∀dk:List (zKj dd xs M ρ),(dk.map mk2).map (fun q=>q.1.2)=dk.map enc:=fun dk=>by rw[List.map_map];rfl
 have hrow2:h.at' id=some (.row (pre++(d.toList.map mk2).map (fun q=>q.1.1)++post)):=by rw[hm1,hdl];exact hrow
 have hS:=(hs.ahead n).putRow (α:=zbL) (enc:=fun q=>q.1.2) (dd:=fun q=>q.1.1) (fun q=>q.2) hrow2 hl (ys:=d'.toList.map mk2) (hpl.map mk2).length_eq (fun q hq=>by
  obtain⟨p,hp,rfl⟩:=List.mem_map.1 hq;exact p.2.2.1)
 have hS2:=hS.grow os;rw[zFW,List.map_toArray,hm2,hm1,←List.map_toArray,Array.toArray_toList,←zFW] at hS2;refine⟨.tuple #[],M,ρ, .tuple [],_,rfl,MLe.refl _,RLe.refl _,hS2,hfr,by simp only[rel,zy];exact⟨#[],rfl,rfl⟩,rfl,d'.toList.map (fun p=>p.1.1),hys,?_,rfl⟩;rw[List.pairwise_map,List.pairwise_iff_getElem];intro i j hi hj hij;have hj':j<d'.size:=by simpa using hj
 have:=hsorted i j (Nat.zero_le _) hij (by omega);rw[getElem!_pos d' j hj',getElem!_pos d' i (by omega)] at this;simpa [ltOf] using this
end
open Go.Proofs Go.Shelf Go.Sort
theorem zTl:QC zFM where
 anti x y:=by unfold zFM;(repeat' split)<;>omega
 trans x y z h1 h2:=by
  have e:∀a b:Int,zFM a b≤0↔a≤b:=fun a b=>by unfold zFM;(repeat' split)<;>omega
  rw[e] at *;omega
theorem zJR:∀a b:List Trm,zAm a b=zGh zO a b
 | [],[]=>rfl
 | [],_::_=>rfl
 |_::_,[]=>rfl
 |x::xs,y::ys=>by
  simp only[zAm,zGh,zQK,zJR xs ys];by_cases h:zO x y=0<;>simp[h]
theorem zAz (a b:List Trm):zDa a b=zQK (zFM a.length b.length) (zGh zO a b):=by
 unfold zDa zQK;simp only[orL,zJR];split
 ·split
  ·rename_i q;exact q.symm
  ·rfl
 ·rfl
theorem zHw:QC zDa:=by
 have:=(zTl.key (γ:=List Trm) (fun a=>(a.length:Int))).lex zCw.list;exact⟨fun x y=>by rw[zAz,zAz];exact this.anti x y,fun x y z=>by rw[zAz,zAz,zAz];exact this.trans x y z⟩
theorem zMQ (x y:List Trm) (h:zDa x y=0):x=y:=by
 rw[zAz,zQK] at h;split at h
 ·exact zNo zEr _ _ h
 ·rename_i q;exact absurd h q
theorem zKk (l:List (List Trm)):(yp (l.map mkA)).flatten=l.map fun ts=>(mkA ts).d:=by rw[zTk,List.map_map];rfl
theorem zZ6 {l:List (List Trm)} {id:Nat} {g:Heap} (h0:l≠[]) (hl:l.length≤1048576) (hle:∀ts∈l,ts.length≤1048576) (hrow:g.at' id=some (.row (yp (l.map mkA)).flatten)):
  zA Tryz.prog 262 [.rs id 1 0 l.length, .fn (.func 263) [] []] g fun r h'=>r= .tuple []∧h'=g.set id (.row (yp ((srt zDa l).map mkA)).flatten):=by
 have:=zA.of_sort1 (P:=Tryz.prog) (f:=262) (cmp:=263) (dd:=fun ts=>(mkA ts).d) (xs:=l) (id:=id) (pre:=[]) (post:=[]) (h:=g) (cf:=zDa) h0 (by kernel_rfl) (enters_of Tryz.func263 (by kernel_rfl) rfl) (by simpa [zKk] using hrow) zHw.swo (by omega)
  (fun x hx y hy H=>zML (zX.mk .no) (zX.mk .no) (hle x hx) (hle y hy) H) (fun α _ enc h1 cf hO g cb blk off cap d w hg hc hH hb hs=>Any.slices_SortFunc Tryz.sortAlt enc h1 cf hO g cb blk off cap d w hg hc hH hb hs)
 refine this.mono fun r h' ⟨e1,ys,hp,hs,e2⟩=>⟨e1,?_⟩;rw[e2,zTd zHw zMQ hp hs,zKk];simp
def zAi (ts:List Trm):List Trm:=cpt zO (srt zO ts)
def zCy (out:List (List Trm)) (a:List Trm):List (List Trm):=if(out.any fun b=>zEp a b)=true then out else out++ [a]
def zCK (l:List (List Trm)):Nat→List (List Trm)
 |0=>[]
 |n+1=>match l[n]? with
  |none=>zCK l n
  |some a=>zCy (zCK l n) a
def wT (l:List (List Trm)):List (List Trm):=srt zDa (l.map zAi)
def yX (l:List (List Trm)):List (List Trm):=zCK (wT l) (wT l).length
theorem zPL {ts:List Trm} (h:ts≠[]):zAi ts≠[]:=fun e=>by
 have h1:0<(srt zO ts).length:=by rw[(w8 ts).length_eq];exact List.length_pos_iff.2 h
 have:=zPJ (c:=zO) h1 _ (Nat.le_refl _) h1;rw[show zBN zO (srt zO ts) (srt zO ts).length=zAi ts from rfl,e] at this
 exact absurd this (Nat.lt_irrefl _)
theorem zMR (ts:List Trm):(zAi ts).length≤ts.length:=by
 have:=zGi (c:=zO) (l:=srt zO ts) (srt zO ts).length;rw[(w8 ts).length_eq] at this;exact(by rw[←(w8 (c:=zO) ts).length_eq];exact zGi _)
theorem zPM {ts:List Trm} (h:ts≠[]) (hl:ts.length≤4096):(mkA ts).Ok:=⟨zX.mk .no,h,hl⟩
theorem zCz {l:List (List Trm)} :∀n,∀x∈zCK l n,x∈l
 |0,x,h=>by cases h
 |n+1,x,h=>by
  rw[zCK] at h;split at h
  ·exact zCz n x h
  ·rename_i a e;unfold zCy at h;split at h
   ·exact zCz n x h
   ·rcases List.mem_append.1 h with h|h
    ·exact zCz n x h
    ·cases List.mem_singleton.1 h;exact List.mem_of_getElem? e
theorem zHx {l:List (List Trm)} :∀n,(zCK l n).length≤n
 |0=>Nat.le_refl _
 |n+1=>by
  have ih:=zHx (l:=l) n;rw[zCK];split
  ·omega
  ·unfold zCy;split
   ·omega
   ·rw[List.length_append];simp only[List.length_cons,List.length_nil];omega
theorem zMS {l:List (List Trm)} {x:List Trm} (h:x∈yX l):∃y∈l,x=zAi y:=by
 have:=zNp.1 (zCz _ x h);obtain⟨y,hy,rfl⟩:=List.mem_map.1 this;exact⟨y,hy,rfl⟩
theorem zHy (d:D) (nid:Nat) (h:Heap) (h1:d.cells= [d]) (h2:d.notTuple=true) (h3:d.flat=true):zS Tryz.prog false nid 30 1 [(0,d)] h=some (.sl 1 [[d]] .full,h):=by
 have:=yR (P:=Tryz.prog) (nid:=nid) (h:=h) (x:=d) wp zLa we rfl rfl (by omega) (by omega) h2 (by rw[h1];rfl);rw[h1] at this;exact this
set_option maxHeartbeats 4000000 in
theorem zHz {l:List Alt} {d:D} (hd:zX 1 (yp l) d) (h0:l≠[]) (hl:l.length≤1048576) (hok:∀a∈l,a.Ok) (g:Heap):
  zA Tryz.prog 230 [d] g fun r h'=>h'=g∧Fin 1 (yp ((yX (l.map Alt.ts)).map mkA)) r:=by
 refine zA.pure (by kernel_rfl) fun hok'=>zA.strip ?_;have hlen:=zCJ hd;refine zA.post fun Q hQ=> ?_;have hE0:=Own.start (Ext.refl g) 1;refine zA.of_fn (g:=zSm) mix Tryz.func230 zg9 rfl rfl ?_;simp only[Tryz.f230,gJ]
 repeat' first|simp only[go_sem,zGB, *]|apply bc<;>intro hc
 refine zD (fun i fr h=>∃s,fr 10=d∧fr 11= .int .i64 (l.length:Int)∧fr 12= .int .i64 (i:Int)∧fr 3=s∧zMg g h 1 (yp (((l.take i).map fun a=>zAi a.ts).map mkA)) s) l.length (by omega) ?_ ?_ ?_
 ·have hs:=zMg.start (Ext.refl g) 1;simp only[go_sem,zGB,true_and,and_true,Int.ofNat_zero];exact⟨_,rfl,hs⟩
 ·rintro i fr h hlt e1 ew ⟨s,f10,f11,f12,f3,ho⟩;have a1:=zDv hd hlt;obtain⟨o1,o2,o3⟩:=hok _ (List.getElem_mem hlt);have htk:(l.take (i+1)).map (fun a=>zAi a.ts)=(l.take i).map (fun a=>zAi a.ts)++ [zAi l[i].ts]:=by rw[List.take_succ_eq_append_getElem hlt,List.map_append];rfl
  have hli:((l.take i).map fun a=>zAi a.ts).length=i:=by rw[List.length_map,List.length_take];omega
  rw[htk];clear htk;generalize l[i]=a at *
  generalize(l.take i).map (fun a=>zAi a.ts)=pre at *
  obtain⟨k1,k2,k3⟩:=zY o1;have hcl:=fun h=>zTg o1 o2 (by omega) h;have hso:=fun(H:Heap) (hr:H.at' h.next=some (.row (qg a.ts).flatten))=>zZ5 (id:=h.next) o2 (by omega) hr;have hn0:srt zO a.ts≠[]:=fun e=>o2 (List.length_eq_zero_iff.1 (by rw[←(w8 (c:=zO) a.ts).length_eq,e];rfl));have hnl:(srt zO a.ts).length=a.ts.length:=(w8 a.ts).length_eq;have hco:=fun(H:Heap) (hr:H.at' h.next=some (.row (qg (srt zO a.ts)).flatten))=>zNq (id:=h.next) hn0 (by omega) hr;rw[hnl] at hco;have hnd:D.sl 2 (qg (cpt zO (srt zO a.ts))) .no=(mkA (zAi a.ts)).d:=rfl;clear hd hok hlen
  repeat' first|simp only[go_sem,zGB, *]|apply bc<;>intro hc|(refine zA.mono (hcl _) ?_;rintro r h ⟨rfl,rfl⟩)
  refine(hso _ (zQ _ _ _)).mono ?_;rintro r h2 ⟨rfl,rfl⟩
  repeat' first|simp only[go_sem,zGB, *]|apply bc<;>intro hc
  refine(hco _ (zF _ _ _)).mono ?_;rintro r h2 ⟨rfl,rfl⟩;have hE:Ext h (((h.new h.next (.row (qg a.ts).flatten)).set h.next (.row (qg (srt zO a.ts)).flatten)).del h.next):=(((Ext.refl h).new (Nat.le_refl _) _).set (Nat.le_refl _) _).del (Nat.le_refl _);generalize((h.new h.next (.row (qg a.ts).flatten)).set h.next (.row (qg (srt zO a.ts)).flatten)).del h.next=H at *
  have hoH:=ho.ext hE;obtain⟨d',G,hap,hoG,htr⟩:=hoH.app (P:=Tryz.prog) (ys:=yp [mkA (zAi a.ts)]) (tk:= .full) wp zES we (by omega) (fun cs=>zTj Tryz.underlying168) (zEs _) (zEs _) (by simp[yp]) (by rw[yj,List.length_map,hli,zBr];unfold lim;simp[yp];omega) (by rw[yj,List.length_map,hli];unfold lim;simp[yp];omega);have hone:=zHy (mkA (zAi a.ts)).d H.next H rfl rfl rfl;have hal:yp [mkA (zAi a.ts)]= [[(mkA (zAi a.ts)).d]]:=rfl;rw[hal] at hap htr;have hfin:zMg g G 1 (yp ((pre++ [zAi a.ts]).map mkA)) d':=by
   rw[List.map_append]
   have:yp (pre.map mkA++List.map mkA [zAi a.ts])=yp (pre.map mkA)++yp [mkA (zAi a.ts)]:=by simp[yp]
   rw[this];exact hoG
  clear ho hoH hoG hso hco hcl hal
  repeat' first|simp only[go_sem,zGB, *]|apply bc<;>intro hc
  exact⟨_,rfl,hfin⟩
 ·rintro fr h e1 ⟨s,f10,f11,f12,f3,ho⟩;rw[List.take_length] at ho;have hS:srt zDa (l.map fun a=>zAi a.ts)=wT (l.map Alt.ts):=by rw[wT,List.map_map];rfl
  have hSl:(wT (l.map Alt.ts)).length=l.length:=by rw[←hS,(w8 _).length_eq,List.length_map]
  have hm0:l.map (fun a=>zAi a.ts)≠[]:=by simp[h0]
  have hml:(l.map fun a=>zAi a.ts).length=l.length:=List.length_map ..;have hmok:∀ts∈wT (l.map Alt.ts),ts≠[]∧ts.length≤4096:=fun ts h=>by
   rw[←hS] at h;obtain⟨a,ha,rfl⟩:=List.mem_map.1 (zNp.1 h);exact⟨zPL (hok a ha).ne,Nat.le_trans (zMR _) (hok a ha).len⟩
  have hle:∀ts∈l.map (fun a=>zAi a.ts),ts.length≤1048576:=fun ts h=>by
   have:=(hmok ts (by rw[←hS];exact zNp.2 h)).2;omega
  obtain⟨hx,hc⟩:=ho;rcases hc with⟨_,e⟩ | ⟨id,rfl,hrow,hid,hidn,_⟩
  ·exact absurd (by simpa [yp] using e) h0
  have hal:(yp ((l.map fun a=>zAi a.ts).map mkA)).length=l.length:=by rw[yj,List.length_map,hml]
  rw[hal] at f3;have hso:=zZ6 hm0 (by omega) hle hrow;have hmin:yX (l.map Alt.ts)=zCK (wT (l.map Alt.ts)) (wT (l.map Alt.ts)).length:=rfl;rw[hmin] at hQ;clear hmin;rw[hml,hS] at hso;generalize wT (l.map Alt.ts)=L at *
  have E0:Ext g (h.set id (.row (yp (L.map mkA)).flatten)):=hx.set hid _;have hQ2:∀r h',Ext g h'→below g.next (yC r)→Fin 1 (yp ((zCK L L.length).map mkA)) (yC r)→Q r h':=fun r h' q1 q2 q3=>hQ r h' ⟨q1,q2,q3⟩;clear hQ hd hlen hS hm0 hml hle hal
  repeat' first|simp only[go_sem,zGB, *]|apply bc<;>intro hc|(refine zA.mono hso ?_;rintro r h ⟨rfl,rfl⟩)
  have r0:(h.set id (.row (yp (L.map mkA)).flatten)).at' id=some (.row (yp (L.map mkA)).flatten):=zF _ _ _;have hidn2:id<(h.set id (.row (yp (L.map mkA)).flatten)).next:=hidn;generalize h.set id (.row (yp (L.map mkA)).flatten)=H at *
  have hvl:=fun(h:Heap)=>zHT (P:=Tryz.prog) (t:=30) (sz:=1) (id:=id) (off:=0) (len:=l.length) (h:=h) Tryz.underlying30
  repeat' first|simp only[go_sem,zGB, *]|apply bc<;>intro hc
  refine zD (fun i fr h=>∃o,fr 28= .rs id 1 0 l.length∧fr 29= .int .i64 (l.length:Int)∧fr 30= .int .i64 (i:Int)∧fr 7=o∧Own H h 1 (yp ((zCK L i).map mkA)) o) l.length (by omega) ?_ ?_ ?_
  ·have hs:=Own.start (Ext.refl H) 1;simp only[go_sem,zGB,true_and,and_true,Int.ofNat_zero];exact⟨_,rfl,hs⟩
  ·rintro i fr h2 hlt ec ew ⟨o,f28,f29,f30,f7,ho⟩;have hlt':i<L.length:=by omega
   have a1:=qk (P:=Tryz.prog) (sz:=1) (id:=id) wp we (k:= .i64) hlt;have hrow2:h2.at' id=some (.row (yp (L.map mkA)).flatten):=by rw[ho.1.2 _ hidn2];exact r0
   have hLi:(yp (L.map mkA)).flatten[i*1]? =some (mkA L[i]).d:=by rw[zKk,Nat.mul_one,List.getElem?_map,List.getElem?_eq_getElem hlt'];rfl
   obtain⟨m1,m2⟩:=hmok L[i] (List.getElem_mem hlt');have hmi:zCK L (i+1)=zCy (zCK L i) L[i]:=by rw[zCK,List.getElem?_eq_getElem hlt']
   have hsub:∀x∈zCK L i,x≠[]∧x.length≤4096:=fun x hx=>hmok x (zCz i x hx);have hml:=zHx (l:=L) i;rw[hmi];clear hmi;generalize L[i]=a at *
   generalize zCK L i=out at *
   have hnx:h2.next<(h2.new h2.next (.row [(mkA a).d])).next:=by rw[zK];omega
   have hrn:(h2.new h2.next (.row [(mkA a).d])).at' h2.next=some (.row [(mkA a).d]):=zQ _ _ _;have hstn:zW Tryz.prog 168 (.ptr h2.next 0) (mkA a).d (h2.new h2.next (.row [.nilsl]))=some (h2.new h2.next (.row [(mkA a).d])):=by
    rw[zh (zQ _ _ _) we (by simp) rfl rfl,zFI];rfl
   have hoN:=ho.ext ((Ext.refl h2).new (Nat.le_refl _) (.row [(mkA a).d]));have hcf:=zCx (l:=out.map mkA) (d:=o) hoN.isSl (by rw[List.length_map];omega) (f:=264) (cap:=[.ptr h2.next 0]) (p:=fun b=>zEp a b.ts) (g:=h2.new h2.next (.row [(mkA a).d])) (fun s hs=>by
    obtain⟨y,hy,rfl⟩:=List.mem_map.1 hs;obtain⟨n1,n2⟩:=hsub y hy;exact⟨(zPM n1 n2).sl,zd1 (zPM m1 m2) (zPM n1 n2) hrn⟩)
   have hany:(out.map mkA).any (fun b=>zEp a b.ts)=out.any fun b=>zEp a b:=by rw[List.any_map];rfl
   rw[hany] at hcf;have hck:(mkA a).d.cells= [(mkA a).d]∧(mkA a).d.notTuple=true:=⟨rfl,rfl⟩;obtain⟨k1,k2⟩:=hck;cases hb:(out.any fun b=>zEp a b) with
   |true=>
    have hst:zCy out a=out:=if_pos hb;rw[hst];rw[hb] at hcf;clear hmok hsub hany hst hb hQ2 ho;generalize h2.new h2.next (.row [(mkA a).d])=h3 at *
    repeat' first|simp only[go_sem,zGB, *]|apply bc<;>intro hc|(refine zA.mono hcf ?_;rintro r h ⟨rfl,rfl⟩)
    exact⟨_,rfl,hoN⟩
   |false=>
    have hst:zCy out a=out++ [a]:=if_neg (by rw[hb];exact Bool.false_ne_true);rw[hst];rw[hb] at hcf;have hone:=fun nid h=>zHy (mkA a).d nid h rfl rfl rfl;clear hmok hsub hany hst hb hQ2 ho;have hld:zBi Tryz.prog 168 (.ptr h2.next 0) (h2.new h2.next (.row [(mkA a).d]))=some (mkA a).d:=by
     simp only[go_sem,hrn]
    generalize h2.new h2.next (.row [(mkA a).d])=h3 at *
    repeat' first|simp only[go_sem,zGB, *]|apply bc<;>intro hc|(refine zA.mono hcf ?_;rintro r h ⟨rfl,rfl⟩)
    refine hoN.appH (ys:=yp [mkA a]) wp zES we (by omega) (zEs _) (by simp[yp]) (by rw[yj,List.length_map,zBr];unfold lim;simp[yp];omega) (by rw[yj,List.length_map];unfold lim;simp[yp];omega) fun d' h' ho'=> ?_;have ho2:Own H h' 1 (yp ((out++ [a]).map mkA)) d':=by
     rw[List.map_append]
     have:yp (out.map mkA++List.map mkA [a])=yp (out.map mkA)++yp [mkA a]:=by simp[yp]
     rw[this];exact ho'
    clear hoN ho'
    repeat' first|simp only[go_sem,zGB, *]|apply bc<;>intro hc
    exact⟨_,rfl,ho2⟩
  ·rintro fr h2 ec ⟨o,f28,f29,f30,f7,ho⟩;have hfin:=ho.2.1.fin (fun x hx=>by
    obtain⟨y,hy,rfl⟩:=List.mem_map.1 hx;obtain⟨z,_,rfl⟩:=List.mem_map.1 hy;exact zMO z)
   have hq:=hQ2 o h2 (E0.trans ho.1) (zu (Nat.zero_le _) _ hfin.1) (by rw[hSl];exact hfin.2);clear hQ2 hfin hmok ho
   repeat' first|simp only[go_sem,zGB, *]|apply bc<;>intro hc
noncomputable def zZ7:Cfg:=⟨fun t=>List.contains (α:=Nat) [22] t,fun i=>(zJ5 (α:=List (Nat×Fl)) [] i).getD []⟩
theorem zj2 (t:Tmp):zZ7.mu t=List.contains (α:=Nat) [22] t:=(rfl)
theorem zj3:zj Tryz.prog zZ7 Tryz.f291=true:=by kernel_rfl
noncomputable def zZ8:Cfg:=⟨fun t=>List.contains (α:=Nat) [33] t,fun i=>(zJ5 (α:=List (Nat×Fl)) [] i).getD []⟩
theorem zXi (t:Tmp):zZ8.mu t=List.contains (α:=Nat) [33] t:=(rfl)
theorem zj4:zj Tryz.prog zZ8 Tryz.f268=true:=by kernel_rfl
theorem zZ9 {n:Nat} (h0:0<n) (hn:n≤1048576) (h:Heap):
  zA Tryz.prog 291 [.nilsl, .int .i64 n] h fun r h'=>∃xs:List D,xs.length=n*2∧r= .rs h.next 2 0 0∧h'=h.new h.next (.row xs):=by
 have e1:decide ((n:Int)<0)=false:=decide_eq_false (by omega);have e2:IntKind.i64.wrap (0-0)=0:=rfl;have e3:IntKind.i64.wrap ((n:Int)-0)=n:=by rw[zx (by omega) (by omega)];omega
 have e4:decide ((n:Int)>0)=true:=decide_eq_true (by omega);have e5:yZ Tryz.prog 168 .nilsl none (some (.int .i64 0)) none h=some .nilsl:=by
  simp[yZ,zET,zCN,yo,wi,qj,zIC,zJa]
 have e6:wn Tryz.prog true h.next 168 3 .nilsl (.int .i64 n) h=some (.rs h.next 2 0 n,h.new h.next (.row (zBW n [.str [], .str []]))):=by
  have hb:n*32≤lim:=by unfold lim;omega
  have hb2:n≤lim:=by unfold lim;omega
  simp only[wn,Tryz.underlying3,yo,zCB,wi,zHI,Int.toNat_natCast,D.notTuple,D.cells];rw[if_pos (by simp[hb,hb2,h0]),zCC Tryz.underlying51]
 have e7:yZ Tryz.prog 168 (.rs h.next 2 0 n) none (some (.int .i64 0)) none (h.new h.next (.row (zBW n [.str [], .str []])))=some (.rs h.next 2 0 0):=
  zBU (n:=0) zET yo wi (by omega)
 have e8:∀h:Heap,zAd Tryz.prog 168 .nilsl h=some (.int .i64 0):=fun h=>zP (sz:=2) zX.nil Tryz.underlying168;refine zA.of_fn (g:=zZ7) mix Tryz.func291 zj3 rfl rfl ?_;simp only[Tryz.f291,gJ];simp only[go_sem,zj2,e1,e2,e3,e4,zKP Tryz.underlying168,e8,e5,e6,e7,Option.map_none,Option.map_some,List.length_nil,Int.natCast_zero,Int.ofNat_zero];refine⟨zBW n [.str [], .str []],?_,rfl⟩
 have:∀m,(zBW m [D.str [],D.str []]).length=m*2:=fun m=>by
  induction m with
  |zero=>rfl
  |succ m ih=>
   change (List.replicate m [D.str [],D.str []]).flatten.length=_ at ih;change (List.replicate (m+1) [D.str [],D.str []]).flatten.length=_;rw[List.replicate_succ,List.flatten_cons,List.length_append,ih];simp;omega
 exact this n
def zd2 (h0 h:Heap) (l:List Trm) (d:D):Prop:=Ext h0 h∧∃id xs,d= .rs id 2 0 l.length∧h.at' id=some (.row xs)∧h0.next≤id∧id<h.next∧l.length*2≤xs.length∧xs.take (l.length*2)=(qg l).flatten
theorem zTm (l:List Trm):(qg l).flatten.length=l.length*2:=by rw[qR (zAW l),qZ]
theorem zVz {l l2:List Trm} {d d2:D} {h0 h:Heap} (hc:zd2 h0 h l d) (hd:zX 2 (qg l2) d2) (hl:l.length≤1048576) (hl2:l2.length≤1048576):
  ∃d' h',zZ Tryz.prog true h.next 168 d d2 (yv d d2 h)=some (d',h')∧zd2 h0 h' (l++l2) d':=by
 obtain⟨he,id,xs,rfl,hid,hg,hlt,hle,ht⟩:=hc;have hb:(l.length+l2.length)*32≤lim:=by unfold lim;omega
 have hb2:l.length+l2.length≤lim:=by unfold lim;omega
 have hv:∀h2:Heap,zKy 2 d2 h2=some (qg l2).flatten:=fun h2=>by
  rcases hd with⟨rfl,hs⟩ | ⟨tk,rfl⟩
  ·have:l2= []:=List.map_eq_nil_iff.1 hs;subst this;rfl
  ·simp only[zKy,if_true]
 have hlt2:(xs.take (l.length*2)).length=l.length*2:=by rw[List.length_take];omega
 have hfl2:=zTm l2;have key:∀h2:Heap,h2.at' id=some (.row (xs.take (l.length*2)))→zZ Tryz.prog true h.next 168 (.rs id 2 0 l.length) d2 h2=some (.rs h.next 2 0 (l.length+l2.length),(h2.del id).new h.next (.row (xs.take (l.length*2)++(qg l2).flatten))):=fun h2 e=>by
  simp only[zZ,yo,zRX,wi,if_true,hv,hfl2,Nat.mul_div_cancel _ (show 0<2 by omega),yk,zHI,Bool.true_and];rw[if_pos (by simp[hb,hb2]),e];simp only[];rw[if_pos (by rw[hlt2])]
 obtain⟨h2,e1,e2,e3,e4⟩:∃h2,yv (.rs id 2 0 l.length) d2 h=h2∧h2.next=h.next∧(∀j,j≠id→h2.at' j=h.at' j)∧h2.at' id=some (.row (xs.take (l.length*2))):=by
  by_cases hq:l.length*2<xs.length
  ·refine⟨h.set id (.row (xs.take (l.length*2))),?_,rfl,fun j hj=>by simp[Heap.set,hj],zF _ _ _⟩;rcases hd with⟨rfl,hs⟩ | ⟨tk,rfl⟩ <;>simp[yv,hid,hq]
  ·have ht:xs.take (l.length*2)=xs:=List.take_of_length_le (by omega);refine⟨h,?_,rfl,fun _ _=>rfl,by rw[ht];exact hid⟩;rcases hd with⟨rfl,hs⟩ | ⟨tk,rfl⟩ <;>simp[yv,hid,hq]
 have he2:Ext h0 h2:=⟨by rw[e2];exact he.1,fun i hi=>by rw[e3 i (by omega)];exact he.2 i hi⟩;rw[e1,key h2 e4];refine⟨_,_,rfl,(he2.del hg).new he.1 _,h.next,_,by rw[List.length_append],zQ _ _ _,he.1,?_,?_,?_⟩
 ·have:(h2.del id).next=h2.next:=rfl;simp only[Heap.new,this,e2];omega
 ·rw[List.length_append,List.length_append,hlt2,hfl2];omega
 ·rw[ht,zVv,List.take_of_length_le (by rw[List.length_append,List.length_append,zTm,hfl2];omega)]
set_option maxHeartbeats 2000000 in
theorem zTn {a b:Alt} (ha:a.Ok) (hb:b.Ok) (g:Heap):
  zA Tryz.prog 268 [.sl 1 [[a.d],[b.d]] .full] g fun r h'=>h'=g∧r=(mkA (a.ts++b.ts)).d:=by
 obtain⟨a1,a2,a3⟩:=ha;obtain⟨b1,b2,b3⟩:=hb;have hpa:0<a.ts.length:=List.length_pos_iff.2 a2;refine zA.pure (by kernel_rfl) fun hok=> ?_
 suffices hh:zA Tryz.prog 268 [.sl 1 [[a.d],[b.d]] .full] g fun r h'=>zd2 g h' (a.ts++b.ts) r by
  refine zA.freezeD (hh.mono ?_);rintro r h' ⟨hE,id,xs,rfl,hid,hg,hlt,hle,ht⟩;refine⟨id,xs,hid,hE.del hg,?_⟩;rw[zTf (xs:=qg (a.ts++b.ts)) (rest:=xs.drop ((a.ts++b.ts).length*2)) (zAW _) (qZ _) (by rw[←ht,List.take_append_drop])];exact⟨zVw _ _,rfl⟩
 obtain⟨M,hM0,hM1,hM2⟩:∃M:Nat→Nat,M 0=0∧M 1=a.ts.length∧M 2=a.ts.length+b.ts.length:=⟨fun i=>if i=0 then 0 else if i=1 then a.ts.length else a.ts.length+b.ts.length,rfl,rfl,rfl⟩
 obtain⟨L,hL0,hL1,hL2⟩:∃L:Nat→List Trm,L 0= []∧L 1=a.ts∧L 2=a.ts++b.ts:=⟨fun i=>if i=0 then [] else if i=1 then a.ts else a.ts++b.ts,rfl,rfl,rfl⟩
 obtain⟨pt,hp0,hp1⟩:∃pt:Nat→Alt,pt 0=a∧pt 1=b:=⟨fun i=>if i=0 then a else b,rfl,rfl⟩
 have hll:∀h:Heap,zAd Tryz.prog 30 (.sl 1 [[a.d],[b.d]] .full) h=some (.int .i64 2):=fun h=>zP (zX.mk .full) Tryz.underlying30;have hx:∀i:Nat,i<2→zR Tryz.prog 30 (.sl 1 [[a.d],[b.d]] .full) (.int .i64 (i:Int))=some (.iptr [(pt i).d] 0)∧zX 2 (qg (pt i).ts) (pt i).d∧M (i+1)=M i+(pt i).ts.length∧L (i+1)=L i++(pt i).ts∧(L i).length≤8192∧(pt i).ts.length≤8192∧M i≤8192:=fun i hi=>by
  rcases i with _|_|i
  ·refine⟨zE (zX.mk .full) wp we (by rw[hp0];rfl),by rw[hp0];exact a1,by rw[hM0,hp0,hM1];omega,by rw[hL0,hL1,hp0];rfl,by rw[hL0];simp,by rw[hp0];omega,by omega⟩
  ·refine⟨zE (zX.mk .full) wp we (by rw[hp1];rfl),by rw[hp1];exact b1,by rw[hM1,hp1,hM2],by rw[hL1,hL2,hp1],by rw[hL1];omega,by rw[hp1];omega,by show M 1≤8192;omega⟩
  ·omega
 clear hp0 hp1;refine zA.of_fn (g:=zZ8) mix Tryz.func268 zj4 rfl rfl ?_;simp only[Tryz.f268,gJ]
 repeat' first|simp only[go_sem,zXi, *]|apply bc<;>intro hc
 refine zD (fun i fr h=>fr 0= .sl 1 [[a.d],[b.d]] .full∧fr 9= .sl 1 [[a.d],[b.d]] .full∧fr 10= .int .i64 2∧fr 11= .int .i64 (i:Int)∧fr 3= .int .i64 ((M i:Nat):Int)∧h=g) 2 (by omega) ?_ ?_ ?_
 ·simp only[go_sem,true_and,and_true,Int.ofNat_zero,zXi,hM0]
 ·rintro i fr h hlt e1 ew ⟨f0,f9,f10,f11,f3,rfl⟩;obtain⟨x1,x2,x3,x4,x5,x6,x7⟩:=hx i hlt;have hlen:=wb x2;have hw:IntKind.i64.wrap (((M i:Nat):Int)+(((pt i).ts.length:Nat):Int))=((M (i+1):Nat):Int):=by rw[x3,zx (by omega) (by omega)];omega
  have hneg:decide (((M (i+1):Nat):Int)<0)=false:=decide_eq_false (by omega);have e2:decide ((i:Int)<2)=true:=e1;clear x3 x4 hx hM0 hM1 hM2
  repeat' first|simp only[go_sem,zXi, *]|apply bc<;>intro hc
 ·rintro fr h e1 ⟨f0,f9,f10,f11,f3,rfl⟩;have e2:decide ((((2:Nat):Int))<2)=false:=rfl;have hgr:=zZ9 (n:=M 2) (by omega) (by omega) h;have f11':fr 11= .int .i64 2:=f11;clear e1 f11 hM0 hM1 hM2
  repeat' first|simp only[go_sem,zXi, *]|apply bc<;>intro hc
  refine hgr.mono ?_;rintro r h2 ⟨xs,hxs,rfl,rfl⟩;have hc0:zd2 h (h.new h.next (.row xs)) (L 0) (.rs h.next 2 0 0):=⟨(Ext.refl h).new (Nat.le_refl _) _,h.next,xs,by rw[hL0];rfl,zQ _ _ _,Nat.le_refl _,by rw[zK];omega,by rw[hL0];simp,by rw[hL0];rfl⟩;generalize h.new h.next (.row xs)=h2 at *
  clear hgr
  repeat' first|simp only[go_sem,zXi, *]|apply bc<;>intro hc
  refine zD (fun i fr h4=>fr 25= .sl 1 [[a.d],[b.d]] .full∧fr 26= .int .i64 2∧fr 27= .int .i64 (i:Int)∧zd2 h h4 (L i) (fr 6)) 2 (by omega) ?_ ?_ ?_
  ·simp only[go_sem,true_and,and_true,Int.ofNat_zero,zXi];exact hc0
  ·rintro i fr2 h4 hlt e1 ew ⟨g25,g26,g27,gC⟩;obtain⟨d,g6⟩:∃x,fr2 6=x:=⟨_,rfl⟩;rw[g6] at gC;obtain⟨x1,x2,x3,x4,x5,x6,x7⟩:=hx i hlt;obtain⟨d',h5,k1,k2⟩:=zVz gC x2 (by omega) (by omega);rw[←x4] at k2;have e2:decide ((i:Int)<2)=true:=e1;obtain⟨q1,q2,q3⟩:=zY x2;clear x3 x4 hx hL0 hL1 hL2 gC hc0
   repeat' first|simp only[go_sem,zXi, *]|apply bc<;>intro hc
  ·rintro fr2 h4 e1 ⟨g25,g26,g27,gC⟩;have e2:decide ((((2:Nat):Int))<2)=false:=rfl;have g27':fr2 27= .int .i64 2:=g27;rw[hL2] at gC;obtain⟨d,g6⟩:∃x,fr2 6=x:=⟨_,rfl⟩;rw[g6] at gC;clear e1 g27 hx hL0 hL1 hL2
   repeat' first|simp only[go_sem,zXi, *]|apply bc<;>intro hc
def zF1 (a b:List Alt) (k:Nat):List Trm:=(a.getD (k/b.length) (mkA [])).ts++(b.getD (k%b.length) (mkA [])).ts
def zDc (a b:List Alt):List (List Trm):=(List.range (a.length*b.length)).map (zF1 a b)
theorem zTo {a b:List Alt} {i j:Nat} (hi:i<a.length) (hj:j<b.length):zF1 a b (i*b.length+j)=a[i].ts++b[j].ts:=by
 unfold zF1;rw[show(i*b.length+j)/b.length=i by rw[Nat.mul_comm,Nat.mul_add_div (by omega),Nat.div_eq_of_lt hj];rfl,show(i*b.length+j)%b.length=j by rw[Nat.mul_comm,Nat.mul_add_mod,Nat.mod_eq_of_lt hj]];simp[hi,hj]
theorem zJS (a b:List Alt):(zDc a b).length=a.length*b.length:=by simp[zDc]
theorem zaA {a b:List Alt} {x y:D} (hx:zX 1 (yp a) x) (hy:zX 1 (yp b) y) (g:Heap):zA Tryz.prog 232 [x,y] g fun r h'=>h'=g∧r= .fn (.func 267) [] [.iptr [x] 0, .iptr [y] 0]:=by
 refine zA.of_fn (g:=zRu) mix Tryz.func232 zf1 rfl rfl ?_;simp only[Tryz.f232,gJ];rcases hx with⟨rfl,_⟩ | ⟨_,rfl⟩
 ·rcases hy with⟨rfl,_⟩ | ⟨_,rfl⟩
  ·repeat' first|simp only[go_sem,zUs, *]|apply bc<;>intro hc
  ·repeat' first|simp only[go_sem,zUs, *]|apply bc<;>intro hc
 ·rcases hy with⟨rfl,_⟩ | ⟨_,rfl⟩
  ·repeat' first|simp only[go_sem,zUs, *]|apply bc<;>intro hc
  ·repeat' first|simp only[go_sem,zUs, *]|apply bc<;>intro hc
set_option maxHeartbeats 2000000 in
theorem zV0 {a b:List Alt} {x y:D} (hx:zX 1 (yp a) x) (hy:zX 1 (yp b) y) (ha:∀q∈a,q.Ok) (hb:∀q∈b,q.Ok) (hla:a.length≤4096) (hlb:b.length≤4096)
  {id:Nat} {Y:Nat→(Nat→Prop)→Heap→Prop} (yl:Yld Tryz.prog id (a.length*b.length) (fun k=>[(mkA (zF1 a b k)).d]) Y fun _ _=>False) {S:Nat→Prop} {w:Heap} (hY:Y 0 S w):
  zA Tryz.prog 267 [.yld id, .iptr [x] 0, .iptr [y] 0] w fun _ h'=>∃S',But S w h'∧Y (a.length*b.length) S' h':=by
 have hl1:=zCJ hx;have hl2:=zCJ hy;obtain⟨x1,x2,_⟩:=zY hx;obtain⟨y1,y2,_⟩:=zY hy;refine zA.of_fn (g:=zSR) mix Tryz.func267 zgf rfl rfl ?_;simp only[Tryz.f267,gJ]
 repeat' first|simp only[go_sem,zLh, *]|apply bc<;>intro hc
 refine zD (fun i fr h'=>fr 0= .yld id∧fr 2= .iptr [y] 0∧fr 8=x∧fr 9= .int .i64 (a.length:Int)∧fr 10= .int .i64 (i:Int)∧∃S',(∀j,S' j→S j∨w.next≤j)∧But S w h'∧Y (i*b.length) S' h') a.length (by omega) ?_ ?_ ?_
 ·have hst:∃S',(∀j,S' j→S j∨w.next≤j)∧But S w w∧Y (0*b.length) S' w:=⟨S,fun j hj=> .inl hj,But.refl S w,by rw[Nat.zero_mul];exact hY⟩;simp only[go_sem,zLh,true_and,and_true,Int.ofNat_zero];exact hst
 ·rintro i fr h1 hlt e1 ew ⟨f0,f2,f8,f9,f10,hS⟩;have a1:=zDv hx hlt;have oka:=ha _ (List.getElem_mem hlt);have hpr:=fun j (hj:j<b.length)=>zTo hlt hj;generalize a[i]=p at *
  obtain⟨p1,p2,_⟩:=zY oka.sl
  repeat' first|simp only[go_sem,zLh, *]|apply bc<;>intro hc
  refine yG (fun j fr h'=>fr 0= .yld id∧fr 2= .iptr [y] 0∧fr 8=x∧fr 9= .int .i64 (a.length:Int)∧fr 10= .int .i64 (i:Int)∧fr 5=p.d∧fr 14=y∧fr 15= .int .i64 (b.length:Int)∧fr 16= .int .i64 (j:Int)∧∃S',(∀j,S' j→S j∨w.next≤j)∧But S w h'∧Y (i*b.length+j) S' h') b.length ?_ ?_
  ·simp only[go_sem,zLh,true_and,and_true,Int.ofNat_zero];exact⟨f0,f2,f8,f9,f10,hS⟩
  clear hS;rintro j fr2 h2 hj ⟨g0,g2,g8,g9,g10,g5,g14,g15,g16,S',hS1,hS2,hS3⟩;by_cases hlt2:j<b.length
  ·have e2:decide ((j:Int)<(b.length:Int))=true:=decide_eq_true (by omega);have ew2:IntKind.i64.wrap ((j:Int)+1)=((j+1:Nat):Int):=zf (by unfold lim;omega);have b1:=zDv hy hlt2;have okb:=hb _ (List.getElem_mem hlt2);have hpij:=hpr j hlt2;have hk:i*b.length+j<a.length*b.length:=by
    have:i*b.length+b.length≤a.length*b.length:=by rw[←Nat.succ_mul];exact Nat.mul_le_mul_right _ hlt
    omega
   have hgo:=yl.go (i*b.length+j) S' h2 hk hS3;simp only[hpij] at hgo;generalize b[j]=q at *
   obtain⟨q1,q2,_⟩:=zY okb.sl;have hcc:=zTn oka okb h2;have hbs:∀nid:Nat,zS Tryz.prog false nid 30 2 [(0,p.d),(1,q.d)] h2=some (.sl 1 [[p.d],[q.d]] .full,h2):=fun nid=>by
    have:=zBI (P:=Tryz.prog) (nid:=nid) (h:=h2) (x:=p.d) (y:=q.d) wp zLa we rfl rfl (by omega) (by omega) p2 (by rw[p1];rfl) q2 (by rw[q1];rfl);rw[p1,q1] at this;exact this
   have hm1:(mkA (p.ts++q.ts)).d.notTuple=true:=rfl;clear oka okb hpr hpij yl hx hy ha hb
   repeat' first|simp only[go_sem,zLh, *]|apply bc<;>intro hc|(refine zA.mono hcc ?_;rintro r h ⟨hq,rfl⟩)
   subst hq;refine hgo.mono ?_;rintro r h3 ⟨S2,k1,k2,k3⟩;rcases k3 with⟨rfl,k3⟩ | ⟨rfl,k3⟩
   ·have hfin:∃S',(∀j,S' j→S j∨w.next≤j)∧But S w h3∧Y (i*b.length+(j+1)) S' h3:=⟨S2,fun i' hi'=>by
     rcases k1 i' hi' with q|q
     ·exact hS1 _ q
     ·exact .inr (by have:=hS2.1;omega),hS2.trans k2 hS1,k3⟩
    clear hS1 hS2 hS3 k1 k2 k3 hgo
    repeat' first|simp only[go_sem,zLh, *]|apply bc<;>intro hc
   ·exact k3.elim
  ·have e2:decide ((j:Int)<(b.length:Int))=false:=decide_eq_false (by omega);have hje:j=b.length:=by omega
   have hfin:∃S',(∀j,S' j→S j∨w.next≤j)∧But S w h2∧Y ((i+1)*b.length) S' h2:=⟨S',hS1,hS2,by rw[Nat.succ_mul,←hje];rw[hje] at hS3⊢;exact hS3⟩;clear hS1 hS2 hS3 yl hje
   repeat' first|simp only[go_sem,zLh, *]|apply bc<;>intro hc
 ·rintro fr h2 e1 ⟨f0,f2,f8,f9,f10,S',hS1,hS2,hS3⟩;have hfin:∃S',But S w h2∧Y (a.length*b.length) S' h2:=⟨S',hS2,hS3⟩;clear hS1 hS2 hS3 yl
  repeat' first|simp only[go_sem,zLh, *]|apply bc<;>intro hc
theorem zPN (l:List (List Trm)):∀c∈yp (l.map mkA),zCj c:=fun c hc=>by
 obtain⟨y,hy,rfl⟩:=List.mem_map.1 hc;obtain⟨z,_,rfl⟩:=List.mem_map.1 hy;exact zMO z
set_option maxHeartbeats 2000000 in
theorem zMT {a b:List Alt} {x y:D} (hx:zX 1 (yp a) x) (hy:zX 1 (yp b) y) (ha:∀q∈a,q.Ok) (hb:∀q∈b,q.Ok) (hla:a.length≤256) (hlb:b.length≤256) (g:Heap):
  zA Tryz.prog 266 [.nilsl, .fn (.func 267) [] [.iptr [x] 0, .iptr [y] 0]] g fun r h'=>h'=g∧Fin 1 (yp ((zDc a b).map mkA)) r:=by
 refine zA.pure (by kernel_rfl) fun hok=>zA.strip ?_;refine zA.post fun Q hQ=> ?_;have hPl:(zDc a b).length=a.length*b.length:=zJS a b;have hm:a.length*b.length≤65536:=Nat.le_trans (Nat.mul_le_mul hla hlb) (by omega);obtain⟨ps,hps⟩:∃ps,yp ((zDc a b).map mkA)=ps:=⟨_,rfl⟩;have hpl:ps.length=a.length*b.length:=by rw[←hps,yj,List.length_map,hPl]
 have hpe:∀k,k<a.length*b.length→ps[k]? =some [(mkA (zF1 a b k)).d]:=fun k hk=>by
  rw[←hps];simp[yp,zDc,hk]
 have hp1:∀c∈ps,zCj c:=by rw[←hps];exact zPN _
 rw[hps] at hQ;clear hPl hps;refine zA.of_fn (g:=zOi) mix Tryz.func266 zgL rfl rfl ?_;simp only[Tryz.f266,gJ]
 repeat' first|simp only[go_sem,zR9, *]|apply bc<;>intro hc
 simp only[zK];generalize hL:LRec.mk _ _ _ _ _ _ _=L;have yl:Yld Tryz.prog (g.next+1) (a.length*b.length) (fun k=>[(mkA (zF1 a b k)).d]) (zbD g.next 1 L ps) (fun _ _=>False):=by
  refine⟨fun k S h y=>y.here,fun k S h h' y hn hk=>y.loc hn hk,fun S h hz=>hz.elim,fun S h h' hz=>hz.elim,fun i S h3 hi hyy=> ?_⟩;have hc:=hpe i hi;generalize hmm:(mkA (zF1 a b i)).d=m at *
  have hmc:m.cells= [m]∧m.notTuple=true∧m.flat=true:=by rw[←hmm];exact⟨rfl,rfl,rfl⟩
  obtain⟨m1,m2,m3⟩:=hmc;have hone:=fun nid h=>zHy m nid h m1 m2 m3;obtain⟨g1,g2,d,g3,g4,g5⟩:=hyy;subst hL;refine qp.round (g:=zOi) mix g2 rfl (by kernel_rfl) (by kernel_rfl) (by kernel_rfl) ?_;simp only[go_sem,zR9];refine⟨g2,?_⟩;generalize hB:LRec.mk .busy _ _ _ _ _ _=B;generalize h5e:Heap.set h3 (g.next+1) (.loop B)=h5;have a1:h5.at' g.next=some (.row [d]):=by rw[←h5e,zH (by omega)];exact g3
  have a3:h5.at' (g.next+1)=some (.loop B):=by rw[←h5e];simp[Heap.set]
  have a4:h5.next=h3.next:=by rw[←h5e,z8]
  have a5:wI h5 1 (ps.take i) d:=g4.loc (by omega) fun j hj=>by
   have:=g4.tok hj;rw[←h5e,zH (fun e=>by subst e;rw[g2] at this;cases this.2)]
  simp only[go_sem,zR9,a1,hone];have htl:(ps.take i).length=i:=by rw[List.length_take];omega
  refine a5.app2 wp zES we (by omega) (by simp) (by simp) (by rw[htl,zBr];unfold lim;simp;omega) (by rw[htl];unfold lim;simp;omega) ?_;intro d' h6 b1 b2 b3 b4 b5 b6;have c1:h6.at' g.next=some (.row [d]):=by
   rw[b3 _ (by omega) fun ht=> ?_]
   ·exact a1
   ·have:=(a5.tok ht).2;rw[a1] at this;cases this
  have hst:=zh (P:=Tryz.prog) (off:=0) c1 zOU (by simp) b5 b6;simp only[go_sem,zR9,hst,List.set_cons_zero];have c2:(h6.set g.next (.row [d'])).at' (g.next+1)=some (.loop B):=by
   rw[zH (by omega),b3 _ (by omega) fun ht=> ?_]
   ·exact a3
   ·have:=(a5.tok ht).2;rw[a3] at this;cases this
  refine wP c2 ⟨fun j=>j=g.next∨j=g.next+1∨wm d' j,fun j hj=> ?_,⟨by simp only[go_sem];omega,fun j hj hS=> ?_⟩, .inl ⟨rfl,by simp only[go_sem];omega,?_,d',?_,?_,fun j=>Iff.rfl⟩⟩
  ·rcases hj with rfl|rfl|hj
   ·exact .inl ((g5 _).2 (.inl rfl))
   ·exact .inl ((g5 _).2 (.inr (.inl rfl)))
   ·exact .inr (by have:=b4 j hj;omega)
  ·have n1:j≠g.next:=fun e=>hS ((g5 j).2 (.inl e));have n2:j≠g.next+1:=fun e=>hS ((g5 j).2 (.inr (.inl e)));rw[zH n2,zH n1,b3 j (by omega) (fun ht=>hS ((g5 j).2 (.inr (.inr ht)))),←h5e,zH n2]
  ·rw[zF,←hB]
  ·rw[zH (by omega),zF]
  ·have:ps.take (i+1)=ps.take i++ [[m]]:=by rw[List.take_add_one,hc];rfl
   rw[this];refine b1.loc (Nat.le_refl _) fun j hj=> ?_;have:=b4 j hj;rw[zH (by omega),zH (by omega)]
 refine(zV0 hx hy ha hb (by omega) (by omega) yl (S:=fun i=>i=g.next∨i=g.next+1) (w:=(g.new g.next (.row [.nilsl])).new (g.next+1) (.loop L)) ?_).mono ?_
 ·refine⟨?_,zQ _ _ _, .nilsl,by rw[zM (by omega),zQ], .inl ⟨rfl,rfl⟩,fun j=>by simp[wm]⟩;rw[yJ _ (by rw[zK];exact Nat.le_refl _)];omega
 rintro r h2 ⟨S',hb2,hYY⟩;obtain⟨g1,g2,d,g3,g4,g5⟩:=hYY;rw[←hpl,List.take_length] at g4;refine⟨L,g2,?_,?_⟩
 ·rw[←hL];intro e;cases e
 have hp:L.pending=none:=by rw[←hL]
 rw[hp,zBt];have k1:(h2.del (g.next+1)).at' g.next=some (.row [d]):=by rw[qP (by omega)];exact g3
 have hfin:=g4.fin hp1;have hq:=hQ d (h2.del (g.next+1)) ⟨Ext.del (Ext.of_but (((Ext.refl g).new (Nat.le_refl _) _).new (by omega) _) hb2 fun j hj=>by rcases hj with rfl|rfl<;>omega) (by omega),zu (Nat.zero_le _) _ hfin.1,hfin.2⟩;clear hQ hfin g4 g5 hb2 yl hpe hp1
 repeat' first|simp only[go_sem,zR9, *]|apply bc<;>intro hc
theorem zQO {a b:List Alt} {x y:D} (hx:zX 1 (yp a) x) (hy:zX 1 (yp b) y) (ha:∀q∈a,q.Ok) (hb:∀q∈b,q.Ok) (hla:a.length≤256) (hlb:b.length≤256) (g:Heap):
  zA Tryz.prog 231 [.fn (.func 267) [] [.iptr [x] 0, .iptr [y] 0]] g fun r h'=>h'=g∧Fin 1 (yp ((zDc a b).map mkA)) r:=by
 have h1:=zMT hx hy ha hb hla hlb;refine zA.post fun Q hQ=> ?_;refine zA.of_fn (g:=zRk) mix Tryz.func231 zfh rfl rfl ?_;simp only[Tryz.f231,gJ]
 repeat' first|simp only[go_sem,zcR, *]|apply bc<;>intro hc
 refine(h1 _).mono ?_;rintro r h ⟨hq,hf⟩;subst hq;have:=hQ r h ⟨rfl,hf⟩;clear hQ hf
 repeat' first|simp only[go_sem,zcR, *]|apply bc<;>intro hc
def zMU (l:List (List Trm)):D:= .tuple (if l.length>64 then [.nilsl, .int .i64 10] else [.sl 1 (yp (l.map mkA)) .no, .int .i64 0])
theorem zNr {l:List (List Trm)} (hl:l.length≤1048576) (g:Heap):
  zA Tryz.prog 229 [.sl 1 (yp (l.map mkA)) .no] g fun r h'=>h'=g∧r=zMU l:=by
 have hlen:=zCJ (l:=l.map mkA) (zX.mk .no);rw[List.length_map] at hlen;refine zA.post fun Q hQ=> ?_;have h2:=hQ (zMU l) g ⟨rfl,rfl⟩;unfold zMU at h2;clear hQ;refine zA.of_fn (g:=zSY) mix Tryz.func229 zgu rfl rfl ?_;simp only[Tryz.f229,gJ];by_cases hb:l.length>64
 ·rw[if_pos hb] at h2;have e1:decide ((l.length:Int)>64)=true:=decide_eq_true (by omega)
  repeat' first|simp only[go_sem,zdB, *]|apply bc<;>intro hc
 ·rw[if_neg hb] at h2;have e1:decide ((l.length:Int)>64)=false:=decide_eq_false (by omega)
  repeat' first|simp only[go_sem,zdB, *]|apply bc<;>intro hc
theorem zH0 (l:List Lic):∀x∈zCS l,x.length=4:=fun x hx=>by
 obtain⟨y,_,rfl⟩:=List.mem_map.1 hx;rfl
theorem zV1 (x y:Lic) (g:Heap):zA Tryz.prog 258 [.agg x.cells, .agg y.cells] g fun r h'=>h'=g∧r= .int .i64 (zFM x.ver y.ver):=by
 have h1:=zLy x.ver y.ver;refine zA.of_fn (g:=zRm) mix Tryz.func258 zfj rfl rfl ?_;simp only[Tryz.f258,gJ];simp only[Lic.cells]
 repeat' first|simp only[go_sem,zfi, *]|apply bc<;>intro hc|(refine zA.mono (h1 _) ?_;rintro r h ⟨rfl,rfl⟩)
theorem zaB {l:List Lic} {id:Nat} {g:Heap} (h0:l≠[]) (hl:l.length≤1048576) (hrow:g.at' id=some (.row (zCS l).flatten)):
  zA Tryz.prog 257 [.rs id 4 0 l.length, .fn (.func 258) [] []] g fun r h'=>r= .tuple []∧∃ys:List Lic,ys.Perm l∧h'=g.set id (.row (zCS ys).flatten):=by
 have:=zA.of_sortK (P:=Tryz.prog) (f:=257) (cmp:=258) (k:=4) (cells:=Lic.cells) (xs:=l) (id:=id) (pre:=[]) (post:=[]) (h:=g) (cf:=fun x y=>zFM x.ver y.ver) (mid:=[]) (midV:=[]) (fun M ρ vs h=>by simpa [zy] using h) h0 (by omega) (fun _ _=>rfl) (by kernel_rfl) (enters_of Tryz.func258 (by kernel_rfl) rfl) (by simpa [zCS] using hrow) (zTl.key Lic.ver).swo (by omega)
  (fun x _ y _ H=>zV1 x y H) (fun α _ enc h1 h2 cf hO g cb blk off cap d w hg hc hH hb hs hd=>AnyQ.slices_SortFunc Tryz.sortLic 4 (Tryz.isAgg56) (Tryz.sizeOf56) enc h1 h2 cf hO g cb blk off cap d w hg hc hH hb hs)
 refine this.mono fun r h' ⟨e1,ys,hp,hs,e2⟩=>⟨e1,ys,hp,?_⟩;rw[e2];simp[zCS]
def w9 (x y:Lic):Bool:=y.fam==x.fam&&decide (y.ver≥x.ver)
def zC0 (c:Cat) (x:Lic):List (List UInt8):=(c.ls.filter (w9 x)).map Lic.name
theorem zMV {c:Cat} {k:List UInt8} {x:Lic} (h:w7 c k=some x):x∈c.ls:=by
 unfold w7 at h;split at h
 ·cases h
 ·split at h
  ·exact List.mem_of_getElem? h
  ·cases h
theorem zMW {c:Cat} {x:Lic} (h:x∈c.ls):c.ls.filter (w9 x)≠[]:=fun e=>by
 have:x∈c.ls.filter (w9 x):=List.mem_filter.2 ⟨h,by simp[w9]⟩;rw[e] at this;cases this
theorem zaC (x:Lic) (nid:Nat) (h:Heap):zS Tryz.prog false nid 22 1 [(0, .agg [.str x.name, .str x.fam, .int .i64 x.ver, .str x.text])] h=some (.sl 4 [x.cells] .full,h):=
 yR (P:=Tryz.prog) (x:= .agg [.str x.name, .str x.fam, .int .i64 x.ver, .str x.text]) zEQ zKC zDS rfl rfl (by omega) (by omega) rfl rfl
set_option maxHeartbeats 4000000 in
theorem zaD {c:Cat} {d:D} (hc:wR c d) (hs:c.Sm) {k:List UInt8} {x:Lic} (hf:w7 c k=some x) (g:Heap):
  zA Tryz.prog 228 [d, .str k] g fun r h'=>h'=g∧∃ns,ns.Perm (zC0 c x)∧r= .tuple [.sl 1 (zt ns) .no, .int .i64 0]:=by
 have hfi:=zME hc hs k;have hfd:zBx c k= .tuple [.agg [.str x.name, .str x.fam, .int .i64 x.ver, .str x.text], .bool true]:=by unfold zBx;rw[hf]
 rw[hfd] at hfi;clear hfd;refine zA.pure (by kernel_rfl) fun hok'=>zA.strip ?_;refine zA.post fun Q hQ=> ?_;have hxm:=zMV hf;have s1:=hs.ls.1;obtain⟨a,b,e,p,rfl,ha,hb,he,hp⟩:=hc;have hlen:=zAV ha;have hv4:∀a b c e:D,ze true 4 [a,b,c,e] 0=some (.agg [a,b,c,e]):=fun a b c e=>zB rfl (by omega);have hst0:=zCT x;obtain⟨G0,hG0,r0,E0,n0⟩:∃G,g.new g.next (.row [.str x.name, .str x.fam, .int .i64 x.ver, .str x.text])=G∧G.at' g.next=some (.row [.str x.name, .str x.fam, .int .i64 x.ver, .str x.text])∧Ext g G∧g.next<G.next:=⟨_,rfl,zQ _ _ _,(Ext.refl g).new (Nat.le_refl _) _,by rw[zK];omega⟩
 refine zA.of_fn (g:=zSN) mix Tryz.func228 zgb rfl rfl ?_;simp only[Tryz.f228,gJ]
 repeat' first|simp only[go_sem,zHO, *]|apply bc<;>intro hc|(refine zA.mono (hfi _) ?_;rintro r h ⟨hq,rfl⟩)
 clear hst0 hfi hb he hp;refine zD (fun i fr h=>∃s,fr 6= .ptr g.next 0∧fr 23=a∧fr 24= .int .i64 (c.ls.length:Int)∧fr 25= .int .i64 (i:Int)∧fr 8=s∧zMg G0 h 4 (zCS ((c.ls.take i).filter (w9 x))) s) c.ls.length (by omega) ?_ ?_ ?_
 ·have hs0:=zMg.start (Ext.refl G0) 4;simp only[go_sem,zHO,true_and,and_true,Int.ofNat_zero];exact⟨_,rfl,hs0⟩
 ·rintro i fr h2 hlt ec ew ⟨s,f6,f23,f24,f25,f8,ho⟩;have a1:=wx ha hlt;have htk:(c.ls.take (i+1)).filter (w9 x)=(c.ls.take i).filter (w9 x)++ [c.ls[i]].filter (w9 x):=by rw[List.take_succ_eq_append_getElem hlt,List.filter_append]
  have hli:((c.ls.take i).filter (w9 x)).length≤i:=Nat.le_trans (List.length_filter_le _ _) (by rw[List.length_take];omega);rw[htk];clear htk;generalize c.ls[i]=y at *
  generalize(c.ls.take i).filter (w9 x)=pre at *
  have hst:=zCT y h2 h2.next;have r1:(h2.new h2.next (.row [.str y.name, .str y.fam, .int .i64 y.ver, .str y.text])).at' g.next=some (.row [.str x.name, .str x.fam, .int .i64 x.ver, .str x.text]):=by
   rw[zM (by have:=ho.1.1;omega),ho.1.2 _ n0];exact r0
  have r2:(h2.new h2.next (.row [.str y.name, .str y.fam, .int .i64 y.ver, .str y.text])).at' h2.next=some (.row [.str y.name, .str y.fam, .int .i64 y.ver, .str y.text]):=zQ _ _ _;have hoN:=ho.ext ((Ext.refl h2).new (Nat.le_refl _) (.row [.str y.name, .str y.fam, .int .i64 y.ver, .str y.text]));simp only[Lic.cells] at a1;have hone:=zaC y;generalize h2.new h2.next (.row [.str y.name, .str y.fam, .int .i64 y.ver, .str y.text])=H at *
  obtain⟨d',G,hap,hoG,htr⟩:=hoN.app (P:=Tryz.prog) (ys:=zCS [y]) (tk:= .full) zEQ zYd zDS (by omega) (fun cs=>zCC Tryz.underlying56) (zH0 _) (zH0 _) (by simp[zCS]) (by rw[zBK,zRZ];unfold lim;simp[zCS];omega) (by rw[zBK];unfold lim;simp[zCS];omega);have hal:zCS [y]= [y.cells]:=rfl;rw[hal] at hap htr hoG;have hla:zCS (pre++ [y])=zCS pre++ [y.cells]:=by simp[zCS]
  rw[←hla] at hoG;clear ho hla hal hQ hlen ha E0 hG0 r0;cases q1:(y.fam==x.fam) with
  |false=>
   have hfl:pre++ [y].filter (w9 x)=pre:=by simp[w9,q1]
   rw[hfl];clear hfl hap htr hoG
   repeat' first|simp only[go_sem,zHO, *]|apply bc<;>intro hc
   exact⟨_,rfl,hoN⟩
  |true=>
   cases q2:decide (y.ver≥x.ver) with
   |false=>
    have hfl:pre++ [y].filter (w9 x)=pre:=by simp only[List.filter_cons,w9,q1,q2];simp
    rw[hfl];clear hfl hap htr hoG
    repeat' first|simp only[go_sem,zHO, *]|apply bc<;>intro hc
    exact⟨_,rfl,hoN⟩
   |true=>
    have hfl:pre++ [y].filter (w9 x)=pre++ [y]:=by simp only[List.filter_cons,w9,q1,q2];simp
    rw[hfl];clear hfl hoN
    repeat' first|simp only[go_sem,zHO, *]|apply bc<;>intro hc
    exact⟨_,rfl,hoG⟩
 ·rintro fr h2 ec ⟨s,f6,f23,f24,f25,f8,ho⟩;rw[List.take_length] at ho;have hne:=zMW hxm;have hnl:(c.ls.filter (w9 x)).length≤1048576:=Nat.le_trans (List.length_filter_le _ _) s1;have hS:zC0 c x=(c.ls.filter (w9 x)).map Lic.name:=rfl;rw[hS] at hQ;clear hS;generalize c.ls.filter (w9 x)=L at *
  obtain⟨hx,hc⟩:=ho;rcases hc with⟨_,e⟩ | ⟨id,rfl,hrow,hid,hidn,_⟩
  ·exact absurd (by simpa [zCS] using e) hne
  rw[zBK] at f8;have hso:=zaB hne hnl hrow;have hQ2:∀ (ys:List Lic) r h',ys.Perm L→Ext g h'→below g.next (yC r)→Fin 1 (zt (ys.map Lic.name)) (yC r)→Q (.tuple [r, .int .i64 0]) h':=fun ys r h' q0 q1 q2 q3=>by
   refine hQ _ _ ⟨q1,?_,?_⟩
   ·simp only[yC,yh,below,yB];exact⟨q2,trivial,trivial⟩
   ·refine⟨ys.map Lic.name,q0.map _,?_⟩;rcases q3 with⟨_,e⟩ |e
    ·have:ys= []:=by simpa [zt] using e
     subst this;exact absurd (List.nil_perm.1 q0) hne
    ·simp only[yC,yh,e]
  clear hQ hxm hlen ha;have hxid:g.next≤id:=Nat.le_trans E0.1 hid
  repeat' first|simp only[go_sem,zHO, *]|apply bc<;>intro hc
  refine hso.mono ?_;rintro r h3 ⟨rfl,ys,hp,rfl⟩;have hyl:=hp.length_eq;have r1:(h2.set id (.row (zCS ys).flatten)).at' id=some (.row (zCS ys).flatten):=zF _ _ _;have hE1:Ext g (h2.set id (.row (zCS ys).flatten)):=(E0.trans hx).set hxid _;have hidn2:id<(h2.set id (.row (zCS ys).flatten)).next:=hidn;generalize h2.set id (.row (zCS ys).flatten)=H at *
  have hvl:=fun(h:Heap)=>zHT (P:=Tryz.prog) (t:=22) (sz:=4) (id:=id) (off:=0) (len:=L.length) (h:=h) Tryz.underlying22;have hQ3:=fun r h'=>hQ2 ys r h' hp;clear hQ2 hso hrow hx E0 hG0 r0
  repeat' first|simp only[go_sem,zHO, *]|apply bc<;>intro hc
  refine zD (fun i fr h=>∃o,fr 48= .rs id 4 0 L.length∧fr 49= .int .i64 (L.length:Int)∧fr 50= .int .i64 (i:Int)∧fr 11=o∧Own H h 1 (zt ((ys.take i).map Lic.name)) o) L.length (by omega) ?_ ?_ ?_
  ·have hs:=Own.start (Ext.refl H) 1;simp only[go_sem,zHO,true_and,and_true,Int.ofNat_zero];exact⟨_,rfl,hs⟩
  ·rintro i fr h3 hlt ec ew ⟨o,f48,f49,f50,f11,ho⟩;have hlt':i<ys.length:=by omega
   have a1:=qk (P:=Tryz.prog) (sz:=4) (id:=id) zEQ zDS (k:= .i64) hlt;have hrow2:h3.at' id=some (.row (zCS ys).flatten):=by rw[ho.1.2 _ hidn2];exact r1
   have p1:=zDB (zH0 ys) (by omega) (zPD hlt');have htk:(ys.take (i+1)).map Lic.name=(ys.take i).map Lic.name++ [ys[i].name]:=by rw[List.take_succ_eq_append_getElem hlt',List.map_append];rfl
   have hli:((ys.take i).map Lic.name).length=i:=by rw[List.length_map,List.length_take];omega
   rw[htk];clear htk;generalize ys[i]=y at *
   generalize(ys.take i).map Lic.name=pre at *
   simp only[Lic.cells] at p1;have hst:=zCT y h3 h3.next;have hoN:=ho.ext ((Ext.refl h3).new (Nat.le_refl _) (.row [.str y.name, .str y.fam, .int .i64 y.ver, .str y.text]));have r2:(h3.new h3.next (.row [.str y.name, .str y.fam, .int .i64 y.ver, .str y.text])).at' h3.next=some (.row [.str y.name, .str y.fam, .int .i64 y.ver, .str y.text]):=zQ _ _ _;have hone:=zCq y.name;generalize h3.new h3.next (.row [.str y.name, .str y.fam, .int .i64 y.ver, .str y.text])=h4 at *
   clear hQ3 ho r1 hE1 hidn2
   repeat' first|simp only[go_sem,zHO, *]|apply bc<;>intro hc
   refine hoN.appH (ys:=zt [y.name]) zd zBq yu (by omega) zDC (by simp[zt]) (by rw[zJ,wO,hli];unfold lim;simp[zt];omega) (by rw[zJ,hli];unfold lim;simp[zt];omega) fun d' h' ho'=> ?_;have ho2:Own H h' 1 (zt (pre++ [y.name])) d':=by
    have:zt (pre++ [y.name])=zt pre++zt [y.name]:=by simp[zt]
    rw[this];exact ho'
   clear hoN ho'
   repeat' first|simp only[go_sem,zHO, *]|apply bc<;>intro hc
   exact⟨_,rfl,ho2⟩
  ·rintro fr h3 ec ⟨o,f48,f49,f50,f11,ho⟩;rw[←hyl,List.take_length] at ho;have hfin:=ho.2.1.fin yW;have hq:=hQ3 o h3 (hE1.trans ho.1) (zu (Nat.zero_le _) _ hfin.1) hfin.2;clear hQ3 hfin ho
   repeat' first|simp only[go_sem,zHO, *]|apply bc<;>intro hc
def szd (l:List (List Trm)):Option (List (List Trm)):=if l.length>64 then none else some l
def zC1 (a b:List (List Trm)):List (List Trm):=zDc (a.map mkA) (b.map mkA)
mutual
def zEt (c:Cat):Ex→Option (List (List Trm))
 | .mk k n x l _=>if(k==0)=true then some [[⟨n,x⟩]] else if(k==1)=true then(match w7 c n with
   |none=>none
   |some y=>szd (yX ((zC0 c y).map fun s=>[⟨s,[]⟩])))
  else match zDw c k l true [] with
   |none=>none
   |some out=>szd (yX out)
def zDw (c:Cat) (k:Int):List Ex→Bool→List (List Trm)→Option (List (List Trm))
 | [],_,out=>some out
 |e::es,first,out=>match zEt c e with
  |none=>none
  |some l=>if(k==3)=true then zDw c k es false (out++l) else if first=true then zDw c k es false l else match szd (yX (zC1 out l)) with
   |none=>none
   |some o=>zDw c k es false o
end
def Ex.Fit (c:Cat) (e:Ex):Prop:=∀x∈e.pre,x.err=0∧zTS c x=0
theorem zPO:∀ {l:List Ex} {e x:Ex},e∈l→x∈e.pre→x∈zGg l
 |a::l,e,x,h,hx=>by
  simp only[zGg];rcases List.mem_cons.1 h with rfl|h
  ·exact List.mem_append_left _ hx
  ·exact List.mem_append_right _ (zPO h hx)
theorem Ex.Fit.kid {c:Cat} {e k:Ex} (h:e.Fit c) (hk:k∈e.kids):k.Fit c:=fun x hx=>by
 obtain⟨kd,n,ex,l,d⟩:=e;exact h x (by simp only[Ex.pre];exact List.mem_cons_of_mem _ (zPO hk hx))
theorem Ex.Fit.self {c:Cat} {e:Ex} (h:e.Fit c):e.err=0∧zTS c e=0:=by
 obtain⟨kd,n,ex,l,d⟩:=e;exact h _ (by simp only[Ex.pre];exact List.mem_cons_self)
theorem zEu {f:Nat→Int} :∀ {n:Nat},zEy f n=0→∀i,i<n→f i=0
 |n+1,h,i,hi=>by
  simp only[zEy] at h;split at h
  ·rename_i q;rcases Nat.lt_succ_iff_lt_or_eq.1 hi with g|rfl
   ·exact zEu (by simpa using q) i g
   ·exact h
  ·rename_i q;exact absurd (by simpa using h) q
theorem zTp {c:Cat} {e:Ex} (h:zAQ c e=0):wk c=0∧e.size≤64∧e.Fit c:=by
 unfold zAQ at h;split at h
 ·exact absurd h (by decide)
 rename_i q1;split at h
 ·rename_i q;rw[h] at q;exact absurd q (by decide)
 rename_i q2;have f0:zCt e=0:=by simpa using q2
 unfold zCt at f0;split at f0
 ·exact absurd f0 (by decide)
 rename_i q3;split at f0
 ·exact absurd f0 (by decide)
 refine⟨by simpa using q1,by simp at q3;omega,fun x hx=> ?_⟩;obtain⟨i,hi,rfl⟩:=List.mem_iff_getElem.1 hx;rw[e.pre_len] at hi;have h1:=zEu f0 i hi;have h2:=zEu h i hi;have hg:e.pre.getD i e=e.pre[i]'(by rw[e.pre_len];exact hi):=by rw[List.getD_eq_getElem?_getD,List.getElem?_eq_getElem];rfl
 unfold Ex.errAt at h1;unfold Ex.unk at h2;rw[hg] at h1 h2;exact⟨h1,h2⟩
theorem zPP {c:Cat} {k:Int} {n x:List UInt8} {l:List Ex} {d:D} (h:(Ex.mk k n x l d).Fit c):((k=0∨k=1)∧l= []∧(k=1→x= [])∧∃y,w7 c n=some y)∨((k=2∨k=3)∧2≤l.length):=by
 obtain⟨h1,h2⟩:=h.self;replace h1:zHo k n x l.length=0:=h1;unfold zHo at h1;by_cases q:((k==0)||(k==1))=true
 ·left;rw[if_pos q] at h1;by_cases q1:(decide ((l.length:Int)>0)||((k==1)&& !(x== [])))=true
  ·rw[if_pos q1] at h1;exact absurd h1 (by decide)
  rw[if_neg q1] at h1;by_cases q2:(!ye n||(!(x== [])&& !ye x))=true
  ·rw[if_pos q2] at h1;exact absurd h1 (by decide)
  simp only[Bool.or_eq_true,beq_iff_eq,decide_eq_true_eq,Bool.and_eq_true,Bool.not_eq_true',not_or,not_and,Bool.not_eq_false,beq_eq_false_iff_ne] at q q1 q2;refine⟨q,List.length_eq_zero_iff.1 (by omega),fun e=>by simpa using q1.2 e,?_⟩;replace h2:(if(!(n== [])&& !zIV c n x)=true then(7:Int) else 0)=0:=h2
  by_cases q3:(!(n== [])&& !zIV c n x)=true
  ·rw[if_pos q3] at h2;exact absurd h2 (by decide)
  have hn:¬(n== [])=true:=fun e=>by
   have:n= []:=by simpa using e
   subst this;exact absurd q2.1 (by decide)
  have hk:zIV c n x=true:=by
   cases hh:zIV c n x with
   |true=>rfl
   |false=>exact absurd (by simp[hh,hn]) q3
  unfold zIV at hk;simp only[Bool.and_eq_true] at hk;exact Option.isSome_iff_exists.1 hk.1
 ·rw[if_neg q] at h1;by_cases q1:((k==2)||(k==3))=true
  ·rw[if_pos q1] at h1;right;by_cases q2:(decide ((l.length:Int)<2)|| !(n== [])|| !(x== []))=true
   ·rw[if_pos q2] at h1;exact absurd h1 (by decide)
   simp only[Bool.or_eq_true,beq_iff_eq,decide_eq_true_eq,Bool.not_eq_true',not_or] at q1 q2;exact⟨q1,by omega⟩
  ·rw[if_neg q1] at h1;exact absurd h1 (by decide)
theorem zPQ {l:List (List Trm)} (h:l≠[]):∀n,0<n→n≤l.length→zCK l n≠[]
 |1,_,hn=>by
  rw[zCK,List.getElem?_eq_getElem (by omega)];simp[zCK,zCy]
 |n+2,_,hn=>by
  have ih:=zPQ h (n+1) (by omega) (by omega);rw[zCK,List.getElem?_eq_getElem (by omega)];simp only[zCy];split
  ·exact ih
  ·simp
theorem zH1 {l:List (List Trm)} (h:l≠[]):yX l≠[]:=by
 have hl:(wT l).length=l.length:=by rw[wT,(w8 _).length_eq,List.length_map]
 have hp:0<l.length:=List.length_pos_iff.2 h;exact zPQ (fun e=>by rw[e] at hl;simp at hl;omega) _ (by omega) (Nat.le_refl _)
theorem zC2 (l:List (List Trm)):(yX l).length≤l.length:=by
 have hl:(wT l).length=l.length:=by rw[wT,(w8 _).length_eq,List.length_map]
 have:=zHx (l:=wT l) (wT l).length;rw[hl] at this;unfold yX;rw[hl];exact this
theorem zKl {l m:List (List Trm)} (h:l.Perm m):yX l=yX m:=by
 unfold yX wT;rw[zTe zHw zMQ (h.map zAi)]
theorem zGj {l m:List (List Trm)} (h:szd l=some m):m=l∧l.length≤64:=by
 unfold szd at h;split at h
 ·cases h
 ·cases h;exact⟨rfl,by omega⟩
structure AltsOk (n:Nat) (l:List (List Trm)):Prop where
 ne:l≠[]
 ts:∀t∈l,t≠[]∧t.length≤n
theorem AltsOk.mono {n m:Nat} {l:List (List Trm)} (h:AltsOk n l) (hn:n≤m):AltsOk m l:=⟨h.ne,fun t ht=>⟨(h.ts t ht).1,Nat.le_trans (h.ts t ht).2 hn⟩⟩
theorem AltsOk.min {n:Nat} {l:List (List Trm)} (h:AltsOk n l):AltsOk n (yX l):=⟨zH1 h.ne,fun t ht=>by
 obtain⟨y,hy,rfl⟩:=zMS ht;obtain⟨h1,h2⟩:=h.ts y hy;exact⟨zPL h1,Nat.le_trans (zMR _) h2⟩⟩
theorem AltsOk.app {n:Nat} {l m:List (List Trm)} (h:∀t∈l,t≠[]∧t.length≤n) (k:AltsOk n m):AltsOk n (l++m):=⟨fun e=>k.ne (List.append_eq_nil_iff.1 e).2,fun t ht=>by
 rcases List.mem_append.1 ht with q|q
 ·exact h t q
 ·exact k.ts t q⟩
theorem zQP {a b:List (List Trm)} {t:List Trm} (h:t∈zC1 a b):∃x∈a,∃y∈b,t=x++y:=by
 unfold zC1 zDc at h;obtain⟨k,hk,rfl⟩:=List.mem_map.1 h;rw[List.mem_range,List.length_map,List.length_map] at hk;have hb:0<b.length:=by
  rcases Nat.eq_zero_or_pos b.length with e|e
  ·rw[e,Nat.mul_zero] at hk;omega
  ·exact e
 have h1:k/b.length<a.length:=by rw[Nat.div_lt_iff_lt_mul hb];exact hk
 have h2:k%b.length<b.length:=Nat.mod_lt _ hb;refine⟨a[k/b.length],List.getElem_mem _,b[k%b.length],List.getElem_mem _,?_⟩;simp[zF1,h1,h2,mkA]
theorem zJT (a b:List (List Trm)):(zC1 a b).length=a.length*b.length:=by rw[zC1,zJS,List.length_map,List.length_map]
theorem AltsOk.pairs {n m:Nat} {a b:List (List Trm)} (h:AltsOk n a) (k:AltsOk m b):AltsOk (n+m) (zC1 a b):=by
 refine⟨fun e=> ?_,fun t ht=> ?_⟩
 ·have:=zJT a b;rw[e] at this;have h1:0<a.length:=List.length_pos_iff.2 h.ne;have h2:0<b.length:=List.length_pos_iff.2 k.ne;have:=Nat.mul_pos h1 h2;simp at *;omega
 ·obtain⟨x,hx,y,hy,rfl⟩:=zQP ht;have h1:=h.ts x hx;have h2:=k.ts y hy;exact⟨fun e=>h1.1 (List.append_eq_nil_iff.1 e).1,by rw[List.length_append];omega⟩
theorem zH2 {c:Cat} {n:List UInt8} {y:Lic} (h:w7 c n=some y):zC0 c y≠[]:=fun e=>zMW (zMV h) (List.map_eq_nil_iff.1 e)
theorem zNs {c:Cat} :∀n:Nat,(∀e:Ex,e.size≤n→e.Fit c→∀l,zEt c e=some l→l.length≤64∧AltsOk e.size l)∧
  ∀ (k:Int) (es:List Ex),yH es≤n→(∀e∈es,e.Fit c)→∀ (m:Nat) (first:Bool) (out R:List (List Trm)),(∀t∈out,t≠[]∧t.length≤m)→(first=false→out≠[])→(es= []→out≠[])→zDw c k es first out=some R→AltsOk (m+yH es) R∧R.length≤out.length+64*es.length:=by
 intro n
 induction n with
 |zero=>
  refine⟨fun e h=> ?_,fun k es h hf m first out R h1 h2 h3 hR=> ?_⟩
  ·cases e;simp only[Ex.size] at h;omega
  ·cases es with
   |nil=>simp only[zDw] at hR;cases hR;exact⟨⟨h3 rfl,by simpa [yH] using h1⟩,by simp⟩
   |cons e l=>cases e;simp only[yH,Ex.size] at h;omega
 |succ n ih=>
  have key:∀e:Ex,e.size≤n+1→e.Fit c→∀l,zEt c e=some l→l.length≤64∧AltsOk e.size l:=fun e h hf l hl=>by
   obtain⟨k,nm,x,es,d⟩:=e;simp only[Ex.size] at h⊢;have hk:=zPP hf;rw[zEt] at hl;split at hl
   ·cases hl;exact⟨by simp,by simp,fun t ht=>by cases List.mem_singleton.1 ht;exact⟨by simp,by simp⟩⟩
   split at hl
   ·split at hl
    ·cases hl
    ·rename_i y hy;obtain⟨rfl,h64⟩:=zGj hl;refine⟨h64,AltsOk.min ⟨by simpa using zH2 hy,fun t ht=> ?_⟩⟩;obtain⟨s,_,rfl⟩:=List.mem_map.1 ht;exact⟨by simp,by simp⟩
   ·rename_i q0 q1;split at hl
    ·cases hl
    ·rename_i out hout;obtain⟨rfl,h64⟩:=zGj hl;have hk2:2≤es.length:=by
      rcases hk with⟨q,_⟩ | ⟨_,q⟩
      ·rcases q with rfl|rfl
       ·exact absurd rfl q0
       ·exact absurd rfl q1
      ·exact q
     have:=ih.2 k es (by omega) (fun e he=>hf.kid he) 0 true [] out (fun t ht=>by cases ht) (by simp) (fun e=>by subst e;simp at hk2) hout;exact⟨h64,this.1.min.mono (by omega)⟩
  refine⟨key,fun k es h hf m first out R h1 h2 h3 hR=> ?_⟩
  cases es with
  |nil=>simp only[zDw] at hR;cases hR;exact⟨⟨h3 rfl,by simpa [yH] using h1⟩,by simp⟩
  |cons e es=>
   have hesz:0<e.size:=by cases e;simp only[Ex.size];omega
   simp only[yH] at h⊢;rw[zDw] at hR;split at hR
   ·cases hR
   ·rename_i l hl;obtain⟨hl64,hlok⟩:=key e (by omega) (hf e (by simp)) l hl;have hfs:∀e∈es,e.Fit c:=fun x hx=>hf x (List.mem_cons_of_mem _ hx);split at hR
    ·have hq:=AltsOk.app (n:=m+e.size) (fun t ht=>⟨(h1 t ht).1,Nat.le_trans (h1 t ht).2 (by omega)⟩) (hlok.mono (show e.size≤m+e.size by omega));have:=ih.2 k es (by omega) hfs (m+e.size) false (out++l) R hq.ts (fun _=>hq.ne) (fun _=>hq.ne) hR;refine⟨this.1.mono (by omega),?_⟩;have q:=this.2;rw[List.length_append] at q;simp only[List.length_cons];omega
    ·split at hR
     ·have hq:=hlok.mono (show e.size≤m+e.size by omega);have:=ih.2 k es (by omega) hfs (m+e.size) false l R hq.ts (fun _=>hq.ne) (fun _=>hq.ne) hR;refine⟨this.1.mono (by omega),?_⟩;have q:=this.2;simp only[List.length_cons];omega
     ·rename_i hfirst;have hone:out≠[]:=h2 (by simpa using hfirst);split at hR
      ·cases hR
      ·rename_i o ho;obtain⟨rfl,ho64⟩:=zGj ho;have hq:=(AltsOk.pairs ⟨hone,h1⟩ hlok).min;have:=ih.2 k es (by omega) hfs (m+e.size) false _ R hq.ts (fun _=>hq.ne) (fun _=>hq.ne) hR;refine⟨this.1.mono (by omega),?_⟩;have q:=this.2;simp only[List.length_cons];omega
def zIX:Option (List (List Trm))→D
 |some l=> .tuple [.sl 1 (yp (l.map mkA)) .no, .int .i64 0]
 |none=> .tuple [.nilsl, .int .i64 10]
theorem zFX (l:List (List Trm)):zMU l=zIX (szd l):=by
 unfold zMU szd;split<;>rfl
theorem zJU (l:List (List Trm)):yC (.sl 1 (yp (l.map mkA)) .no)= .sl 1 (yp (l.map mkA)) .no∧below 0 (.sl 1 (yp (l.map mkA)) .no):=yN (zPN l) .no
theorem zB0 (o:Option (List (List Trm))) (n:Nat):yC (zIX o)=zIX o∧below n (zIX o):=by
 cases o with
 |none=>exact⟨rfl,by simp[zIX,below,yB]⟩
 |some l=>
  obtain⟨h1,h2⟩:=zJU l;refine⟨?_,?_⟩
  ·simp only[zIX,yC,yh] at h1⊢;rw[h1]
  ·simp only[zIX,below,yB];exact⟨zu (Nat.zero_le _) _ h2,trivial,trivial⟩
def zPR (s x:List UInt8):Alt:=⟨[⟨s,x⟩], .sl 2 [[.str s, .str x]] .full⟩
theorem zaE (s x:List UInt8):(zPR s x).Ok:=⟨zX.mk .full,by simp[zPR],by simp[zPR]⟩
theorem zd3 (s x:List UInt8):yn Tryz.prog 51 [(0, .str s),(1, .str x)]=some (.agg [.str s, .str x]):=by simp[yn,zFE,zCB,wl,D.notTuple,D.cells,y8]
theorem zd4 (s:List UInt8):yn Tryz.prog 51 [(0, .str s)]=some (.agg [.str s, .str []]):=by simp[yn,zFE,zCB,wl,D.notTuple,D.cells,y8]
theorem zTq (s x:List UInt8) (nid:Nat) (h:Heap):zS Tryz.prog false nid 168 1 [(0, .agg [.str s, .str x])] h=some (.sl 2 [[.str s, .str x]] .full,h):=
 yR (P:=Tryz.prog) (x:= .agg [.str s, .str x]) yo zCB wi rfl rfl (by omega) (by omega) rfl rfl
def zDK (c:Cat) (e:Ex):D:=zIX (zEt c e)
set_option maxHeartbeats 4000000 in
theorem zQQ {c:Cat} {d:D} (hc:wR c d) {n x:List UInt8} {y:D} (g:Heap):
  zA Tryz.prog 197 [d, .agg [.int .i64 0, .str n, .str x,y]] g fun r h'=>h'=g∧r=zIX (some [[⟨n,x⟩]]):=by
 refine zA.pure (by kernel_rfl) fun hok'=>zA.strip ?_;refine zA.post fun Q hQ=> ?_;obtain⟨ca,cb,ce,cp,rfl,_,_,_,_⟩:=hc;have hv4:∀a b c e:D,ze true 4 [a,b,c,e] 0=some (.agg [a,b,c,e]):=fun a b c e=>zB rfl (by omega);have h1:=zd3 n x;have h2:=zTq n x;have h3:=fun nid h=>zHy (.sl 2 [[.str n, .str x]] .full) nid h rfl rfl rfl;have hq:=hQ (.tuple [.sl 1 [[.sl 2 [[.str n, .str x]] .full]] .full, .int .i64 0]) g ⟨Ext.refl g,by
  simp[yC,yh,zCP,below,yB,zBp],by simp[yC,yh,zCP,zIX,yp,mkA,qg,Trm.cells]⟩
 clear hQ;refine zA.of_fn (g:=zI1) mix Tryz.func197 zUr rfl rfl ?_;simp only[Tryz.f197,gJ]
 repeat' first|simp only[go_sem,zBF, *]|apply bc<;>intro hc
set_option maxHeartbeats 4000000 in
theorem zQR {c:Cat} {d:D} (hc:wR c d) (hs:c.Sm) {n x:List UInt8} {z:Lic} (hf:w7 c n=some z) {y:D} (g:Heap):
  zA Tryz.prog 197 [d, .agg [.int .i64 1, .str n, .str x,y]] g fun r h'=>h'=g∧r=zIX (szd (yX ((zC0 c z).map fun s=>[⟨s,[]⟩]))):=by
 have hla:=zaD hc hs hf;have hsl:=hs.ls.1;have hne:=zH2 hf;have hll:(zC0 c z).length≤c.ls.length:=by rw[zC0,List.length_map];exact List.length_filter_le _ _
 refine zA.pure (by kernel_rfl) fun hok'=>zA.strip ?_;refine zA.post fun Q hQ=> ?_;obtain⟨ca,cb,ce,cp,rfl,_,_,_,_⟩:=hc;have hv4:∀a b c e:D,ze true 4 [a,b,c,e] 0=some (.agg [a,b,c,e]):=fun a b c e=>zB rfl (by omega);have hE0:=Own.start (Ext.refl g) 1;have hle:∀ (ns:List (List UInt8)) (h:Heap),zAd Tryz.prog 31 (.sl 1 (zt ns) .no) h=some (.int .i64 ns.length):=fun ns h=>yA (zX.mk .no) h;have hat:∀ (ns:List (List UInt8)) (i:Nat) (hi:i<ns.length),zR Tryz.prog 31 (.sl 1 (zt ns) .no) (.int .i64 (i:Int))=some (.iptr [.str ns[i]] 0):=fun ns i hi=>yz (zX.mk .no) hi
 refine zA.of_fn (g:=zI1) mix Tryz.func197 zUr rfl rfl ?_;simp only[Tryz.f197,gJ]
 repeat' first|simp only[go_sem,zBF, *]|apply bc<;>intro hc
 refine(hla _).mono ?_;rintro r h ⟨hq,ns,hp,rfl⟩;subst hq;have hnl:ns.length≤1048576:=by rw[hp.length_eq];omega
 have hns:ns≠[]:=fun e=>by subst e;exact hne (List.nil_perm.1 hp)
 have hl1:=hle ns;clear hle hla
 repeat' first|simp only[go_sem,zBF, *]|apply bc<;>intro hc
 refine zD (fun i fr h2=>∃o,fr 35= .sl 1 (zt ns) .no∧fr 36= .int .i64 (ns.length:Int)∧fr 37= .int .i64 (i:Int)∧fr 6=o∧Own h h2 1 (yp ((ns.take i).map fun s=>zPR s [])) o) ns.length (by omega) ?_ ?_ ?_
 ·simp only[go_sem,zBF,true_and,and_true,Int.ofNat_zero];exact⟨_,rfl,hE0⟩
 ·rintro i fr h2 hlt ec ew ⟨o,f35,f36,f37,f6,ho⟩;have a1:=hat ns i hlt;have htk:(ns.take (i+1)).map (fun s=>zPR s [])=(ns.take i).map (fun s=>zPR s [])++ [zPR ns[i] []]:=by rw[List.take_succ_eq_append_getElem hlt,List.map_append];rfl
  have hli:((ns.take i).map fun s=>zPR s []).length=i:=by rw[List.length_map,List.length_take];omega
  rw[htk];clear htk hQ hat hp;generalize ns[i]=s at *
  generalize(ns.take i).map (fun s=>zPR s [])=pre at *
  have b1:=zd4 s;have b2:=zTq s [];have b3:=fun nid h=>zHy (.sl 2 [[.str s, .str []]] .full) nid h rfl rfl rfl
  repeat' first|simp only[go_sem,zBF, *]|apply bc<;>intro hc
  refine ho.appH (ys:=yp [zPR s []]) wp zES we (by omega) (zEs _) (by simp[yp]) (by rw[yj,zBr,hli];unfold lim;simp[yp];omega) (by rw[yj,hli];unfold lim;simp[yp];omega) fun d' h' ho'=> ?_;have ho2:Own h h' 1 (yp (pre++ [zPR s []])) d':=by
   have:yp (pre++ [zPR s []])=yp pre++yp [zPR s []]:=by simp[yp]
   rw[this];exact ho'
  clear ho ho'
  repeat' first|simp only[go_sem,zBF, *]|apply bc<;>intro hc
  exact⟨_,rfl,ho2⟩
 ·rintro fr h2 ec ⟨o,f35,f36,f37,f6,ho⟩;rw[List.take_length] at ho;have hmi:=zHz ho.isSl (by simpa using hns) (by rw[List.length_map];omega) (fun a ha=>by
   obtain⟨s,_,rfl⟩:=List.mem_map.1 ha;exact zaE s [])
  have hmm:yX ((ns.map fun s=>zPR s []).map Alt.ts)=yX ((zC0 c z).map fun s=>[⟨s,[]⟩]):=by
   rw[List.map_map];exact zKl (hp.map _)
  rw[hmm] at hmi;have hm0:yX ((zC0 c z).map fun s=>[⟨s,[]⟩])≠[]:=zH1 (by simpa using hne);have hml:(yX ((zC0 c z).map fun s=>[⟨s,[]⟩])).length≤1048576:=by
   refine Nat.le_trans (zC2 _) ?_;rw[List.length_map];omega
  generalize yX ((zC0 c z).map fun s=>[⟨s,[]⟩])=M at *
  have hsz:=zNr hml;rw[zFX] at hsz;have hQ2:∀h',Ext h h'→Q (zIX (szd M)) h':=fun h' he=>hQ _ _ ⟨he,by rw[(zB0 _ 0).1];exact(zB0 _ _).2,by rw[(zB0 _ 0).1]⟩;have hex:=ho.1;clear hQ hmm hp hat hne hns ho;have hfin:∀r,Fin 1 (yp (M.map mkA)) r→r= .sl 1 (yp (M.map mkA)) .no:=fun r hr=>by
   rcases hr with⟨_,e⟩ |e
   ·exact absurd (by simpa [yp] using e) hm0
   ·exact e
  repeat' first|simp only[go_sem,zBF, *]|apply bc<;>intro hc
  refine(hmi _).mono ?_;rintro r h3 ⟨hq,hr⟩;subst hq;have hr2:=hfin r hr;subst hr2;have hq:=hQ2 _ hex;clear hQ2 hr hmi hex hm0 hml;cases hz:szd M with
  |none=>
   rw[hz] at hsz hq;simp only[zIX] at hsz hq
   repeat' first|simp only[go_sem,zBF, *]|apply bc<;>intro hc|(refine zA.mono (hsz _) ?_;rintro r h ⟨rfl,rfl⟩)
  |some M'=>
   rw[hz] at hsz hq;simp only[zIX] at hsz hq
   repeat' first|simp only[go_sem,zBF, *]|apply bc<;>intro hc|(refine zA.mono (hsz _) ?_;rintro r h ⟨rfl,rfl⟩)
theorem zTr {l:List (List Trm)} (h0:l≠[]) {r:D} (hr:Fin 1 (yp (l.map mkA)) r):r= .sl 1 (yp (l.map mkA)) .no:=by
 rcases hr with⟨_,e⟩ |e
 ·exact absurd (by simpa [yp] using e) h0
 ·exact e
theorem zKm {m:Nat} {l:List (List Trm)} (h:∀t∈l,t≠[]∧t.length≤m) (hm:m≤4096):∀q∈l.map mkA,q.Ok:=fun q hq=>by
 obtain⟨t,ht,rfl⟩:=List.mem_map.1 hq;exact zPM (h t ht).1 (Nat.le_trans (h t ht).2 hm)
theorem zXj (l:List (List Trm)):(l.map mkA).map Alt.ts=l:=by rw[List.map_map];exact List.map_id _
structure MInv (c:Cat) (k:Int) (l:List Ex) (R:Option (List (List Trm))) (g:Heap) (i:Nat) (out:List (List Trm)) (o:D) (h:Heap):Prop where
 hE:Ext g h
 hK:zDw c k (l.drop i) (i==0) out=R
 hor:k=3→Own g h 1 (yp (out.map mkA)) o
 hand:k≠3→(i=0∧out= [])∨(out≠[]∧o= .sl 1 (yp (out.map mkA)) .no∧out.length≤64)
 hts:∀t∈out,t≠[]∧t.length≤yH (l.take i)
 hol:out.length≤64*i+64
set_option maxHeartbeats 8000000 in
theorem zTs {c:Cat} {d:D} (hc:wR c d) (hs:c.Sm):∀ (n:Nat) (e:Ex),e.size≤n→e.size≤64→e.Fit c→e.Ok→∀g:Heap,
  zA Tryz.prog 197 [d, .agg e.cells] g fun r h'=>h'=g∧r=zDK c e:=by
 intro n
 induction n with
 |zero=>intro e h;cases e;simp only[Ex.size] at h;omega
 |succ n ih=>
 intro e hn h64 hfit hok g;obtain⟨k,nm,x,l,dd⟩:=e;have hcells:(Ex.mk k nm x l dd).cells= [.int .i64 k, .str nm, .str x,dd]:=rfl;rw[hcells];simp only[Ex.size] at hn h64;have hkids:∀ (i:Nat) (hi:i<l.length),l[i].Fit c∧l[i].Ok∧∀g:Heap,zA Tryz.prog 197 [d, .agg l[i].cells] g fun r h'=>h'=g∧r=zDK c l[i]:=fun i hi=>by
  have hm:=List.getElem_mem hi;have h1:l[i].Fit c:=hfit.kid (e:= .mk k nm x l dd) hm;have h2:l[i].Ok:=zDs (by simp only[Ex.Ok] at hok;exact hok.2.2.2.2) _ hm;have h3:=zBM hm;exact⟨h1,h2,ih _ (by omega) (by omega) h1 h2⟩
 rcases zPP hfit with⟨hk,hl,hx,y,hy⟩ | ⟨hk,hl2⟩
 ·rcases hk with rfl|rfl
  ·refine(zQQ hc (n:=nm) (x:=x) (y:=dd) g).mono fun r h' ⟨q1,q2⟩=>⟨q1,?_⟩;rw[q2];simp[zDK,zEt]
  ·refine(zQR hc hs hy (x:=x) (y:=dd) g).mono fun r h' ⟨q1,q2⟩=>⟨q1,?_⟩;rw[q2];simp[zDK,zEt,hy]
 have e0:(k==0)=false:=by rcases hk with rfl|rfl<;>rfl
 have e1:(k==1)=false:=by rcases hk with rfl|rfl<;>rfl
 have hR:zEt c (.mk k nm x l dd)=match zDw c k l true [] with
  |none=>none
  |some out=>szd (yX out):=by rw[zEt,if_neg (by rw[e0];exact Bool.false_ne_true),if_neg (by rw[e1];exact Bool.false_ne_true)];try (cases zDw c k l true []<;>rfl)
 have hfin:∀R,zDw c k l true []=some R→AltsOk 64 R∧R.length≤64*l.length:=fun R hR=>by
  have:=(zNs (c:=c) (yH l)).2 k l (Nat.le_refl _) (fun e he=>hfit.kid (e:= .mk k nm x l dd) he) 0 true [] R (fun t ht=>by cases ht) (by simp) (fun e=>by subst e;simp at hl2) hR;exact⟨this.1.mono (by omega),by simpa using this.2⟩
 have hll:l.length≤64:=by
  have:∀l:List Ex,l.length≤yH l:=fun l=>by
   induction l with
   |nil=>simp
   |cons e l ih=>simp only[yH,List.length_cons];cases e;simp only[Ex.size];omega
  have:=this l;omega
 have hdd:zX 4 (exs l) dd:=by simp only[Ex.Ok] at hok;exact hok.1
 have hmo:=fun(e:Ex) (he:e.Fit c) (l:List (List Trm)) (hl:zEt c e=some l)=>(zNs (c:=c) e.size).1 e (Nat.le_refl _) he l hl;have hsL:∀i (hi:i<l.length),yH (l.take (i+1))=yH (l.take i)+l[i].size∧yH (l.take (i+1))≤yH l:=fun i hi=>by
  have app:∀a b:List Ex,yH (a++b)=yH a+yH b:=fun a b=>by
   induction a with
   |nil=>simp[yH]
   |cons e a ih=>simp only[List.cons_append,yH,ih];omega
  refine⟨by rw[List.take_succ_eq_append_getElem hi,app];simp[yH],?_⟩;have:=app (l.take (i+1)) (l.drop (i+1));rw[List.take_append_drop] at this;omega
 obtain⟨R,eR⟩:∃R,zDw c k l true []=R:=⟨_,rfl⟩;refine zA.pure (by kernel_rfl) fun hok'=>zA.strip ?_;refine zA.post fun Q hQ=> ?_;have hQ2:∀h',Ext g h'→Q (zDK c (.mk k nm x l dd)) h':=fun h' he=>hQ _ _ ⟨he,by unfold zDK;rw[(zB0 _ 0).1];exact(zB0 _ _).2,by unfold zDK;rw[(zB0 _ 0).1]⟩;unfold zDK at hQ2;rw[hR,eR] at hQ2;rw[eR] at hfin;clear hQ hR hfit hok ih hcells;obtain⟨ca,cb,ce,cp,rfl,_,_,_,_⟩:=hc;have hv4:∀a b c e:D,ze true 4 [a,b,c,e] 0=some (.agg [a,b,c,e]):=fun a b c e=>zB rfl (by omega);have hlen:=zDt hdd;have hE0:=Own.start (Ext.refl g) 1
 refine zA.of_fn (g:=zI1) mix Tryz.func197 zUr rfl rfl ?_;simp only[Tryz.f197,gJ]
 repeat' first|simp only[go_sem,zBF, *]|apply bc<;>intro hc
 refine zD (fun i fr h=>∃out o,fr 2= .iptr [ca,cb,ce,cp] 0∧fr 3= .iptr [.int .i64 k, .str nm, .str x,dd] 0∧fr 54=dd∧fr 55= .int .i64 (l.length:Int)∧fr 56= .int .i64 (i:Int)∧fr 6=o∧MInv c k l R g i out o h) l.length (by omega) ?_ ?_ ?_
 ·have h0:MInv c k l R g 0 [] .nilsl g:=⟨Ext.refl g,eR,fun _=>hE0,fun _=> .inl ⟨rfl,rfl⟩,fun t ht=>(by cases ht),by simp⟩;simp only[go_sem,zBF,true_and,and_true,Int.ofNat_zero];exact⟨_,_,rfl,h0⟩
 ·rintro i fr h hlt ec ew ⟨out,o,f2,f3,f54,f55,f56,f6,⟨hE,hK,hor,hand,hts,hol⟩⟩;have a1:=zMF hdd hlt;obtain⟨kf,ko,kc⟩:=hkids i hlt;obtain⟨s1,s2⟩:=hsL i hlt;have hst:=zTQ l[i] (Ex.flat ko) h h.next;have hE2:=hE.new hE.1 (.row l[i].cells);have hrow:(h.new h.next (.row l[i].cells)).at' h.next=some (.row l[i].cells):=zQ _ _ _;rw[List.drop_eq_getElem_cons hlt,zDw] at hK;have hmo1:=hmo _ kf;have hol2:Ext h (h.new h.next (.row l[i].cells)):=(Ext.refl h).new (Nat.le_refl _) _;have hor2:k=3→Own g (h.new h.next (.row l[i].cells)) 1 (yp (out.map mkA)) o:=fun e=>(hor e).ext hol2;generalize hy:l[i]=y at *
  simp only[Ex.cells] at a1 kc hst hE2 hrow hor2 hol2;generalize hH:h.new h.next (.row [.int .i64 y.kind, .str y.name, .str y.exc,y.d])=H at *
  clear hkids hsL hmo hor;have hi0:((i:Int)==0)=(i==0):=by cases i<;>rfl
  have hi1:(i+1==0)=false:=rfl;cases hm:zEt c y with
  |none=>
   rw[hm] at hK;simp only at hK;have hq:=hQ2 H hE2;rw[←hK] at hq;simp only[zIX] at hq;have hmd:zDK c y= .tuple [.nilsl, .int .i64 10]:=by unfold zDK;rw[hm];rfl
   rw[hmd] at kc;clear hmd hQ2 hor2 hand hts hK
   repeat' first|simp only[go_sem,zBF, *]|apply bc<;>intro hc|(refine zA.mono (kc _) ?_;rintro r h ⟨hq,rfl⟩)
  |some lk=>
   rw[hm] at hK;simp only at hK;obtain⟨h64,hlo⟩:=hmo1 lk hm;have hmd:zDK c y= .tuple [.sl 1 (yp (lk.map mkA)) .no, .int .i64 0]:=by unfold zDK;rw[hm];rfl
   rw[hmd] at kc;clear hmd hmo1;cases q3:(k==3) with
   |true=>
    rw[if_pos q3] at hK;have hk3:k=3:=by simpa using q3
    have hoH:=hor2 hk3;clear hand hor2 hQ2
    repeat' first|simp only[go_sem,zBF, *]|apply bc<;>intro hc|(refine zA.mono (kc _) ?_;rintro r h ⟨hq,rfl⟩)
    subst hq;refine hoH.appH (ys:=yp (lk.map mkA)) wp zES we (by omega) (zEs _) (by simpa [yp] using hlo.ne) (by rw[yj,yj,List.length_map,List.length_map,zBr];unfold lim;omega) (by rw[yj,yj,List.length_map,List.length_map];unfold lim;omega) fun d' h' ho'=> ?_;have ho2:Own g h' 1 (yp ((out++lk).map mkA)) d':=by
     have:yp ((out++lk).map mkA)=yp (out.map mkA)++yp (lk.map mkA):=by simp[yp]
     rw[this];exact ho'
    have hres:MInv c k l R g (i+1) (out++lk) d' h':=⟨ho2.1,hK,fun _=>ho2,fun q=>absurd hk3 q,fun t ht=>by
     rcases List.mem_append.1 ht with q|q
     ·exact⟨(hts t q).1,Nat.le_trans (hts t q).2 (by omega)⟩
     ·exact⟨(hlo.ts t q).1,Nat.le_trans (hlo.ts t q).2 (by omega)⟩,by rw[List.length_append];omega⟩
    clear ho' hoH hK hts hol hlo ho2 hk3
    repeat' first|simp only[go_sem,zBF, *]|apply bc<;>intro hc
    exact⟨_,_,rfl,hres⟩
   |false=>
    rw[if_neg (by rw[q3];exact Bool.false_ne_true)] at hK;have hk3:k≠3:=by simpa using q3
    have hand2:=hand hk3;clear hand hor2;cases q0:(i==0) with
    |true=>
     rw[if_pos q0] at hK;have hres:MInv c k l R g (i+1) lk (.sl 1 (yp (lk.map mkA)) .no) H:=⟨hE2,hK,fun q=>absurd q hk3,fun _=> .inr ⟨hlo.ne,rfl,h64⟩,fun t ht=>⟨(hlo.ts t ht).1,Nat.le_trans (hlo.ts t ht).2 (by omega)⟩,by omega⟩;clear hK hts hol hlo hand2 hQ2;rw[q0] at hi0
     repeat' first|simp only[go_sem,zBF, *]|apply bc<;>intro hc|(refine zA.mono (kc _) ?_;rintro r h ⟨hq,rfl⟩)
     subst hq;exact⟨_,_,rfl,hres⟩
    |false=>
     rw[if_neg (by rw[q0];exact Bool.false_ne_true)] at hK;rw[q0] at hi0;obtain⟨hone,ho,ho64⟩:out≠[]∧o= .sl 1 (yp (out.map mkA)) .no∧out.length≤64:=by
      rcases hand2 with⟨q,_⟩ |q
      ·subst q;exact absurd q0 (by decide)
      ·exact q
     subst ho;have hpo:=AltsOk.pairs ⟨hone,hts⟩ hlo;have okA:=zKm hts (by omega);have okB:=zKm hlo.ts (by omega);have hcp:=zaA (zX.mk (sz:=1) (xs:=yp (out.map mkA)) .no) (zX.mk (sz:=1) (xs:=yp (lk.map mkA)) .no);have hco:=zQO (zX.mk (sz:=1) (xs:=yp (out.map mkA)) .no) (zX.mk (sz:=1) (xs:=yp (lk.map mkA)) .no) okA okB (by rw[List.length_map];omega) (by rw[List.length_map];omega);have hpt:zDc (out.map mkA) (lk.map mkA)=zC1 out lk:=rfl;rw[hpt] at hco;have hpl:(zC1 out lk).length≤4096:=by
      rw[zJT];exact Nat.le_trans (Nat.mul_le_mul ho64 h64) (by omega)
     have hmi:=zHz (zX.mk (sz:=1) (xs:=yp ((zC1 out lk).map mkA)) .no) (by simpa using hpo.ne) (by rw[List.length_map];omega) (zKm hpo.ts (by omega));rw[zXj] at hmi;have hmo:=hpo.min;have hmn:=hmo.ne;have hml:(yX (zC1 out lk)).length≤1048576:=Nat.le_trans (zC2 _) (by omega);have hf1:=fun r hr=>zTr hpo.ne (r:=r) hr;have hf2:=fun r hr=>zTr hmo.ne (r:=r) hr;generalize zC1 out lk=P at *
     generalize hM:yX P=M at *
     have hsz:=zNr hml;rw[zFX] at hsz;clear hpt hpo okA okB hts hol hlo hand2 hone
     repeat' first|simp only[go_sem,zBF, *]|apply bc<;>intro hc|(refine zA.mono (kc _) ?_;rintro r h ⟨hq,rfl⟩)
     subst hq;clear kc;refine(hcp _).mono ?_;rintro r h1 ⟨hq,rfl⟩;subst hq;clear hcp
     repeat' first|simp only[go_sem,zBF, *]|apply bc<;>intro hc
     refine(hco _).mono ?_;rintro r h2 ⟨hq,hr⟩;subst hq;have hr:=hf1 r hr;subst hr;clear hco
     repeat' first|simp only[go_sem,zBF, *]|apply bc<;>intro hc
     refine(hmi _).mono ?_;rintro r h3 ⟨hq,hr⟩;subst hq;have hr:=hf2 r hr;subst hr;clear hmi hf1 hf2;cases hz:szd M with
     |none=>
      rw[hz] at hK hsz;simp only at hK;have hq:=hQ2 _ hE2;rw[←hK] at hq;simp only[zIX] at hq hsz;clear hQ2 hK hmo hmn
      repeat' first|simp only[go_sem,zBF, *]|apply bc<;>intro hc|(refine zA.mono (hsz _) ?_;rintro r h ⟨rfl,rfl⟩)
     |some M'=>
      obtain⟨rfl,hM64⟩:=zGj hz;rw[hz] at hK hsz;simp only at hK;simp only[zIX] at hsz;have hres:MInv c k l R g (i+1) M' (.sl 1 (yp (M'.map mkA)) .no) h3:=⟨hE2,hK,fun q=>absurd q hk3,fun _=> .inr ⟨hmn,rfl,hM64⟩,fun t ht=>by rw[s1];exact hmo.ts t ht,by omega⟩;clear hQ2 hK hmo
      repeat' first|simp only[go_sem,zBF, *]|apply bc<;>intro hc|(refine zA.mono (hsz _) ?_;rintro r h ⟨rfl,rfl⟩)
      exact⟨_,_,rfl,hres⟩
 ·rintro fr h ec ⟨out,o,f2,f3,f54,f55,f56,f6,⟨hE,hK,hor,hand,hts,hol⟩⟩;have hd0:l.drop l.length= []:=List.drop_length;rw[hd0,zDw] at hK;obtain⟨hao,haol⟩:=hfin out hK.symm;have hsl:zX 1 (yp (out.map mkA)) o:=by
   by_cases hk3:k=3
   ·exact(hor hk3).isSl
   ·rcases hand hk3 with⟨q,_⟩ | ⟨_,q,_⟩
    ·omega
    ·rw[q];exact zX.mk .no
  have hmi:=zHz hsl (by simpa using hao.ne) (by rw[List.length_map];omega) (zKm hao.ts (by omega));rw[zXj] at hmi;have hf2:=fun r hr=>zTr hao.min.ne (r:=r) hr;have hml:(yX out).length≤1048576:=Nat.le_trans (zC2 _) (by omega);have hsz:=zNr hml;rw[zFX] at hsz;have hq:=hQ2 _ hE;rw[←hK] at hq;simp only at hq;clear hQ2 hfin hor hand hts hao hsl hkids hmo hsL hK;generalize yX out=M at *
  repeat' first|simp only[go_sem,zBF, *]|apply bc<;>intro hc
  refine(hmi _).mono ?_;rintro r h3 ⟨hq3,hr⟩;subst hq3;have hr:=hf2 r hr;subst hr;clear hmi hf2;cases hz:szd M with
  |none=>
   rw[hz] at hsz hq;simp only[zIX] at hq hsz
   repeat' first|simp only[go_sem,zBF, *]|apply bc<;>intro hc|(refine zA.mono (hsz _) ?_;rintro r h ⟨rfl,rfl⟩)
  |some M'=>
   rw[hz] at hsz hq;simp only[zIX] at hq hsz
   repeat' first|simp only[go_sem,zBF, *]|apply bc<;>intro hc|(refine zA.mono (hsz _) ?_;rintro r h ⟨rfl,rfl⟩)
def ofD (c:Cat) (e:Ex):D:=if(zAQ c e==0)=true then zDK c e else .tuple [.nilsl, .int .i64 (zAQ c e)]
theorem zaF {c:Cat} {d:D} (hc:wR c d) (hs:c.Sm) {e:Ex} (hok:e.Ok) (hsz:e.size≤1048576) (g:Heap):
  zA Tryz.prog 135 [d, .agg e.cells] g fun r h'=>h'=g∧r=ofD c e:=by
 have hck:=zHp hc hs hok hsz;have hme:=fun(h:zAQ c e=0)=>zTs hc hs e.size e (Nat.le_refl _) (zTp h).2.1 (zTp h).2.2 hok;obtain⟨ca,cb,ce,cp,rfl,_,_,_,_⟩:=hc;have hv4:∀a b c e:D,ze true 4 [a,b,c,e] 0=some (.agg [a,b,c,e]):=fun a b c e=>zB rfl (by omega);refine zA.post fun Q hQ=> ?_;have hq:=hQ (ofD c e) g ⟨rfl,rfl⟩;clear hQ;unfold ofD at hq;simp only[Ex.cells] at hck hme⊢;refine zA.of_fn (g:=zOZ) mix Tryz.func135 zcW rfl rfl ?_;simp only[Tryz.f135,gJ];cases q:(zAQ c e==0) with
 |false=>
  rw[if_neg (by rw[q];exact Bool.false_ne_true)] at hq;clear hme
  repeat' first|simp only[go_sem,zZB, *]|apply bc<;>intro hc|(refine zA.mono (hck _) ?_;rintro r h ⟨rfl,rfl⟩)
 |true=>
  rw[if_pos q] at hq;have hme2:=hme (by simpa using q);clear hme;unfold zDK at hq hme2;cases hm:zEt c e with
  |none=>
   rw[hm] at hq hme2;simp only[zIX] at hq hme2
   repeat' first|simp only[go_sem,zZB, *]|apply bc<;>intro hc|(refine zA.mono (hck _) ?_;rintro r h ⟨rfl,rfl⟩)|(refine zA.mono (hme2 _) ?_;rintro r h ⟨rfl,rfl⟩)
  |some l=>
   rw[hm] at hq hme2;simp only[zIX] at hq hme2
   repeat' first|simp only[go_sem,zZB, *]|apply bc<;>intro hc|(refine zA.mono (hck _) ?_;rintro r h ⟨rfl,rfl⟩)|(refine zA.mono (hme2 _) ?_;rintro r h ⟨rfl,rfl⟩)
def zUH (l:List (List Trm)):D:= .sl 1 (yp (l.map mkA)) .no
def zMh (l:List (List (List Trm))):List (List D):=l.map fun a=>[zUH a]
theorem zBO (l:List (List (List Trm))):(zMh l).length=l.length:=List.length_map ..
theorem zV2 {l:List (List (List Trm))} {i:Nat} (h:i<l.length):(zMh l)[i]? =some [zUH l[i]]:=by simp[zMh,h]
theorem zV3 (l:List (List (List Trm))):∀x∈zMh l,x.length=1:=fun x hx=>by
 obtain⟨s,_,rfl⟩:=List.mem_map.1 hx;rfl
theorem zQS (l:List (List (List Trm))):∀x∈zMh l,zCj x:=fun x hx=>by
 obtain⟨s,_,rfl⟩:=List.mem_map.1 hx;obtain⟨h1,h2⟩:=zJU s;exact⟨rfl,by simp only[yB];exact⟨h2,trivial⟩,by simp only[yh,zUH];rw[h1]⟩
theorem zV4 {l:List (List (List Trm))} {d:D} (hd:zX 1 (zMh l) d) (h:Heap):zAd Tryz.prog 149 d h=some (.int .i64 l.length):=by rw[zP hd Tryz.underlying149,zBO]
theorem zaG {l:List (List (List Trm))} {d:D} (hd:zX 1 (zMh l) d) {i:Nat} (hi:i<l.length):zR Tryz.prog 149 d (.int .i64 (i:Int))=some (.iptr [zUH l[i]] 0):=zE hd zHL zOU (zV2 hi)
def zGI (c:Cat) (e:Ex):Int:=if(zAQ c e==0)=true then(match zEt c e with
 |some _=>0
 |none=>10) else zAQ c e
def ofL (c:Cat) (e:Ex):List (List Trm):=(zEt c e).getD []
abbrev zhY:=List (List (List Trm)) ×List (List UInt8) ×Int
def zJV (c:Cat):List Fac→List (List (List Trm))→List (List UInt8)→zhY
 | [],t,o=>(t,o,0)
 |f::fs,t,o=>if(f.kind==1)=true then(if(zGI c f.e==0)=true then zJV c fs (t++ [ofL c f.e]) o else([],[],zGI c f.e))
  else if(f.kind==2)=true then zJV c fs t (if(o.any (· ==f.out))=true then o else o++ [f.out]) else zJV c fs t o
def qD (c:Cat) (l:List Fac):zhY:=if(!((qm c l).2==0))=true then([],[],(qm c l).2) else zJV c l [] []
theorem zd5 {c:Cat} {e:Ex} (h:(zGI c e==0)=true):ofD c e= .tuple [zUH (ofL c e), .int .i64 0]:=by
 unfold zGI at h;unfold ofD ofL zDK;split at h
 ·rename_i q;rw[if_pos q];split at h
  ·rename_i l hl;rw[hl];rfl
  ·exact absurd h (by decide)
 ·rename_i q;exact absurd h q
theorem zaH {c:Cat} {e:Ex} (h:(zGI c e==0)=false):ofD c e= .tuple [.nilsl, .int .i64 (zGI c e)]:=by
 unfold zGI at h⊢;unfold ofD zDK;split at h
 ·rename_i q;rw[if_pos q,if_pos q];split at h
  ·exact absurd h (by decide)
  ·rename_i hl;rw[hl];rfl
 ·rename_i q;rw[if_neg q,if_neg q]
theorem zaI (a:List (List Trm)) (nid:Nat) (h:Heap):zS Tryz.prog false nid 149 1 [(0,zUH a)] h=some (.sl 1 [[zUH a]] .full,h):=
 yR (P:=Tryz.prog) (x:=zUH a) zHL zUc zOU rfl rfl (by omega) (by omega) rfl rfl
structure ValI (c:Cat) (l:List Fac) (R:zhY) (g:Heap) (i:Nat) (t:List (List (List Trm))) (o:List (List UInt8)) (td od:D) (h:Heap):Prop where
 own:Own2 g h 1 (zMh t) td 1 (zt o) od
 eq:zJV c (l.drop i) t o=R
 tl:t.length≤i
 ol:o.length≤i
set_option maxHeartbeats 8000000 in
theorem zV5 {c:Cat} {d x:D} (hc:wR c d) (hs:c.Sm) {l:List Fac} (hx:zX 12 (zK1 l) x) (hl:l.length≤1048576) (hok:∀f∈l,f.Ok) (g:Heap):
  zA Tryz.prog 86 [d,x] g fun r h'=>h'=g∧∃td od,r= .tuple [td,od, .int .i64 (qD c l).2.2]∧Fin 1 (zMh (qD c l).1) td∧Fin 1 (zt (qD c l).2.1) od:=by
 have hck:=zNj hc hs hx hl hok;have hof:=fun f (hf:f∈l)=>zaF hc hs (hok f hf).e (hok f hf).es;have hlen:=zEn hx;have h12:=zKd;obtain⟨ca,cb,ce,cp,rfl,_,_,_,_⟩:=hc;have hv4:∀a b c e:D,ze true 4 [a,b,c,e] 0=some (.agg [a,b,c,e]):=fun a b c e=>zB rfl (by omega);refine zA.pure (by kernel_rfl) fun hok'=>zA.strip ?_;refine zA.post fun Q hQ=> ?_;have hE0:=Own2.start (Ext.refl g) 1 1;refine zA.of_fn (g:=zUw) mix Tryz.func86 zie rfl rfl ?_;simp only[Tryz.f86,gJ];cases q1:((qm c l).2==0) with
 |false=>
  have hR:qD c l=([],[],(qm c l).2):=by unfold qD;rw[q1];rfl
  have hq:=hQ (.tuple [.nilsl, .nilsl, .int .i64 (qm c l).2]) g ⟨Ext.refl g,by simp[yC,yh,below,yB], .nilsl, .nilsl,by rw[hR];rfl, .inl ⟨rfl,by rw[hR];rfl⟩, .inl ⟨rfl,by rw[hR];rfl⟩⟩;clear hQ hof hR
  repeat' first|simp only[go_sem,zR0, *]|apply bc<;>intro hc|(refine zA.mono (hck _) ?_;rintro r h ⟨rfl,rfl⟩)
 |true=>
 have hR:qD c l=zJV c l [] []:=by unfold qD;rw[q1];rfl
 obtain⟨R,eR⟩:∃R,zJV c l [] []=R:=⟨_,rfl⟩;rw[hR,eR] at hQ;clear hR
 repeat' first|simp only[go_sem,zR0, *]|apply bc<;>intro hc|(refine zA.mono (hck _) ?_;rintro r h ⟨hq,rfl⟩)
 refine zD (fun i fr h=>∃t o td od,fr 2= .iptr [ca,cb,ce,cp] 0∧fr 24=x∧fr 25= .int .i64 (l.length:Int)∧fr 26= .int .i64 (i:Int)∧fr 9=td∧fr 10=od∧ValI c l R g i t o td od h) l.length (by omega) ?_ ?_ ?_
 ·have h0:ValI c l R g 0 [] [] .nilsl .nilsl g:=⟨hE0,eR,Nat.le_refl _,Nat.le_refl _⟩;simp only[go_sem,zR0,true_and,and_true,Int.ofNat_zero];exact⟨_,_,_,_,rfl,rfl,h0⟩
 ·clear hck;rintro i fr h2 hlt ec ew ⟨t,o,td,od,f2,f24,f25,f26,f9,f10,⟨hown,hK,htl,hol⟩⟩;have a1:=zFV hx hlt;have hfo:=hok _ (List.getElem_mem hlt);have hfc:=hof _ (List.getElem_mem hlt);have hst:=zJJ hfo h2 h2.next;rw[List.drop_eq_getElem_cons hlt,zJV] at hK;have hrow:(h2.new h2.next (.row l[i].cells)).at' h2.next=some (.row l[i].cells):=zQ _ _ _;have hown2:=hown.ext ((Ext.refl h2).new (Nat.le_refl _) (.row l[i].cells));have hcon:=fun(h:Heap)=>zDk hown.b.isSl (by omega:o.length≤1048576) l[i].out h;generalize l[i]=f at *
  simp only[Fac.cells,Ex.cells] at a1 hst hrow hown2 hfc;generalize hH:h2.new h2.next (.row [.int .i64 f.kind, .str f.comp, .str f.out, .int .i64 f.rel, .int .i64 f.way, .int .i64 f.duty, .bool f.chg, .int .i64 f.e.kind, .str f.e.name, .str f.e.exc,f.e.d,f.d])=H at *
  have hpe:ze true 4 [.int .i64 f.kind, .str f.comp, .str f.out, .int .i64 f.rel, .int .i64 f.way, .int .i64 f.duty, .bool f.chg, .int .i64 f.e.kind, .str f.e.name, .str f.e.exc,f.e.d,f.d] 7=some (.agg [.int .i64 f.e.kind, .str f.e.name, .str f.e.exc,f.e.d]):=rfl;clear hown hof;cases q2:(f.kind==1) with
  |true=>
   rw[if_pos q2] at hK;cases q3:(zGI c f.e==0) with
   |true=>
    rw[if_pos q3] at hK;rw[zd5 q3] at hfc;have hone:=zaI (ofL c f.e);clear hQ hcon
    repeat' first|simp only[go_sem,zR0, *]|apply bc<;>intro hc|(refine zA.mono (hfc _) ?_;rintro r h ⟨hq,rfl⟩)
    subst hq;refine hown2.appH (zs:=zMh [ofL c f.e]) zHL zYL zOU (by omega) (zV3 _) (by simp[zMh]) (by rw[zBO,zBO,zRW];unfold lim;simp;omega) (by rw[zBO,zBO];unfold lim;simp;omega) fun d' h' ho'=> ?_;have hres:ValI c l R g (i+1) (t++ [ofL c f.e]) o d' od h':=⟨by
     have:zMh (t++ [ofL c f.e])=zMh t++zMh [ofL c f.e]:=by simp[zMh]
     rw[this];exact ho',hK,by simp;omega,by omega⟩
    clear ho' hown2 hK
    repeat' first|simp only[go_sem,zR0, *]|apply bc<;>intro hc
    exact⟨_,_,_,_,rfl,rfl,hres⟩
   |false=>
    rw[if_neg (by rw[q3];exact Bool.false_ne_true)] at hK;rw[zaH q3] at hfc;have hq:=hQ (.tuple [.nilsl, .nilsl, .int .i64 (zGI c f.e)]) H ⟨hown2.a.1,by simp[yC,yh,below,yB], .nilsl, .nilsl,by rw[←hK];rfl, .inl ⟨rfl,by rw[←hK];rfl⟩, .inl ⟨rfl,by rw[←hK];rfl⟩⟩;clear hQ hcon hown2 hK
    repeat' first|simp only[go_sem,zR0, *]|apply bc<;>intro hc|(refine zA.mono (hfc _) ?_;rintro r h ⟨rfl,rfl⟩)
  |false=>
   rw[if_neg (by rw[q2];exact Bool.false_ne_true)] at hK;clear hQ hfc;cases q3:(f.kind==2) with
   |true=>
    rw[if_pos q3] at hK;cases q4:(o.any (· ==f.out)) with
    |true=>
     rw[if_pos q4] at hK;rw[q4] at hcon;have hres:ValI c l R g (i+1) t o td od H:=⟨hown2,hK,by omega,by omega⟩;clear hown2 hK
     repeat' first|simp only[go_sem,zR0, *]|apply bc<;>intro hc|(refine zA.mono (hcon _) ?_;rintro r h ⟨hq,rfl⟩)
     subst hq;exact⟨_,_,_,_,rfl,rfl,hres⟩
    |false=>
     rw[if_neg (by rw[q4];exact Bool.false_ne_true)] at hK;rw[q4] at hcon;have hone:=zCq f.out
     repeat' first|simp only[go_sem,zR0, *]|apply bc<;>intro hc|(refine zA.mono (hcon _) ?_;rintro r h ⟨hq,rfl⟩)
     subst hq;refine hown2.swap.appH (zs:=zt [f.out]) zd zBq yu (by omega) zDC (by simp[zt]) (by rw[zJ,wO];unfold lim;simp[zt];omega) (by rw[zJ];unfold lim;simp[zt];omega) fun d' h' ho'=> ?_;have hres:ValI c l R g (i+1) t (o++ [f.out]) td d' h':=⟨by
      have:zt (o++ [f.out])=zt o++zt [f.out]:=by simp[zt]
      rw[this];exact ho'.swap,hK,by omega,by simp;omega⟩
     clear ho' hown2 hK
     repeat' first|simp only[go_sem,zR0, *]|apply bc<;>intro hc
     exact⟨_,_,_,_,rfl,rfl,hres⟩
   |false=>
    rw[if_neg (by rw[q3];exact Bool.false_ne_true)] at hK;have hres:ValI c l R g (i+1) t o td od H:=⟨hown2,hK,by omega,by omega⟩;clear hown2 hK hcon
    repeat' first|simp only[go_sem,zR0, *]|apply bc<;>intro hc
    exact⟨_,_,_,_,rfl,rfl,hres⟩
 ·rintro fr h2 ec ⟨t,o,td,od,f2,f24,f25,f26,f9,f10,⟨hown,hK,htl,hol⟩⟩;rw[List.drop_length,zJV] at hK;have hf1:=hown.a.2.1.fin (zQS t);have hf2:=hown.b.2.1.fin (yW (l:=o));have hq:=hQ (.tuple [td,od, .int .i64 0]) h2 ⟨hown.a.1,by
   simp only[yC,yh,below,yB];exact⟨zu (Nat.zero_le _) _ hf1.1,zu (Nat.zero_le _) _ hf2.1,trivial,trivial⟩,yC td,yC od,by rw[←hK];rfl,by rw[←hK];exact hf1.2,by rw[←hK];exact hf2.2⟩
  clear hQ hown hK hf1 hf2
  repeat' first|simp only[go_sem,zR0, *]|apply bc<;>intro hc
def zMi (a b:List Trm):Bool:=zGh zO a b==0
theorem zGk (a b:List Trm):zMi a b=true↔a=b:=by
 unfold zMi;constructor
 ·intro h;exact zNo zEr _ _ (by simpa using h)
 ·rintro rfl;simp[zCw.list.refl]
theorem zaJ (x y:Trm) (c:Bool):zD1 Tryz.prog .neq 51 c (.agg [.str x.a, .str x.b]) (.agg [.str y.a, .str y.b])=some (.bool (!(zO x y==0))):=by
 have he:eqT Tryz.prog 51=some [.s, .s]:=by kernel_rfl
 rw[zDG];simp only[zD1,he,zQn,eqK,Option.map_some,Bool.and_true,zAk]
theorem zV6 {a b:List Trm} {x y:D} (hx:zX 2 (qg a) x) (hy:zX 2 (qg b) y) (hl:a.length≤1048576) (g:Heap):
  zA Tryz.prog 89 [x,y] g fun r h'=>h'=g∧r= .bool (zMi a b):=by
 have l1:=wb hx;have l2:=wb hy;have hv2:∀a b:D,ze true 2 [a,b] 0=some (.agg [a,b]):=fun a b=>zB rfl (by omega);refine zA.post fun Q hQ=> ?_;have hq:=hQ _ _ ⟨rfl,rfl⟩;clear hQ;refine zA.of_fn (g:=zVC) mix Tryz.func89 zi3 rfl rfl ?_;simp only[Tryz.f89,gJ];cases q:((a.length:Int)==(b.length:Int)) with
 |false=>
  have hne:zMi a b=false:=by
   cases h:zMi a b with
   |false=>rfl
   |true=>rw[(zGk _ _).1 h] at q;simp at q
  rw[hne] at hq
  repeat' first|simp only[go_sem,zXS, *]|apply bc<;>intro hc
 |true=>
 have hle:a.length≤b.length∧b.length≤a.length:=by have:=of_decide_eq_true q;omega
 obtain⟨hle1,hle2⟩:=hle
 repeat' first|simp only[go_sem,zXS, *]|apply bc<;>intro hc
 refine zD (fun i fr h=>fr 0=x∧fr 1=y∧fr 12= .int .i64 (a.length:Int)∧fr 13= .int .i64 (i:Int)∧h=g∧a.take i=b.take i) a.length (by omega) ?_ ?_ ?_
 ·simp only[go_sem,zXS,true_and,and_true,Int.ofNat_zero];rfl
 ·rintro i fr h hlt ec ew ⟨f0,f1,f12,f13,rfl,ht⟩;have hlt2:i<b.length:=by omega
  have a1:=zCv hx hlt;have a2:=zCv hy hlt2;have hn:=zaJ a[i] b[i];have h1:∀ (e:(zO a[i] b[i]==0)=true),a.take (i+1)=b.take (i+1):=fun e=>by
   have he:=zEr a[i] b[i] (by simpa using e);rw[List.take_succ_eq_append_getElem hlt,List.take_succ_eq_append_getElem hlt2,ht,he]
  have h2:∀ (e:(zO a[i] b[i]==0)=false),zMi a b=false:=fun e=>by
   cases h:zMi a b with
   |false=>rfl
   |true=>
    have:=(zGk _ _).1 h;subst this;rw[zCw.refl] at e;exact absurd e (by decide)
  generalize a[i]=u at *
  generalize b[i]=v at *
  simp only[Trm.cells] at a1 a2;cases qq:(zO u v==0) with
  |true=>
   have hres:=h1 qq;rw[qq] at hn;clear h1 h2 ht hq
   repeat' first|simp only[go_sem,zXS, *]|apply bc<;>intro hc
   refine zi (by kernel_rfl) ?_
   repeat' first|simp only[go_sem,zXS, *]|apply bc<;>intro hc
  |false=>
   rw[h2 qq] at hq;rw[qq] at hn;clear h1 h2 ht
   repeat' first|simp only[go_sem,zXS, *]|apply bc<;>intro hc
   refine zi (by kernel_rfl) ?_
   repeat' first|simp only[go_sem,zXS, *]|apply bc<;>intro hc
 ·rintro fr h ec ⟨f0,f1,f12,f13,rfl,ht⟩
  have:a=b:=by
   rw[List.take_length,show a.length=b.length by omega,List.take_length] at ht;exact ht
  rw[(zGk _ _).2 this] at hq;clear ht this
  repeat' first|simp only[go_sem,zXS, *]|apply bc<;>intro hc
theorem zhZ {a b:List Trm} {x y:D} (hx:zX 2 (qg a) x) (hy:zX 2 (qg b) y) (hl:a.length≤1048576) {id:Nat} {g:Heap} (hi:g.at' id=some (.row [x])):
  zA Tryz.prog 88 [y, .ptr id 0] g fun r h'=>h'=g∧r= .bool (zMi a b):=by
 have hc:=zV6 hx hy hl;refine zA.of_fn (g:=zU5) mix Tryz.func88 ziv rfl rfl ?_;simp only[Tryz.f88,gJ]
 repeat' first|simp only[go_sem,zjs, *]|apply bc<;>intro hc|(refine zA.mono (hc _) ?_;rintro r h ⟨rfl,rfl⟩)
theorem zMX {l:List Lic} {d:D} (hd:zX 4 (zCS l) d) (hl:l.length≤1048576) {f:FuncId} {cap:List D} {p:Lic→Bool} {g:Heap} (hp:∀s∈l,zA Tryz.prog f ([]++ [.agg s.cells]++cap) g fun r h'=>h'=g∧r= .bool (p s)):
  zA Tryz.prog 137 [d, .fn (.func f) [] cap] g fun r h'=>h'=g∧r= .int .i64 (zIT p l):=by
 have hlen:=zAV hd;have hv4:∀a b c e:D,ze true 4 [a,b,c,e] 0=some (.agg [a,b,c,e]):=fun a b c e=>zB rfl (by omega);refine zA.of_fn (g:=zOk) mix Tryz.func137 zct rfl rfl ?_;simp only[Tryz.f137,gJ]
 repeat' first|simp only[go_sem,zSJ, *]|apply bc<;>intro hc
 refine zD (fun i fr h=>fr 1= .fn (.func f) [] cap∧fr 0=d∧fr 6=d∧fr 7= .int .i64 (l.length:Int)∧fr 8= .int .i64 (i:Int)∧h=g∧∀j (hj:j<l.length),j<i→p l[j]=false) l.length (by omega) ?_ ?_ ?_
 ·simp only[go_sem,zSJ,true_and,and_true,Int.ofNat_zero];exact fun j hj h0=>by omega
 ·rintro i fr h hlt e1 ew ⟨f1,f0,f6,f7,f8,rfl,hj⟩;have a1:=wx hd hlt;have hq:=hp _ (List.getElem_mem hlt);simp only[List.nil_append,List.cons_append,Lic.cells] at hq;simp only[Lic.cells] at a1;cases hb:p l[i] with
  |true=>
   have hx:=zCr hlt hj hb;rw[hb] at hq;clear hj hp hd
   repeat' first|simp only[go_sem,zSJ, *]|apply bc<;>intro hc|(refine zA.mono hq ?_;rintro r h ⟨rfl,rfl⟩)
  |false=>
   have hn:=ql (p:=p) hlt hj hb;rw[hb] at hq;clear hj hp hd
   repeat' first|simp only[go_sem,zSJ, *]|apply bc<;>intro hc|(refine zA.mono hq ?_;rintro r h ⟨rfl,rfl⟩)
   exact hn
 ·rintro fr h e1 ⟨f1,f0,f6,f7,f8,rfl,hj⟩;have hx:=zCs (p:=p) fun j hj'=>hj j hj' hj';clear hj hp hd
  repeat' first|simp only[go_sem,zSJ, *]|apply bc<;>intro hc
theorem zH3 {l:List Lic} {d:D} (hd:zX 4 (zCS l) d) (hl:l.length≤1048576) {f:FuncId} {cap:List D} {p:Lic→Bool} {g:Heap} (hp:∀s∈l,zA Tryz.prog f ([]++ [.agg s.cells]++cap) g fun r h'=>h'=g∧r= .bool (p s)):
  zA Tryz.prog 90 [d, .fn (.func f) [] cap] g fun r h'=>h'=g∧r= .bool (l.any p):=by
 have hix:=zMX hd hl hp;have hge:=zFS (l:=l) (p:=p);refine zA.of_fn (g:=zUk) mix Tryz.func90 ziO rfl rfl ?_;simp only[Tryz.f90,gJ]
 repeat' first|simp only[go_sem,zjS, *]|apply bc<;>intro hc|(refine zA.mono hix ?_;rintro r h ⟨rfl,rfl⟩)
theorem zha (x:Lic) (s:List UInt8) {id:Nat} {g:Heap} (hi:g.at' id=some (.row [.str s])):
  zA Tryz.prog 91 [.agg x.cells, .ptr id 0] g fun r h'=>h'=g∧r= .bool (x.name==s):=by
 refine zA.of_fn (g:=zUp) mix Tryz.func91 ziY rfl rfl ?_;simp only[Tryz.f91,gJ];simp only[Lic.cells]
 repeat' first|simp only[go_sem,zja, *]|apply bc<;>intro hc
structure Cho where
 ts:List Alt
 own:List (List UInt8)
structure Alt.Sm (a:Alt):Prop where
 sl:zX 2 (qg a.ts) a.d
 len:a.ts.length≤1048576
def zNt (y:Cho) (d:D):Prop:=∃a b,d= .agg [a,b]∧zX 1 (yp y.ts) a∧zX 1 (zt y.own) b
structure Cho.Sm (y:Cho):Prop where
 tl:y.ts.length≤1048576
 ol:y.own.length≤1048576
 ts:∀a∈y.ts,a.Sm
def zFY (v:List (List (List Trm))) (ts:List Alt) (p:Bool) (i:Nat):Int:=match ts[i]? with
 |none=>0
 |some a=>if(p&&((a.ts.length:Int)==0))=true then 0 else if(!((v.getD i []).any fun b=>zMi a.ts b))=true then 1 else 0
def zV7 (c:Cat) (own:List (List UInt8)) (p:Bool) (i:Nat):Int:=match own[i]? with
 |none=>0
 |some s=>if(p&&(s== []))=true then 0 else if(!(c.ls.any fun x=>x.name==s))=true then 7 else 0
def yL (c:Cat) (l:List Fac) (y:Cho) (p:Bool):Int:=
 if(!((qD c l).2.2==0))=true then(qD c l).2.2
 else if(!((y.ts.length:Int)==((qD c l).1.length:Int))|| !((y.own.length:Int)==((qD c l).2.1.length:Int)))=true then 9
 else if(!(zEy (zFY (qD c l).1 y.ts p) y.ts.length==0))=true then zEy (zFY (qD c l).1 y.ts p) y.ts.length
 else zEy (zV7 c y.own p) y.own.length
theorem zd6 {c:Cat} {e:Ex} (h:(zGI c e==0)=true):(ofL c e).length≤64∧AltsOk 64 (ofL c e):=by
 unfold zGI at h;unfold ofL;split at h
 ·rename_i q;obtain⟨_,h2,h3⟩:=zTp (show zAQ c e=0 by simpa using q);split at h
  ·rename_i l hl;have:=(zNs (c:=c) e.size).1 e (Nat.le_refl _) h3 l hl;rw[hl];exact⟨this.1,this.2.mono h2⟩
  ·exact absurd h (by decide)
 ·rename_i q;exact absurd h q
theorem zKn {c:Cat} :∀ {l:List Fac} {t:List (List (List Trm))} {o:List (List UInt8)},(∀a∈t,a.length≤64∧AltsOk 64 a)→∀a∈(zJV c l t o).1,a.length≤64∧AltsOk 64 a
 | [],t,o,h=>by rw[zJV];exact h
 |f::fs,t,o,h=>by
  rw[zJV];split
  ·split
   ·rename_i q;exact zKn fun a ha=>by
     rcases List.mem_append.1 ha with g|g
     ·exact h a g
     ·cases List.mem_singleton.1 g;exact zd6 q
   ·intro a ha;cases ha
  ·split
   ·exact zKn h
   ·exact zKn h
theorem zMY {c:Cat} {l:List Fac} :∀a∈(qD c l).1,a.length≤64∧AltsOk 64 a:=by
 unfold qD;split
 ·intro a ha;cases ha
 ·exact zKn fun a ha=>by cases ha
set_option maxHeartbeats 8000000 in
theorem zKo {c:Cat} {d x z:D} (hc:wR c d) (hs:c.Sm) {l:List Fac} (hx:zX 12 (zK1 l) x) (hl:l.length≤1048576) (hok:∀f∈l,f.Ok) {y:Cho} (hy:zNt y z) (hys:y.Sm) (p:Bool) (g:Heap):
  zA Tryz.prog 39 [d,x,z, .bool p] g fun r h'=>h'=g∧r= .int .i64 (yL c l y p):=by
 have hva:=zV5 hc hs hx hl hok;have hcd:=hc;obtain⟨ca,cb,ce,cp,rfl,hca,_,_,_⟩:=hc;obtain⟨ya,yb,rfl,ha,hb⟩:=hy;obtain⟨y1,y2,y3⟩:=hys;have hv4:∀a b c e:D,ze true 4 [a,b,c,e] 0=some (.agg [a,b,c,e]):=fun a b c e=>zB rfl (by omega);have hlA:=zCJ ha;have hlB:=yA hb;refine zA.pure (by kernel_rfl) fun hok'=> ?_;refine zA.post fun Q hQ=> ?_;obtain⟨E,hE⟩:∃E,yL c l y p=E:=⟨_,rfl⟩;have hQ2:∀h',Ext g h'→Q (.int .i64 E) h':=fun h' he=>hQ _ _ ⟨he,trivial,by rw[hE]⟩;clear hQ;unfold yL at hE;refine zA.of_fn (g:=zUj) mix Tryz.func39 ziL rfl rfl ?_;simp only[Tryz.f39,gJ]
 repeat' first|simp only[go_sem,zKG, *]|apply bc<;>intro hc
 refine(hva _).mono ?_;rintro r h ⟨hq,td,od,rfl,htd,hod⟩;subst hq;clear hva;have e0:=Ext.refl h;have htd:zX 1 (zMh (qD c l).1) td:=htd.isSl;have hod:zX 1 (zt (qD c l).2.1) od:=hod.isSl;have hl1:=zV4 htd;have hl2:=yA hod;have hvo:∀a∈(qD c l).1,a.length≤1048576:=fun a ha=>Nat.le_trans (zMY a ha).1 (by omega);cases q1:((qD c l).2.2==0) with
 |false=>
  rw[if_pos (by rw[q1];rfl)] at hE;have hq:=hQ2 h e0;rw[←hE] at hq;clear hQ2 hE
  repeat' first|simp only[go_sem,zKG, *]|apply bc<;>intro hc
 |true=>
 rw[if_neg (by rw[q1];decide)] at hE;generalize qD c l=v at *
 cases q2:((y.ts.length:Int)==(v.1.length:Int)) with
 |false=>
  rw[if_pos (by rw[q2];rfl)] at hE;have hq:=hQ2 h e0;rw[←hE] at hq;clear hQ2 hE
  repeat' first|simp only[go_sem,zKG, *]|apply bc<;>intro hc
 |true=>
 cases q3:((y.own.length:Int)==(v.2.1.length:Int)) with
 |false=>
  rw[if_pos (by rw[q2,q3];rfl)] at hE;have hq:=hQ2 h e0;rw[←hE] at hq;clear hQ2 hE
  repeat' first|simp only[go_sem,zKG, *]|apply bc<;>intro hc
 |true=>
 rw[if_neg (by rw[q2,q3];decide)] at hE;have hlt1:y.ts.length≤v.1.length:=by have:=of_decide_eq_true q2;omega
 obtain⟨F,hF⟩:∃F,zEy (zFY v.1 y.ts p) y.ts.length=F:=⟨_,rfl⟩;rw[hF] at hE
 repeat' first|simp only[go_sem,zKG, *]|apply bc<;>intro hc
 clear q1;refine zD (fun i fr h2=>fr 3= .bool p∧fr 4= .iptr [ca,cb,ce,cp] 0∧fr 6= .iptr [ya,yb] 0∧fr 9=td∧fr 41=ya∧fr 42= .int .i64 (y.ts.length:Int)∧fr 43= .int .i64 (i:Int)∧Ext h h2∧∀j,j<i→zFY v.1 y.ts p j=0) y.ts.length (by omega) ?_ ?_ ?_
 ·have h0:∀j,j<0→zFY v.1 y.ts p j=0:=fun j hj=>absurd hj (Nat.not_lt_zero _);simp only[go_sem,zKG,true_and,and_true,Int.ofNat_zero];exact⟨e0,h0⟩
 ·rintro i fr h2 hlt ec ew ⟨f3,f4,f6,f9,f41,f42,f43,he,hj⟩;have a1:=zDv ha hlt;have a2:=zaG htd (show i<v.1.length by omega);have sm:=y3 _ (List.getElem_mem hlt);have hte:zFY v.1 y.ts p i=if(p&&((y.ts[i].ts.length:Int)==0))=true then 0 else if(!(v.1[i].any fun b=>zMi y.ts[i].ts b))=true then 1 else 0:=by
   unfold zFY;rw[List.getElem?_eq_getElem hlt];simp only;rw[List.getD_eq_getElem?_getD,List.getElem?_eq_getElem (by omega)];rfl
  have hnx:=fun(e:zFY v.1 y.ts p i=0)=>wX (f:=zFY v.1 y.ts p) hj e;have hat:=fun(e:zFY v.1 y.ts p i≠0)=>zCI (f:=zFY v.1 y.ts p) hlt hj e;rw[hF] at hat;have hrow:(h2.new h2.next (.row [y.ts[i].d])).at' h2.next=some (.row [y.ts[i].d]):=zQ _ _ _;have heN:=he.new he.1 (.row [y.ts[i].d]);have hcf:=zCx (l:=v.1[i].map mkA) (d:=zUH v.1[i]) (zX.mk .no) (by rw[List.length_map];exact hvo _ (List.getElem_mem _)) (f:=88) (cap:=[.ptr h2.next 0]) (p:=fun b=>zMi y.ts[i].ts b.ts) (g:=h2.new h2.next (.row [y.ts[i].d])) (fun s hs=>by
   obtain⟨t,ht,rfl⟩:=List.mem_map.1 hs;exact⟨zX.mk .no,zhZ sm.sl (zX.mk .no) sm.len hrow⟩)
  have hany:(v.1[i].map mkA).any (fun b=>zMi y.ts[i].ts b.ts)=v.1[i].any fun b=>zMi y.ts[i].ts b:=by rw[List.any_map];rfl
  rw[hany] at hcf;clear hany;obtain⟨k1,k2,k3⟩:=zY sm.sl;have hla:=wb sm.sl;generalize y.ts[i]=a at *
  generalize v.1[i]=b at *
  have hst:zW Tryz.prog 168 (.ptr h2.next 0) a.d (h2.new h2.next (.row [.nilsl]))=some (h2.new h2.next (.row [a.d])):=by
   rw[zh (off:=0) (zQ _ _ _) we (by simp) k1 k3,zFI];rfl
  have had:(zUH b).notTuple=true:=rfl;generalize h2.new h2.next (.row [a.d])=H at *
  clear hj hF ha hb htd hod y3 sm q2 q3;cases hp:p with
  |true=>
   subst hp;cases qa:((a.ts.length:Int)==0) with
   |true=>
    have hn:=hnx (by rw[hte,qa];rfl);clear hnx hat hte hcf hQ2 hE
    repeat' first|simp only[go_sem,zKG, *]|apply bc<;>intro hc
    exact hn
   |false=>
    rw[if_neg (by rw[qa];decide)] at hte;cases qb:(b.any fun t=>zMi a.ts t) with
    |true=>
     have hn:=hnx (by rw[hte,qb];rfl);rw[qb] at hcf;clear hnx hat hte hQ2 hE
     repeat' first|simp only[go_sem,zKG, *]|apply bc<;>intro hc|(refine zA.mono hcf ?_;rintro r h ⟨hq,rfl⟩)
     subst hq;exact hn
    |false=>
     have h1:F=1:=by rw[hat (by rw[hte,qb];decide),hte,qb];rfl
     subst h1;rw[if_pos (by decide)] at hE;have hq:=hQ2 H heN;rw[←hE] at hq;rw[qb] at hcf;clear hnx hat hte hQ2 hE
     repeat' first|simp only[go_sem,zKG, *]|apply bc<;>intro hc|(refine zA.mono hcf ?_;rintro r h ⟨rfl,rfl⟩)
  |false=>
   subst hp;rw[if_neg (by rw[Bool.false_and];decide)] at hte;cases qb:(b.any fun t=>zMi a.ts t) with
   |true=>
    have hn:=hnx (by rw[hte,qb];rfl);rw[qb] at hcf;clear hnx hat hte hQ2 hE
    repeat' first|simp only[go_sem,zKG, *]|apply bc<;>intro hc|(refine zA.mono hcf ?_;rintro r h ⟨hq,rfl⟩)
    subst hq;exact hn
   |false=>
    have h1:F=1:=by rw[hat (by rw[hte,qb];decide),hte,qb];rfl
    subst h1;rw[if_pos (by decide)] at hE;have hq:=hQ2 H heN;rw[←hE] at hq;rw[qb] at hcf;clear hnx hat hte hQ2 hE
    repeat' first|simp only[go_sem,zKG, *]|apply bc<;>intro hc|(refine zA.mono hcf ?_;rintro r h ⟨rfl,rfl⟩)
 ·rintro fr h2 ec ⟨f3,f4,f6,f9,f41,f42,f43,he,hj⟩;have hF0:F=0:=by rw[←hF];exact wW hj
  subst hF0;rw[if_neg (by decide)] at hE;clear hF hj htd hl1 hlt1 q2 q3
  repeat' first|simp only[go_sem,zKG, *]|apply bc<;>intro hc
  refine zD (fun i fr h2=>fr 3= .bool p∧fr 4= .iptr [ca,cb,ce,cp] 0∧fr 63=yb∧fr 64= .int .i64 (y.own.length:Int)∧fr 65= .int .i64 (i:Int)∧Ext h h2∧∀j,j<i→zV7 c y.own p j=0) y.own.length (by omega) ?_ ?_ ?_
  ·have h0:∀j,j<0→zV7 c y.own p j=0:=fun j hj=>absurd hj (Nat.not_lt_zero _);simp only[go_sem,zKG,true_and,and_true,Int.ofNat_zero];exact⟨f3,f4,he,h0⟩
  ·clear he;rintro i fr h2 hlt ec ew ⟨f3,f4,f63,f64,f65,he,hj⟩;have a1:=yz hb hlt;have hte:zV7 c y.own p i=if(p&&(y.own[i]== []))=true then 0 else if(!(c.ls.any fun x=>x.name==y.own[i]))=true then 7 else 0:=by
    unfold zV7;rw[List.getElem?_eq_getElem hlt]
   have hnx:=fun(e:zV7 c y.own p i=0)=>wX (f:=zV7 c y.own p) hj e;have hat:=fun(e:zV7 c y.own p i≠0)=>zCI (f:=zV7 c y.own p) hlt hj e;rw[hE] at hat;generalize y.own[i]=s at *
   have hrow:(h2.new h2.next (.row [.str s])).at' h2.next=some (.row [.str s]):=zQ _ _ _;have heN:=he.new he.1 (.row [.str s]);have hcf:=zH3 hca hs.ls.1 (f:=91) (cap:=[.ptr h2.next 0]) (p:=fun x=>x.name==s) (g:=h2.new h2.next (.row [.str s])) (fun x _=>zha x s hrow);have hst:zW Tryz.prog 9 (.ptr h2.next 0) (.str s) (h2.new h2.next (.row [.str []]))=some (h2.new h2.next (.row [.str s])):=by
    rw[zh (off:=0) (zQ _ _ _) yu (by simp) rfl rfl,zFI];rfl
   generalize h2.new h2.next (.row [.str s])=H at *
   clear hj hE ha hb hod y3;cases hp:p with
   |true=>
    subst hp;cases qa:(s== []) with
    |true=>
     have hn:=hnx (by rw[hte,qa];rfl);clear hnx hat hte hcf hQ2
     repeat' first|simp only[go_sem,zKG, *]|apply bc<;>intro hc
     exact hn
    |false=>
     rw[if_neg (by rw[qa];decide)] at hte;cases qb:(c.ls.any fun x=>x.name==s) with
     |true=>
      have hn:=hnx (by rw[hte,qb];rfl);rw[qb] at hcf;clear hnx hat hte hQ2
      repeat' first|simp only[go_sem,zKG, *]|apply bc<;>intro hc|(refine zA.mono hcf ?_;rintro r h ⟨hq,rfl⟩)
      subst hq;exact hn
     |false=>
      have h1:E=7:=by rw[hat (by rw[hte,qb];decide),hte,qb];rfl
      subst h1;have hq:=hQ2 H heN;rw[qb] at hcf;clear hnx hat hte hQ2
      repeat' first|simp only[go_sem,zKG, *]|apply bc<;>intro hc|(refine zA.mono hcf ?_;rintro r h ⟨rfl,rfl⟩)
   |false=>
    subst hp;rw[if_neg (by rw[Bool.false_and];decide)] at hte;cases qb:(c.ls.any fun x=>x.name==s) with
    |true=>
     have hn:=hnx (by rw[hte,qb];rfl);rw[qb] at hcf;clear hnx hat hte hQ2
     repeat' first|simp only[go_sem,zKG, *]|apply bc<;>intro hc|(refine zA.mono hcf ?_;rintro r h ⟨hq,rfl⟩)
     subst hq;exact hn
    |false=>
     have h1:E=7:=by rw[hat (by rw[hte,qb];decide),hte,qb];rfl
     subst h1;have hq:=hQ2 H heN;rw[qb] at hcf;clear hnx hat hte hQ2
     repeat' first|simp only[go_sem,zKG, *]|apply bc<;>intro hc|(refine zA.mono hcf ?_;rintro r h ⟨rfl,rfl⟩)
  ·clear he;rintro fr h2 ec ⟨f3,f4,f63,f64,f65,he,hj⟩;have h1:E=0:=by rw[←hE];exact wW hj
   subst h1;have hq:=hQ2 h2 he;clear hj hQ2 hE
   repeat' first|simp only[go_sem,zKG, *]|apply bc<;>intro hc
def nd (sz:Nat):List (List D)→D
 | []=> .nilsl
 |x::xs=> .sl sz (x::xs) .no
end Go.V
