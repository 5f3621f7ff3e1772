/- Rules of the machine of abstract values, part 10. No condition. -/
import Derived.Test.YtmhkjfajejaniaaGreatDoorW33
import Derived.Shelf.SlSortCmp.Whole1
import Derived.Test.YtmhkjfajejaniaaGreatDoorW23
import Derived.Test.YtmhkjfajejaniaaGreatDoorW30
import Derived.Test.YtmhkjfajejaniaaGreatDoorW22
import Derived.Test.YtmhkjfajejaniaaGreatDoorW32
set_option linter.all false
namespace Go.V
open Go.Shelf Go.Proofs Go.Sort
open Go.RowKit (Below)
theorem zIO {α:Type} [Inhabited α] (enc:α→Value) (w:World) (blk off m:Nat) (dk:Array α) (os:Array Go.Obj):∀b,b≠blk→b<w.heap.size→(sortWorld enc w blk off m dk os).heap[b]? =w.heap[b]? :=fun b hb hl=>by
 show((putRow enc (Go.Sort.ahead w m) blk off dk).heap++os)[b]? =_;have hs:(putRow enc (Go.Sort.ahead w m) blk off dk).heap.size=w.heap.size:=by simp[putRow,mapBlock,Go.Sort.ahead]
 rw[Array.getElem?_append_left (by omega)];show((Go.Sort.ahead w m).heap.modify blk _)[b]? =_;rw[Array.getElem?_modify,if_neg (fun e=>hb e.symm)];rfl
section
variable {P:Program} {f cmp:FuncId} {β:Type} {dd:β→D} {xs:List β} {id:Nat} {pre post:List D} {h:Heap} {cf:β→β→Int}
abbrev zLG (dd:β→D) (xs:List β) (M:Imm) (ρ:Ren):= {p:β×Value // p.1∈xs∧rel M ρ (dd p.1) p.2∧(dd p.1).flat=true}
theorem zA.of_sort1 (h0:xs≠[]) (he:wS P f=true) (hcm:∀args w,(callFunc cmp args).run P w= .ok (.enter cmp args) w)
  (hrow:h.at' id=some (.row (pre++xs.map dd++post))) (hO:SWO (ltOf cf)) (hlen:xs.length<4611686018427387904)
  (hcmp:∀x∈xs,∀y∈xs,∀H,zA P cmp [dd x,dd y] H fun r H'=>H'=H∧r= .int .i64 (cf x y))
  (hlib:∀ (α:Type) [Inhabited α] (enc:α→Value),OneCell enc→∀ (cf:α→α→Int),SWO (ltOf cf)→∀ (g:Nat) (cb:Array Value) (blk off cap:Nat) (d:Array α) (w:World),
   (∀args w,(callFunc g args).run P w= .ok (.enter g args) w)→CmpLays1 P g cb enc cf blk off d.size w→Go.Sort.Holds enc w blk off d→blk<w.heap.size→d.size<4611686018427387904→
   Calls P f #[.slice (some ⟨blk,off,none⟩) d.size cap, .func (.func g) #[] cb] w fun e w'=>e= .returned (.tuple #[])∧∃d' n os,PermIn 0 d.size d d'∧SortedIn (ltOf cf) 0 d.size d'∧w'=sortWorld enc w blk off n d' os):
  zA P f [.rs id 1 pre.length xs.length, .fn (.func cmp) [] []] h fun r h'=>r= .tuple []∧∃ys:List β,ys.Perm xs∧ys.Pairwise (fun a b=>¬cf b a<0)∧h'=h.set id (.row (pre++ys.map dd++post)):=by
 refine⟨he,fun w0 G M ρ w va hg0 hs hfr hr=> ?_⟩;simp only[zw] at hr;obtain⟨v,vs',hva,hv,v2,vs2,rfl,hv2,rfl⟩:=hr;simp only[rel,zw] at hv hv2;obtain⟨_,hlim,l,cap,o,hl,rfl,⟨hc1,hc2⟩,hsz,ho⟩:=hv;obtain⟨_,fa,fc,rfl,hfa,hfc⟩:=hv2;have hfa':fa= #[]:=Array.ext' (by simpa using hfa);have hfc':fc= #[]:=Array.ext' (by simpa using hfc);subst hfa' hfc';have hxl:0<xs.length:=List.length_pos_iff.2 h0;have ho:o=pre.length:=by
  rcases ho with hz|ho
  ·omega
  ·exact ho
 subst ho;have hva':va= #[.slice (some ⟨l.blk,pre.length,none⟩) xs.length cap, .func (.func cmp) #[] #[]]:=Array.ext' (by simpa using hva);subst hva';obtain⟨l',h1,hkeep,hM,c,e,hw,hls,hcl,hcells⟩:=hs.live id _ hrow;rw[hl] at h1;cases h1;have hblk:l.blk<w.heap.size:=(Array.getElem?_eq_some_iff.1 hw).1;have hat:∀i (hi:i<xs.length),(pre++xs.map dd++post)[pre.length+i]? =some (dd xs[i]):=fun i hi=>by
  rw[List.append_assoc,List.getElem?_append_right (by omega),Nat.add_sub_cancel_left,List.getElem?_append_left (by simpa using hi),List.getElem?_map,List.getElem?_eq_getElem hi];rfl
 have hval:∀i (hi:i<xs.length),∃v,c[pre.length+i]? =some v∧rel M ρ (dd xs[i]) v∧(dd xs[i]).flat=true:=fun i hi=>by
  obtain⟨h1,v,h2,h3⟩:=hcells _ _ (hat i hi);exact⟨v,h2,h3,h1⟩
 let mk:_root_.Fin xs.length→zLG dd xs M ρ:=fun i=>⟨(xs[i.1],(hval i.1 i.2).choose),List.getElem_mem i.2,(hval i.1 i.2).choose_spec.2⟩
 letI:Inhabited (zLG dd xs M ρ):=⟨mk ⟨0,hxl⟩⟩
 let enc:zLG dd xs M ρ→Value:=fun p=>p.1.2
 have henc1:OneCell enc:=fun p=>zF6 p.2.2.1 p.2.2.2
 let d:Array (zLG dd xs M ρ):=Array.ofFn mk
 have hd:d.size=xs.length:=by simp[d]
 have hdi:∀i (hi:i<xs.length),d[i]! =mk ⟨i,hi⟩:=fun i hi=>by rw[getElem!_pos d i (by rw[hd];exact hi)];simp[d]
 have hdl:d.toList.map (fun p=>p.1.1)=xs:=by
  apply List.ext_getElem?;intro i;rw[List.getElem?_map,Array.getElem?_toList];by_cases hi:i<xs.length
  ·rw[Array.getElem?_eq_getElem (by rw[hd];exact hi),List.getElem?_eq_getElem hi,Option.map_some];simp[d,mk]
  ·rw[Array.getElem?_eq_none (by omega),List.getElem?_eq_none (by omega)];rfl
 have hO':SWO (ltOf fun p q:zLG dd xs M ρ=>cf p.1.1 q.1.1):=⟨fun x=>hO.irrefl _,fun x y z=>hO.trans _ _ _,fun x y z=>hO.ntrans _ _ _⟩;have hholds:Go.Sort.Holds enc w l.blk pre.length d:=by
  intro j hj;rw[hd] at hj;refine⟨?_,by simp[World.frozen?,hw]⟩;rw[hdi _ hj];have hv:=(hval j hj).choose_spec.1;simp only[World.cell?,hw,Option.isSome_none,Bool.false_eq_true,if_false];exact hv
 have hlays:CmpLays1 P cmp #[] enc (fun p q=>cf p.1.1 q.1.1) l.blk pre.length d.size w:=by
  intro m os dk hdk x y;have hfrm:=zIO enc w l.blk pre.length m dk os;have hgood:∀g,P.globalNamed wg=some g→Lib.TabIs P (sortWorld enc w l.blk pre.length m dk os) wg .u64 Lib.pow10Tab:=fun g hg=>by
   have h2:=hg0.here hs.below hg;unfold Lib.TabIs World.var? at h2⊢;rw[hg] at h2⊢;simp only[Option.bind_some] at h2⊢;have hgk:=(hg0 g hg).1;rw[hfrm g (fun q=>hkeep (q▸hgk)) (Nat.lt_of_lt_of_le (w0.kept g hgk) hs.below.size)];exact h2
  refine zA.stays (fun H=>(hcmp x.1.1 x.2.1 y.1.1 y.2.1 H).mono fun r H' hq=>hq.2) (fun M ρ v hv=>by simp only[rel] at hv;exact hv.1) (M:=M) (ρ:=ρ) (n:=h.next) (fun b o v hb=> ?_) hgood hfr ?_
  ·have hne:b≠l.blk:=fun q=>by subst q;rw[hM o] at hb;cases hb
   rw[←hs.imm b o v hb];exact World.cell?_of_block (w:=w) (hfrm b hne (hs.lt hb))
  ·show zw M ρ _ [_,_];simp only[zw];exact⟨_,_,rfl,x.2.2.1,_,_,rfl,y.2.2.1,rfl⟩
 have hcall:=hlib (zLG dd xs M ρ) enc henc1 (fun p q=>cf p.1.1 q.1.1) hO' cmp #[] l.blk pre.length cap d w hcm hlays hholds hblk (by rw[hd];exact hlen);rw[hd] at hcall;refine hcall.mono fun e w' hq=> ?_;obtain⟨rfl,d',n,os,hperm,hsorted,rfl⟩:=hq;rw[←hd] at hperm;have hpl:=PermIn.list hperm;have hd':d'.size=xs.length:=by rw[hperm.1,hd]
 have hys:(d'.toList.map fun p=>p.1.1).Perm xs:=by
  have q:=hpl.map (fun p=>p.1.1)
  rwa [hdl] at q
 let mk2:zLG dd xs M ρ→zb1:=fun p=>⟨(dd p.1.1,p.1.2),p.2.2.2⟩
 have hm1:∀dk:List (zLG dd xs M ρ),(dk.map mk2).map (fun q=>q.1.1)=(dk.map fun p=>p.1.1).map dd:=fun dk=>by rw[List.map_map,List.map_map];rfl
 have hm2:∀dk:List (zLG dd xs M ρ),(dk.map mk2).map (fun q=>q.1.2)=dk.map enc:=fun dk=>by rw[List.map_map];rfl
 have hrow2:h.at' id=some (.row (pre++(d.toList.map mk2).map (fun q=>q.1.1)++post)):=by rw[hm1,hdl];exact hrow
 have hS:=(hs.ahead n).putRow (α:=zb1) (enc:=fun q=>q.1.2) (dd:=fun q=>q.1.1) (fun q=>q.2) hrow2 hl (ys:=d'.toList.map mk2) (hpl.map mk2).length_eq (fun q hq=>by
  obtain⟨p,hp,rfl⟩:=List.mem_map.1 hq;exact p.2.2.1)
 have hS2:=hS.grow os;rw[zFu,List.map_toArray,hm2,hm1,←List.map_toArray,Array.toArray_toList,←zFu] at hS2;refine⟨.tuple #[],M,ρ, .tuple [],_,rfl,MLe.refl _,RLe.refl _,hS2,hfr,by simp only[rel,zw];exact⟨#[],rfl,rfl⟩,rfl,d'.toList.map (fun p=>p.1.1),hys,?_,rfl⟩;rw[List.pairwise_map,List.pairwise_iff_getElem];intro i j hi hj hij;have hj':j<d'.size:=by simpa using hj
 have:=hsorted i j (Nat.zero_le _) hij (by omega);rw[getElem!_pos d' j hj',getElem!_pos d' i (by omega)] at this;simpa [ltOf] using this
end
open Go.Proofs Go.Shelf Go.Sort
set_option maxRecDepth 100000
theorem zIP:QC yp where
 anti x y:=by unfold yp;(repeat' split)<;>omega
 trans x y z h1 h2:=by
  have e:∀a b:Int,yp a b≤0↔a≤b:=fun a b=>by unfold yp;(repeat' split)<;>omega
  rw[e] at *;omega
theorem zUZ (x y:Int) (h:yp x y=0):x=y:=by unfold yp at h;(repeat' split at h)<;>omega
theorem zJ1:∀a b:List Trm,zAt a b=zGR zN a b
 | [],[]=>rfl
 | [],_::_=>rfl
 |_::_,[]=>rfl
 |x::xs,y::ys=>by
  simp only[zAt,zGR,zMv,zJ1 xs ys];by_cases h:zN x y=0<;>simp[h]
theorem zBB (a b:List Trm):zD5 a b=zMv (yp a.length b.length) (zGR zN a b):=by
 unfold zD5 zMv;simp only[orL,zJ1];split
 ·split
  ·rename_i q;exact q.symm
  ·rfl
 ·rfl
theorem zIQ:QC zD5:=by
 have:=(zIP.key (γ:=List Trm) (fun a=>(a.length:Int))).lex zDH.list;exact⟨fun x y=>by rw[zBB,zBB];exact this.anti x y,fun x y z=>by rw[zBB,zBB,zBB];exact this.trans x y z⟩
theorem zM0 (x y:List Trm) (h:zD5 x y=0):x=y:=by
 rw[zBB,zMv] at h;split at h
 ·exact zLC zFI _ _ h
 ·rename_i q;exact absurd h q
theorem zLH (l:List (List Trm)):(yJ (l.map mkA)).flatten=l.map fun ts=>(mkA ts).d:=by rw[zIM,List.map_map];rfl
theorem zaU {l:List (List Trm)} {id:Nat} {g:Heap} (h0:l≠[]) (hl:l.length≤1048576) (hle:∀ts∈l,ts.length≤1048576) (hrow:g.at' id=some (.row (yJ (l.map mkA)).flatten)):
  zA Tryz.prog 178 [.rs id 1 0 l.length, .fn (.func 179) [] []] g fun r h'=>r= .tuple []∧h'=g.set id (.row (yJ ((srt zD5 l).map mkA)).flatten):=by
 have:=zA.of_sort1 (P:=Tryz.prog) (f:=178) (cmp:=179) (dd:=fun ts=>(mkA ts).d) (xs:=l) (id:=id) (pre:=[]) (post:=[]) (h:=g) (cf:=zD5) h0 (by kernel_rfl) (enters_of Tryz.func179 (by kernel_rfl) rfl) (by simpa [zLH] using hrow) zIQ.swo (by omega)
  (fun x hx y hy H=>zMu (zX.mk .no) (zX.mk .no) (hle x hx) (hle y hy) H) (fun α _ enc h1 cf hO g cb blk off cap d w hg hc hH hb hs=>Any.slices_SortFunc Tryz.sortAlt enc h1 cf hO g cb blk off cap d w hg hc hH hb hs)
 refine this.mono fun r h' ⟨e1,ys,hp,hs,e2⟩=>⟨e1,?_⟩;rw[e2,zQP zIQ zM0 hp hs,zLH];simp
open Go.Proofs
def zAq (ts:List Trm):List Trm:=cpt zN (srt zN ts)
def zDJ (out:List (List Trm)) (a:List Trm):List (List Trm):=if(out.any fun b=>zFF a b)=true then out else out++ [a]
def zCf (l:List (List Trm)):Nat→List (List Trm)
 |0=>[]
 |n+1=>match l[n]? with
  |none=>zCf l n
  |some a=>zDJ (zCf l n) a
def wU (l:List (List Trm)):List (List Trm):=srt zD5 (l.map zAq)
def yQ (l:List (List Trm)):List (List Trm):=zCf (wU l) (wU l).length
theorem zQR {ts:List Trm} (h:ts≠[]):zAq ts≠[]:=fun e=>by
 have h1:0<(srt zN ts).length:=by rw[(qP ts).length_eq];exact List.length_pos_iff.2 h
 have:=zLD (c:=zN) h1 _ (Nat.le_refl _) h1;rw[show yq zN (srt zN ts) (srt zN ts).length=zAq ts from rfl,e] at this
 exact absurd this (Nat.lt_irrefl _)
theorem zM1 (ts:List Trm):(zAq ts).length≤ts.length:=by
 have:=zBh (c:=zN) (l:=srt zN ts) (srt zN ts).length;rw[(qP ts).length_eq] at this;exact(by rw[←(qP (c:=zN) ts).length_eq];exact zBh _)
theorem zQS {ts:List Trm} (h:ts≠[]) (hl:ts.length≤4096):(mkA ts).Ok:=⟨zX.mk .no,h,hl⟩
theorem zDK {l:List (List Trm)} :∀n,∀x∈zCf l n,x∈l
 |0,x,h=>by cases h
 |n+1,x,h=>by
  rw[zCf] at h;split at h
  ·exact zDK n x h
  ·rename_i a e;unfold zDJ at h;split at h
   ·exact zDK n x h
   ·rcases List.mem_append.1 h with h|h
    ·exact zDK n x h
    ·cases List.mem_singleton.1 h;exact List.mem_of_getElem? e
theorem zIR {l:List (List Trm)} :∀n,(zCf l n).length≤n
 |0=>Nat.le_refl _
 |n+1=>by
  have ih:=zIR (l:=l) n;rw[zCf];split
  ·omega
  ·unfold zDJ;split
   ·omega
   ·rw[List.length_append];simp only[List.length_cons,List.length_nil];omega
theorem zM2 {l:List (List Trm)} {x:List Trm} (h:x∈yQ l):∃y∈l,x=zAq y:=by
 have:=zFt.1 (zDK _ x h);obtain⟨y,hy,rfl⟩:=List.mem_map.1 this;exact⟨y,hy,rfl⟩
theorem zFv (d:D) (nid:Nat) (h:Heap) (h1:d.cells= [d]) (h2:d.notTuple=true) (h3:d.flat=true):zM Tryz.prog false nid 39 1 [(0,d)] h=some (.sl 1 [[d]] .full,h):=by
 have:=yg (P:=Tryz.prog) (nid:=nid) (h:=h) (x:=d) qh zGu zAF rfl rfl (by omega) (by omega) h2 (by rw[h1];rfl);rw[h1] at this;exact this
set_option maxHeartbeats 4000000 in
theorem zIS {l:List Alt} {d:D} (hd:zX 1 (yJ l) d) (h0:l≠[]) (hl:l.length≤1048576) (hok:∀a∈l,a.Ok) (g:Heap):
  zA Tryz.prog 124 [d] g fun r h'=>h'=g∧Fin 1 (yJ ((yQ (l.map Alt.ts)).map mkA)) r:=by
 refine zA.pure (by kernel_rfl) fun hok'=>zA.strip ?_;have hlen:=zCe hd;refine zA.post fun Q hQ=> ?_;have hE0:=Own.start (Ext.refl g) 1;refine zA.of_fn (g:=zS7) mix Tryz.func124 zhR rfl rfl ?_;simp only[Tryz.f124,gJ]
 repeat' first|simp only[go_sem,zGb, *]|apply bc<;>intro hc
 refine zF (fun i fr h=>∃s,fr 10=d∧fr 11= .int .i64 (l.length:Int)∧fr 12= .int .i64 (i:Int)∧fr 3=s∧zNa g h 1 (yJ (((l.take i).map fun a=>zAq a.ts).map mkA)) s) l.length (by omega) ?_ ?_ ?_
 ·have hs:=zNa.start (Ext.refl g) 1;simp only[go_sem,zGb,true_and,and_true,Int.ofNat_zero];exact⟨_,rfl,hs⟩
 ·rintro i fr h hlt e1 ew ⟨s,f10,f11,f12,f3,ho⟩;have a1:=zEN hd hlt;obtain⟨o1,o2,o3⟩:=hok _ (List.getElem_mem hlt);have htk:(l.take (i+1)).map (fun a=>zAq a.ts)=(l.take i).map (fun a=>zAq a.ts)++ [zAq l[i].ts]:=by rw[List.take_succ_eq_append_getElem hlt,List.map_append];rfl
  have hli:((l.take i).map fun a=>zAq a.ts).length=i:=by rw[List.length_map,List.length_take];omega
  rw[htk];clear htk;generalize l[i]=a at *
  generalize(l.take i).map (fun a=>zAq a.ts)=pre at *
  obtain⟨k1,k2,k3⟩:=zK o1;have hcl:=fun h=>zUX o1 o2 (by omega) h;have hso:=fun(H:Heap) (hr:H.at' h.next=some (.row (qM a.ts).flatten))=>zaT (id:=h.next) o2 (by omega) hr;have hn0:srt zN a.ts≠[]:=fun e=>o2 (List.length_eq_zero_iff.1 (by rw[←(qP (c:=zN) a.ts).length_eq,e];rfl));have hnl:(srt zN a.ts).length=a.ts.length:=(qP a.ts).length_eq;have hco:=fun(H:Heap) (hr:H.at' h.next=some (.row (qM (srt zN a.ts)).flatten))=>zOi (id:=h.next) hn0 (by omega) hr;rw[hnl] at hco;have hnd:D.sl 2 (qM (cpt zN (srt zN a.ts))) .no=(mkA (zAq a.ts)).d:=rfl;clear hd hok hlen
  repeat' first|simp only[go_sem,zGb, *]|apply bc<;>intro hc|(refine zA.mono (hcl _) ?_;rintro r h ⟨rfl,rfl⟩)
  refine(hso _ (zJ _ _ _)).mono ?_;rintro r h2 ⟨rfl,rfl⟩
  repeat' first|simp only[go_sem,zGb, *]|apply bc<;>intro hc
  refine(hco _ (zC _ _ _)).mono ?_;rintro r h2 ⟨rfl,rfl⟩;have hE:Ext h (((h.new h.next (.row (qM a.ts).flatten)).set h.next (.row (qM (srt zN a.ts)).flatten)).del h.next):=(((Ext.refl h).new (Nat.le_refl _) _).set (Nat.le_refl _) _).del (Nat.le_refl _);generalize((h.new h.next (.row (qM a.ts).flatten)).set h.next (.row (qM (srt zN a.ts)).flatten)).del h.next=H at *
  have hoH:=ho.ext hE;obtain⟨d',G,hap,hoG,htr⟩:=hoH.app (P:=Tryz.prog) (ys:=yJ [mkA (zAq a.ts)]) (tk:= .full) qh zED zAF (by omega) (fun cs=>zMq Tryz.underlying62) (zBi _) (zBi _) (by simp[yJ]) (by rw[yL,List.length_map,hli,zBO];unfold lim;simp[yJ];omega) (by rw[yL,List.length_map,hli];unfold lim;simp[yJ];omega);have hone:=zFv (mkA (zAq a.ts)).d H.next H rfl rfl rfl;have hal:yJ [mkA (zAq a.ts)]= [[(mkA (zAq a.ts)).d]]:=rfl;rw[hal] at hap htr;have hfin:zNa g G 1 (yJ ((pre++ [zAq a.ts]).map mkA)) d':=by
   rw[List.map_append]
   have:yJ (pre.map mkA++List.map mkA [zAq a.ts])=yJ (pre.map mkA)++yJ [mkA (zAq a.ts)]:=by simp[yJ]
   rw[this];exact hoG
  clear ho hoH hoG hso hco hcl hal
  repeat' first|simp only[go_sem,zGb, *]|apply bc<;>intro hc
  exact⟨_,rfl,hfin⟩
 ·rintro fr h e1 ⟨s,f10,f11,f12,f3,ho⟩;rw[List.take_length] at ho;have hS:srt zD5 (l.map fun a=>zAq a.ts)=wU (l.map Alt.ts):=by rw[wU,List.map_map];rfl
  have hSl:(wU (l.map Alt.ts)).length=l.length:=by rw[←hS,(qP _).length_eq,List.length_map]
  have hm0:l.map (fun a=>zAq a.ts)≠[]:=by simp[h0]
  have hml:(l.map fun a=>zAq a.ts).length=l.length:=List.length_map ..;have hmok:∀ts∈wU (l.map Alt.ts),ts≠[]∧ts.length≤4096:=fun ts h=>by
   rw[←hS] at h;obtain⟨a,ha,rfl⟩:=List.mem_map.1 (zFt.1 h);exact⟨zQR (hok a ha).ne,Nat.le_trans (zM1 _) (hok a ha).len⟩
  have hle:∀ts∈l.map (fun a=>zAq a.ts),ts.length≤1048576:=fun ts h=>by
   have:=(hmok ts (by rw[←hS];exact zFt.2 h)).2;omega
  obtain⟨hx,hc⟩:=ho;rcases hc with⟨_,e⟩ | ⟨id,rfl,hrow,hid,hidn,_⟩
  ·exact absurd (by simpa [yJ] using e) h0
  have hal:(yJ ((l.map fun a=>zAq a.ts).map mkA)).length=l.length:=by rw[yL,List.length_map,hml]
  rw[hal] at f3;have hso:=zaU hm0 (by omega) hle hrow;have hmin:yQ (l.map Alt.ts)=zCf (wU (l.map Alt.ts)) (wU (l.map Alt.ts)).length:=rfl;rw[hmin] at hQ;clear hmin;rw[hml,hS] at hso;generalize wU (l.map Alt.ts)=L at *
  have E0:Ext g (h.set id (.row (yJ (L.map mkA)).flatten)):=hx.set hid _;have hQ2:∀r h',Ext g h'→below g.next (yI r)→Fin 1 (yJ ((zCf L L.length).map mkA)) (yI r)→Q r h':=fun r h' q1 q2 q3=>hQ r h' ⟨q1,q2,q3⟩;clear hQ hd hlen hS hm0 hml hle hal
  repeat' first|simp only[go_sem,zGb, *]|apply bc<;>intro hc|(refine zA.mono hso ?_;rintro r h ⟨rfl,rfl⟩)
  have r0:(h.set id (.row (yJ (L.map mkA)).flatten)).at' id=some (.row (yJ (L.map mkA)).flatten):=zC _ _ _;have hidn2:id<(h.set id (.row (yJ (L.map mkA)).flatten)).next:=hidn;generalize h.set id (.row (yJ (L.map mkA)).flatten)=H at *
  have hvl:=fun(h:Heap)=>zBP (P:=Tryz.prog) (t:=39) (sz:=1) (id:=id) (off:=0) (len:=l.length) (h:=h) Tryz.underlying39
  repeat' first|simp only[go_sem,zGb, *]|apply bc<;>intro hc
  refine zF (fun i fr h=>∃o,fr 28= .rs id 1 0 l.length∧fr 29= .int .i64 (l.length:Int)∧fr 30= .int .i64 (i:Int)∧fr 7=o∧Own H h 1 (yJ ((zCf L i).map mkA)) o) l.length (by omega) ?_ ?_ ?_
  ·have hs:=Own.start (Ext.refl H) 1;simp only[go_sem,zGb,true_and,and_true,Int.ofNat_zero];exact⟨_,rfl,hs⟩
  ·rintro i fr h2 hlt ec ew ⟨o,f28,f29,f30,f7,ho⟩;have hlt':i<L.length:=by omega
   have a1:=zh (P:=Tryz.prog) (sz:=1) (id:=id) qh zAF (k:= .i64) hlt;have hrow2:h2.at' id=some (.row (yJ (L.map mkA)).flatten):=by rw[ho.1.2 _ hidn2];exact r0
   have hLi:(yJ (L.map mkA)).flatten[i*1]? =some (mkA L[i]).d:=by rw[zLH,Nat.mul_one,List.getElem?_map,List.getElem?_eq_getElem hlt'];rfl
   obtain⟨m1,m2⟩:=hmok L[i] (List.getElem_mem hlt');have hmi:zCf L (i+1)=zDJ (zCf L i) L[i]:=by rw[zCf,List.getElem?_eq_getElem hlt']
   have hsub:∀x∈zCf L i,x≠[]∧x.length≤4096:=fun x hx=>hmok x (zDK i x hx);have hml:=zIR (l:=L) i;rw[hmi];clear hmi;generalize L[i]=a at *
   generalize zCf L i=out at *
   have hnx:h2.next<(h2.new h2.next (.row [(mkA a).d])).next:=by rw[zD];omega
   have hrn:(h2.new h2.next (.row [(mkA a).d])).at' h2.next=some (.row [(mkA a).d]):=zJ _ _ _;have hstn:zU Tryz.prog 62 (.ptr h2.next 0) (mkA a).d (h2.new h2.next (.row [.nilsl]))=some (h2.new h2.next (.row [(mkA a).d])):=by
    rw[za (zJ _ _ _) zAF (by simp) rfl rfl,zEG];rfl
   have hoN:=ho.ext ((Ext.refl h2).new (Nat.le_refl _) (.row [(mkA a).d]));have hcf:=zDI (l:=out.map mkA) (d:=o) hoN.isSl (by rw[List.length_map];omega) (f:=180) (cap:=[.ptr h2.next 0]) (p:=fun b=>zFF a b.ts) (g:=h2.new h2.next (.row [(mkA a).d])) (fun s hs=>by
    obtain⟨y,hy,rfl⟩:=List.mem_map.1 hs;obtain⟨n1,n2⟩:=hsub y hy;exact⟨(zQS n1 n2).sl,ze8 (zQS m1 m2) (zQS n1 n2) hrn⟩)
   have hany:(out.map mkA).any (fun b=>zFF a b.ts)=out.any fun b=>zFF a b:=by rw[List.any_map];rfl
   rw[hany] at hcf;have hck:(mkA a).d.cells= [(mkA a).d]∧(mkA a).d.notTuple=true:=⟨rfl,rfl⟩;obtain⟨k1,k2⟩:=hck;cases hb:(out.any fun b=>zFF a b) with
   |true=>
    have hst:zDJ out a=out:=if_pos hb;rw[hst];rw[hb] at hcf;clear hmok hsub hany hst hb hQ2 ho;generalize h2.new h2.next (.row [(mkA a).d])=h3 at *
    repeat' first|simp only[go_sem,zGb, *]|apply bc<;>intro hc|(refine zA.mono hcf ?_;rintro r h ⟨rfl,rfl⟩)
    exact⟨_,rfl,hoN⟩
   |false=>
    have hst:zDJ out a=out++ [a]:=if_neg (by rw[hb];exact Bool.false_ne_true);rw[hst];rw[hb] at hcf;have hone:=fun nid h=>zFv (mkA a).d nid h rfl rfl rfl;clear hmok hsub hany hst hb hQ2 ho;have hld:zAv Tryz.prog 62 (.ptr h2.next 0) (h2.new h2.next (.row [(mkA a).d]))=some (mkA a).d:=by
     simp only[go_sem,hrn]
    generalize h2.new h2.next (.row [(mkA a).d])=h3 at *
    repeat' first|simp only[go_sem,zGb, *]|apply bc<;>intro hc|(refine zA.mono hcf ?_;rintro r h ⟨rfl,rfl⟩)
    refine hoN.appH (ys:=yJ [mkA a]) qh zED zAF (by omega) (zBi _) (by simp[yJ]) (by rw[yL,List.length_map,zBO];unfold lim;simp[yJ];omega) (by rw[yL,List.length_map];unfold lim;simp[yJ];omega) fun d' h' ho'=> ?_;have ho2:Own H h' 1 (yJ ((out++ [a]).map mkA)) d':=by
     rw[List.map_append]
     have:yJ (out.map mkA++List.map mkA [a])=yJ (out.map mkA)++yJ [mkA a]:=by simp[yJ]
     rw[this];exact ho'
    clear hoN ho'
    repeat' first|simp only[go_sem,zGb, *]|apply bc<;>intro hc
    exact⟨_,rfl,ho2⟩
  ·rintro fr h2 ec ⟨o,f28,f29,f30,f7,ho⟩;have hfin:=ho.2.1.fin (fun x hx=>by
    obtain⟨y,hy,rfl⟩:=List.mem_map.1 hx;obtain⟨z,_,rfl⟩:=List.mem_map.1 hy;exact zIN z)
   have hq:=hQ2 o h2 (E0.trans ho.1) (zy (Nat.zero_le _) _ hfin.1) (by rw[hSl];exact hfin.2);clear hQ2 hfin hmok ho
   repeat' first|simp only[go_sem,zGb, *]|apply bc<;>intro hc
noncomputable def zaV:Cfg:=⟨fun t=>List.contains (α:=Nat) [22] t,fun i=>(zJV (α:=List (Nat×Fl)) [] i).getD []⟩
theorem zlP (t:Tmp):zaV.mu t=List.contains (α:=Nat) [22] t:=(rfl)
theorem zlQ:zd Tryz.prog zaV Tryz.f239=true:=by kernel_rfl
noncomputable def zaW:Cfg:=⟨fun t=>List.contains (α:=Nat) [33] t,fun i=>(zJV (α:=List (Nat×Fl)) [] i).getD []⟩
theorem zYa (t:Tmp):zaW.mu t=List.contains (α:=Nat) [33] t:=(rfl)
theorem zlR:zd Tryz.prog zaW Tryz.f184=true:=by kernel_rfl
theorem zaX {n:Nat} (h0:0<n) (hn:n≤1048576) (h:Heap):
  zA Tryz.prog 239 [.nilsl, .int .i64 n] h fun r h'=>∃xs:List D,xs.length=n*2∧r= .rs h.next 2 0 0∧h'=h.new h.next (.row xs):=by
 have e1:decide ((n:Int)<0)=false:=decide_eq_false (by omega);have e2:IntKind.i64.wrap (0-0)=0:=rfl;have e3:IntKind.i64.wrap ((n:Int)-0)=n:=by rw[zV (by omega) (by omega)];omega
 have e4:decide ((n:Int)>0)=true:=decide_eq_true (by omega);have e5:yX Tryz.prog 62 .nilsl none (some (.int .i64 0)) none h=some .nilsl:=by
  simp[yX,zHh,zCr,yw,wG,qt,zJA,zLY]
 have e6:zAx Tryz.prog true h.next 62 3 .nilsl (.int .i64 n) h=some (.rs h.next 2 0 n,h.new h.next (.row (zA6 n [.str [], .str []]))):=by
  have hb:n*32≤lim:=by unfold lim;omega
  have hb2:n≤lim:=by unfold lim;omega
  simp only[zAx,Tryz.underlying3,yw,zBf,wG,zEy,Int.toNat_natCast,D.notTuple,D.cells];rw[if_pos (by simp[hb,hb2,h0]),zA3 Tryz.underlying79]
 have e7:yX Tryz.prog 62 (.rs h.next 2 0 n) none (some (.int .i64 0)) none (h.new h.next (.row (zA6 n [.str [], .str []])))=some (.rs h.next 2 0 0):=
  zAi (n:=0) zHh yw wG (by omega)
 have e8:∀h:Heap,zCF Tryz.prog 62 .nilsl h=some (.int .i64 0):=fun h=>yY (sz:=2) zX.nil Tryz.underlying62;refine zA.of_fn (g:=zaV) mix Tryz.func239 zlQ rfl rfl ?_;simp only[Tryz.f239,gJ];simp only[go_sem,zlP,e1,e2,e3,e4,zWW Tryz.underlying62,e8,e5,e6,e7,Option.map_none,Option.map_some,List.length_nil,Int.natCast_zero,Int.ofNat_zero];refine⟨zA6 n [.str [], .str []],?_,rfl⟩
 have:∀m,(zA6 m [D.str [],D.str []]).length=m*2:=fun m=>by
  induction m with
  |zero=>rfl
  |succ m ih=>
   change (List.replicate m [D.str [],D.str []]).flatten.length=_ at ih;change (List.replicate (m+1) [D.str [],D.str []]).flatten.length=_;rw[List.replicate_succ,List.flatten_cons,List.length_append,ih];simp;omega
 exact this n
def ze9 (h0 h:Heap) (l:List Trm) (d:D):Prop:=Ext h0 h∧∃id xs,d= .rs id 2 0 l.length∧h.at' id=some (.row xs)∧h0.next≤id∧id<h.next∧l.length*2≤xs.length∧xs.take (l.length*2)=(qM l).flatten
theorem zUa (l:List Trm):(qM l).flatten.length=l.length*2:=by rw[yy (zAB l),yZ]
theorem zWv {l l2:List Trm} {d d2:D} {h0 h:Heap} (hc:ze9 h0 h l d) (hd:zX 2 (qM l2) d2) (hl:l.length≤1048576) (hl2:l2.length≤1048576):
  ∃d' h',z6 Tryz.prog true h.next 62 d d2 (qR d d2 h)=some (d',h')∧ze9 h0 h' (l++l2) d':=by
 obtain⟨he,id,xs,rfl,hid,hg,hlt,hle,ht⟩:=hc;have hb:(l.length+l2.length)*32≤lim:=by unfold lim;omega
 have hb2:l.length+l2.length≤lim:=by unfold lim;omega
 have hv:∀h2:Heap,zR0 2 d2 h2=some (qM l2).flatten:=fun h2=>by
  rcases hd with⟨rfl,hs⟩ | ⟨tk,rfl⟩
  ·have:l2= []:=List.map_eq_nil_iff.1 hs;subst this;rfl
  ·simp only[zR0,if_true]
 have hlt2:(xs.take (l.length*2)).length=l.length*2:=by rw[List.length_take];omega
 have hfl2:=zUa l2;have key:∀h2:Heap,h2.at' id=some (.row (xs.take (l.length*2)))→z6 Tryz.prog true h.next 62 (.rs id 2 0 l.length) d2 h2=some (.rs h.next 2 0 (l.length+l2.length),(h2.del id).new h.next (.row (xs.take (l.length*2)++(qM l2).flatten))):=fun h2 e=>by
  simp only[z6,yw,zN3,wG,if_true,hv,hfl2,Nat.mul_div_cancel _ (show 0<2 by omega),qN,zEy,Bool.true_and];rw[if_pos (by simp[hb,hb2]),e];simp only[];rw[if_pos (by rw[hlt2])]
 obtain⟨h2,e1,e2,e3,e4⟩:∃h2,qR (.rs id 2 0 l.length) d2 h=h2∧h2.next=h.next∧(∀j,j≠id→h2.at' j=h.at' j)∧h2.at' id=some (.row (xs.take (l.length*2))):=by
  by_cases hq:l.length*2<xs.length
  ·refine⟨h.set id (.row (xs.take (l.length*2))),?_,rfl,fun j hj=>by simp[Heap.set,hj],zC _ _ _⟩;rcases hd with⟨rfl,hs⟩ | ⟨tk,rfl⟩ <;>simp[qR,hid,hq]
  ·have ht:xs.take (l.length*2)=xs:=List.take_of_length_le (by omega);refine⟨h,?_,rfl,fun _ _=>rfl,by rw[ht];exact hid⟩;rcases hd with⟨rfl,hs⟩ | ⟨tk,rfl⟩ <;>simp[qR,hid,hq]
 have he2:Ext h0 h2:=⟨by rw[e2];exact he.1,fun i hi=>by rw[e3 i (by omega)];exact he.2 i hi⟩;rw[e1,key h2 e4];refine⟨_,_,rfl,(he2.del hg).new he.1 _,h.next,_,by rw[List.length_append],zJ _ _ _,he.1,?_,?_,?_⟩
 ·have:(h2.del id).next=h2.next:=rfl;simp only[Heap.new,this,e2];omega
 ·rw[List.length_append,List.length_append,hlt2,hfl2];omega
 ·rw[ht,zWr,List.take_of_length_le (by rw[List.length_append,List.length_append,zUa,hfl2];omega)]
set_option maxHeartbeats 2000000 in
theorem zUb {a b:Alt} (ha:a.Ok) (hb:b.Ok) (g:Heap):
  zA Tryz.prog 184 [.sl 1 [[a.d],[b.d]] .full] g fun r h'=>h'=g∧r=(mkA (a.ts++b.ts)).d:=by
 obtain⟨a1,a2,a3⟩:=ha;obtain⟨b1,b2,b3⟩:=hb;have hpa:0<a.ts.length:=List.length_pos_iff.2 a2;refine zA.pure (by kernel_rfl) fun hok=> ?_
 suffices hh:zA Tryz.prog 184 [.sl 1 [[a.d],[b.d]] .full] g fun r h'=>ze9 g h' (a.ts++b.ts) r by
  refine zA.freezeD (hh.mono ?_);rintro r h' ⟨hE,id,xs,rfl,hid,hg,hlt,hle,ht⟩;refine⟨id,xs,hid,hE.del hg,?_⟩;rw[zLF (xs:=qM (a.ts++b.ts)) (rest:=xs.drop ((a.ts++b.ts).length*2)) (zAB _) (yZ _) (by rw[←ht,List.take_append_drop])];exact⟨zWs _ _,rfl⟩
 obtain⟨M,hM0,hM1,hM2⟩:∃M:Nat→Nat,M 0=0∧M 1=a.ts.length∧M 2=a.ts.length+b.ts.length:=⟨fun i=>if i=0 then 0 else if i=1 then a.ts.length else a.ts.length+b.ts.length,rfl,rfl,rfl⟩
 obtain⟨L,hL0,hL1,hL2⟩:∃L:Nat→List Trm,L 0= []∧L 1=a.ts∧L 2=a.ts++b.ts:=⟨fun i=>if i=0 then [] else if i=1 then a.ts else a.ts++b.ts,rfl,rfl,rfl⟩
 obtain⟨pt,hp0,hp1⟩:∃pt:Nat→Alt,pt 0=a∧pt 1=b:=⟨fun i=>if i=0 then a else b,rfl,rfl⟩
 have hll:∀h:Heap,zCF Tryz.prog 39 (.sl 1 [[a.d],[b.d]] .full) h=some (.int .i64 2):=fun h=>yY (zX.mk .full) Tryz.underlying39;have hx:∀i:Nat,i<2→zS Tryz.prog 39 (.sl 1 [[a.d],[b.d]] .full) (.int .i64 (i:Int))=some (.iptr [(pt i).d] 0)∧zX 2 (qM (pt i).ts) (pt i).d∧M (i+1)=M i+(pt i).ts.length∧L (i+1)=L i++(pt i).ts∧(L i).length≤8192∧(pt i).ts.length≤8192∧M i≤8192:=fun i hi=>by
  rcases i with _|_|i
  ·refine⟨zY (zX.mk .full) qh zAF (by rw[hp0];rfl),by rw[hp0];exact a1,by rw[hM0,hp0,hM1];omega,by rw[hL0,hL1,hp0];rfl,by rw[hL0];simp,by rw[hp0];omega,by omega⟩
  ·refine⟨zY (zX.mk .full) qh zAF (by rw[hp1];rfl),by rw[hp1];exact b1,by rw[hM1,hp1,hM2],by rw[hL1,hL2,hp1],by rw[hL1];omega,by rw[hp1];omega,by show M 1≤8192;omega⟩
  ·omega
 clear hp0 hp1;refine zA.of_fn (g:=zaW) mix Tryz.func184 zlR rfl rfl ?_;simp only[Tryz.f184,gJ]
 repeat' first|simp only[go_sem,zYa, *]|apply bc<;>intro hc
 refine zF (fun i fr h=>fr 0= .sl 1 [[a.d],[b.d]] .full∧fr 9= .sl 1 [[a.d],[b.d]] .full∧fr 10= .int .i64 2∧fr 11= .int .i64 (i:Int)∧fr 3= .int .i64 ((M i:Nat):Int)∧h=g) 2 (by omega) ?_ ?_ ?_
 ·simp only[go_sem,true_and,and_true,Int.ofNat_zero,zYa,hM0]
 ·rintro i fr h hlt e1 ew ⟨f0,f9,f10,f11,f3,rfl⟩;obtain⟨x1,x2,x3,x4,x5,x6,x7⟩:=hx i hlt;have hlen:=qy x2;have hw:IntKind.i64.wrap (((M i:Nat):Int)+(((pt i).ts.length:Nat):Int))=((M (i+1):Nat):Int):=by rw[x3,zV (by omega) (by omega)];omega
  have hneg:decide (((M (i+1):Nat):Int)<0)=false:=decide_eq_false (by omega);have e2:decide ((i:Int)<2)=true:=e1;clear x3 x4 hx hM0 hM1 hM2
  repeat' first|simp only[go_sem,zYa, *]|apply bc<;>intro hc
 ·rintro fr h e1 ⟨f0,f9,f10,f11,f3,rfl⟩;have e2:decide ((((2:Nat):Int))<2)=false:=rfl;have hgr:=zaX (n:=M 2) (by omega) (by omega) h;have f11':fr 11= .int .i64 2:=f11;clear e1 f11 hM0 hM1 hM2
  repeat' first|simp only[go_sem,zYa, *]|apply bc<;>intro hc
  refine hgr.mono ?_;rintro r h2 ⟨xs,hxs,rfl,rfl⟩;have hc0:ze9 h (h.new h.next (.row xs)) (L 0) (.rs h.next 2 0 0):=⟨(Ext.refl h).new (Nat.le_refl _) _,h.next,xs,by rw[hL0];rfl,zJ _ _ _,Nat.le_refl _,by rw[zD];omega,by rw[hL0];simp,by rw[hL0];rfl⟩;generalize h.new h.next (.row xs)=h2 at *
  clear hgr
  repeat' first|simp only[go_sem,zYa, *]|apply bc<;>intro hc
  refine zF (fun i fr h4=>fr 25= .sl 1 [[a.d],[b.d]] .full∧fr 26= .int .i64 2∧fr 27= .int .i64 (i:Int)∧ze9 h h4 (L i) (fr 6)) 2 (by omega) ?_ ?_ ?_
  ·simp only[go_sem,true_and,and_true,Int.ofNat_zero,zYa];exact hc0
  ·rintro i fr2 h4 hlt e1 ew ⟨g25,g26,g27,gC⟩;obtain⟨d,g6⟩:∃x,fr2 6=x:=⟨_,rfl⟩;rw[g6] at gC;obtain⟨x1,x2,x3,x4,x5,x6,x7⟩:=hx i hlt;obtain⟨d',h5,k1,k2⟩:=zWv gC x2 (by omega) (by omega);rw[←x4] at k2;have e2:decide ((i:Int)<2)=true:=e1;obtain⟨q1,q2,q3⟩:=zK x2;clear x3 x4 hx hL0 hL1 hL2 gC hc0
   repeat' first|simp only[go_sem,zYa, *]|apply bc<;>intro hc
  ·rintro fr2 h4 e1 ⟨g25,g26,g27,gC⟩;have e2:decide ((((2:Nat):Int))<2)=false:=rfl;have g27':fr2 27= .int .i64 2:=g27;rw[hL2] at gC;obtain⟨d,g6⟩:∃x,fr2 6=x:=⟨_,rfl⟩;rw[g6] at gC;clear e1 g27 hx hL0 hL1 hL2
   repeat' first|simp only[go_sem,zYa, *]|apply bc<;>intro hc
def zGS (a b:List Alt) (k:Nat):List Trm:=(a.getD (k/b.length) (mkA [])).ts++(b.getD (k%b.length) (mkA [])).ts
def zD7 (a b:List Alt):List (List Trm):=(List.range (a.length*b.length)).map (zGS a b)
theorem zUc {a b:List Alt} {i j:Nat} (hi:i<a.length) (hj:j<b.length):zGS a b (i*b.length+j)=a[i].ts++b[j].ts:=by
 unfold zGS;rw[show(i*b.length+j)/b.length=i by rw[Nat.mul_comm,Nat.mul_add_div (by omega),Nat.div_eq_of_lt hj];rfl,show(i*b.length+j)%b.length=j by rw[Nat.mul_comm,Nat.mul_add_mod,Nat.mod_eq_of_lt hj]];simp[hi,hj]
theorem zJ2 (a b:List Alt):(zD7 a b).length=a.length*b.length:=by simp[zD7]
theorem zaY {a b:List Alt} {x y:D} (hx:zX 1 (yJ a) x) (hy:zX 1 (yJ b) y) (g:Heap):zA Tryz.prog 126 [x,y] g fun r h'=>h'=g∧r= .fn (.func 183) [] [.iptr [x] 0, .iptr [y] 0]:=by
 refine zA.of_fn (g:=zTS) mix Tryz.func126 zhv rfl rfl ?_;simp only[Tryz.f126,gJ];rcases hx with⟨rfl,_⟩ | ⟨_,rfl⟩
 ·rcases hy with⟨rfl,_⟩ | ⟨_,rfl⟩
  ·repeat' first|simp only[go_sem,zWE, *]|apply bc<;>intro hc
  ·repeat' first|simp only[go_sem,zWE, *]|apply bc<;>intro hc
 ·rcases hy with⟨rfl,_⟩ | ⟨_,rfl⟩
  ·repeat' first|simp only[go_sem,zWE, *]|apply bc<;>intro hc
  ·repeat' first|simp only[go_sem,zWE, *]|apply bc<;>intro hc
set_option maxHeartbeats 2000000 in
theorem zWw {a b:List Alt} {x y:D} (hx:zX 1 (yJ a) x) (hy:zX 1 (yJ b) y) (ha:∀q∈a,q.Ok) (hb:∀q∈b,q.Ok) (hla:a.length≤4096) (hlb:b.length≤4096)
  {id:Nat} {Y:Nat→(Nat→Prop)→Heap→Prop} (yl:Yld Tryz.prog id (a.length*b.length) (fun k=>[(mkA (zGS a b k)).d]) Y fun _ _=>False) {S:Nat→Prop} {w:Heap} (hY:Y 0 S w):
  zA Tryz.prog 183 [.yld id, .iptr [x] 0, .iptr [y] 0] w fun _ h'=>∃S',But S w h'∧Y (a.length*b.length) S' h':=by
 have hl1:=zCe hx;have hl2:=zCe hy;obtain⟨x1,x2,_⟩:=zK hx;obtain⟨y1,y2,_⟩:=zK hy;refine zA.of_fn (g:=zTd) mix Tryz.func183 ziE rfl rfl ?_;simp only[Tryz.f183,gJ]
 repeat' first|simp only[go_sem,zMP, *]|apply bc<;>intro hc
 refine zF (fun i fr h'=>fr 0= .yld id∧fr 2= .iptr [y] 0∧fr 8=x∧fr 9= .int .i64 (a.length:Int)∧fr 10= .int .i64 (i:Int)∧∃S',(∀j,S' j→S j∨w.next≤j)∧But S w h'∧Y (i*b.length) S' h') a.length (by omega) ?_ ?_ ?_
 ·have hst:∃S',(∀j,S' j→S j∨w.next≤j)∧But S w w∧Y (0*b.length) S' w:=⟨S,fun j hj=> .inl hj,But.refl S w,by rw[Nat.zero_mul];exact hY⟩;simp only[go_sem,zMP,true_and,and_true,Int.ofNat_zero];exact hst
 ·rintro i fr h1 hlt e1 ew ⟨f0,f2,f8,f9,f10,hS⟩;have a1:=zEN hx hlt;have oka:=ha _ (List.getElem_mem hlt);have hpr:=fun j (hj:j<b.length)=>zUc hlt hj;generalize a[i]=p at *
  obtain⟨p1,p2,_⟩:=zK oka.sl
  repeat' first|simp only[go_sem,zMP, *]|apply bc<;>intro hc
  refine z7 (fun j fr h'=>fr 0= .yld id∧fr 2= .iptr [y] 0∧fr 8=x∧fr 9= .int .i64 (a.length:Int)∧fr 10= .int .i64 (i:Int)∧fr 5=p.d∧fr 14=y∧fr 15= .int .i64 (b.length:Int)∧fr 16= .int .i64 (j:Int)∧∃S',(∀j,S' j→S j∨w.next≤j)∧But S w h'∧Y (i*b.length+j) S' h') b.length ?_ ?_
  ·simp only[go_sem,zMP,true_and,and_true,Int.ofNat_zero];exact⟨f0,f2,f8,f9,f10,hS⟩
  clear hS;rintro j fr2 h2 hj ⟨g0,g2,g8,g9,g10,g5,g14,g15,g16,S',hS1,hS2,hS3⟩;by_cases hlt2:j<b.length
  ·have e2:decide ((j:Int)<(b.length:Int))=true:=decide_eq_true (by omega);have ew2:IntKind.i64.wrap ((j:Int)+1)=((j+1:Nat):Int):=ze (by unfold lim;omega);have b1:=zEN hy hlt2;have okb:=hb _ (List.getElem_mem hlt2);have hpij:=hpr j hlt2;have hk:i*b.length+j<a.length*b.length:=by
    have:i*b.length+b.length≤a.length*b.length:=by rw[←Nat.succ_mul];exact Nat.mul_le_mul_right _ hlt
    omega
   have hgo:=yl.go (i*b.length+j) S' h2 hk hS3;simp only[hpij] at hgo;generalize b[j]=q at *
   obtain⟨q1,q2,_⟩:=zK okb.sl;have hcc:=zUb oka okb h2;have hbs:∀nid:Nat,zM Tryz.prog false nid 39 2 [(0,p.d),(1,q.d)] h2=some (.sl 1 [[p.d],[q.d]] .full,h2):=fun nid=>by
    have:=zH4 (P:=Tryz.prog) (nid:=nid) (h:=h2) (x:=p.d) (y:=q.d) qh zGu zAF rfl rfl (by omega) (by omega) p2 (by rw[p1];rfl) q2 (by rw[q1];rfl);rw[p1,q1] at this;exact this
   have hm1:(mkA (p.ts++q.ts)).d.notTuple=true:=rfl;clear oka okb hpr hpij yl hx hy ha hb
   repeat' first|simp only[go_sem,zMP, *]|apply bc<;>intro hc|(refine zA.mono hcc ?_;rintro r h ⟨hq,rfl⟩)
   subst hq;refine hgo.mono ?_;rintro r h3 ⟨S2,k1,k2,k3⟩;rcases k3 with⟨rfl,k3⟩ | ⟨rfl,k3⟩
   ·have hfin:∃S',(∀j,S' j→S j∨w.next≤j)∧But S w h3∧Y (i*b.length+(j+1)) S' h3:=⟨S2,fun i' hi'=>by
     rcases k1 i' hi' with q|q
     ·exact hS1 _ q
     ·exact .inr (by have:=hS2.1;omega),hS2.trans k2 hS1,k3⟩
    clear hS1 hS2 hS3 k1 k2 k3 hgo
    repeat' first|simp only[go_sem,zMP, *]|apply bc<;>intro hc
   ·exact k3.elim
  ·have e2:decide ((j:Int)<(b.length:Int))=false:=decide_eq_false (by omega);have hje:j=b.length:=by omega
   have hfin:∃S',(∀j,S' j→S j∨w.next≤j)∧But S w h2∧Y ((i+1)*b.length) S' h2:=⟨S',hS1,hS2,by rw[Nat.succ_mul,←hje];rw[hje] at hS3⊢;exact hS3⟩;clear hS1 hS2 hS3 yl hje
   repeat' first|simp only[go_sem,zMP, *]|apply bc<;>intro hc
 ·rintro fr h2 e1 ⟨f0,f2,f8,f9,f10,S',hS1,hS2,hS3⟩;have hfin:∃S',But S w h2∧Y (a.length*b.length) S' h2:=⟨S',hS2,hS3⟩;clear hS1 hS2 hS3 yl
  repeat' first|simp only[go_sem,zMP, *]|apply bc<;>intro hc
theorem zLI (l:List (List Trm)):∀c∈yJ (l.map mkA),qC c:=fun c hc=>by
 obtain⟨y,hy,rfl⟩:=List.mem_map.1 hc;obtain⟨z,_,rfl⟩:=List.mem_map.1 hy;exact zIN z
set_option maxHeartbeats 2000000 in
theorem zM3 {a b:List Alt} {x y:D} (hx:zX 1 (yJ a) x) (hy:zX 1 (yJ b) y) (ha:∀q∈a,q.Ok) (hb:∀q∈b,q.Ok) (hla:a.length≤256) (hlb:b.length≤256) (g:Heap):
  zA Tryz.prog 182 [.nilsl, .fn (.func 183) [] [.iptr [x] 0, .iptr [y] 0]] g fun r h'=>h'=g∧Fin 1 (yJ ((zD7 a b).map mkA)) r:=by
 refine zA.pure (by kernel_rfl) fun hok=>zA.strip ?_;refine zA.post fun Q hQ=> ?_;have hPl:(zD7 a b).length=a.length*b.length:=zJ2 a b;have hm:a.length*b.length≤65536:=Nat.le_trans (Nat.mul_le_mul hla hlb) (by omega);obtain⟨ps,hps⟩:∃ps,yJ ((zD7 a b).map mkA)=ps:=⟨_,rfl⟩;have hpl:ps.length=a.length*b.length:=by rw[←hps,yL,List.length_map,hPl]
 have hpe:∀k,k<a.length*b.length→ps[k]? =some [(mkA (zGS a b k)).d]:=fun k hk=>by
  rw[←hps];simp[yJ,zD7,hk]
 have hp1:∀c∈ps,qC c:=by rw[←hps];exact zLI _
 rw[hps] at hQ;clear hPl hps;refine zA.of_fn (g:=zPq) mix Tryz.func182 zh2 rfl rfl ?_;simp only[Tryz.f182,gJ]
 repeat' first|simp only[go_sem,zTV, *]|apply bc<;>intro hc
 simp only[zD];generalize hL:LRec.mk _ _ _ _ _ _ _=L;have yl:Yld Tryz.prog (g.next+1) (a.length*b.length) (fun k=>[(mkA (zGS a b k)).d]) (zbu g.next 1 L ps) (fun _ _=>False):=by
  refine⟨fun k S h y=>y.here,fun k S h h' y hn hk=>y.loc hn hk,fun S h hz=>hz.elim,fun S h h' hz=>hz.elim,fun i S h3 hi hyy=> ?_⟩;have hc:=hpe i hi;generalize hmm:(mkA (zGS a b i)).d=m at *
  have hmc:m.cells= [m]∧m.notTuple=true∧m.flat=true:=by rw[←hmm];exact⟨rfl,rfl,rfl⟩
  obtain⟨m1,m2,m3⟩:=hmc;have hone:=fun nid h=>zFv m nid h m1 m2 m3;obtain⟨g1,g2,d,g3,g4,g5⟩:=hyy;subst hL;refine yi.round (g:=zPq) mix g2 rfl (by kernel_rfl) (by kernel_rfl) (by kernel_rfl) ?_;simp only[go_sem,zTV];refine⟨g2,?_⟩;generalize hB:LRec.mk .busy _ _ _ _ _ _=B;generalize h5e:Heap.set h3 (g.next+1) (.loop B)=h5;have a1:h5.at' g.next=some (.row [d]):=by rw[←h5e,zE (by omega)];exact g3
  have a3:h5.at' (g.next+1)=some (.loop B):=by rw[←h5e];simp[Heap.set]
  have a4:h5.next=h3.next:=by rw[←h5e,zt]
  have a5:wN h5 1 (ps.take i) d:=g4.loc (by omega) fun j hj=>by
   have:=g4.tok hj;rw[←h5e,zE (fun e=>by subst e;rw[g2] at this;cases this.2)]
  simp only[go_sem,zTV,a1,hone];have htl:(ps.take i).length=i:=by rw[List.length_take];omega
  refine a5.app2 qh zED zAF (by omega) (by simp) (by simp) (by rw[htl,zBO];unfold lim;simp;omega) (by rw[htl];unfold lim;simp;omega) ?_;intro d' h6 b1 b2 b3 b4 b5 b6;have c1:h6.at' g.next=some (.row [d]):=by
   rw[b3 _ (by omega) fun ht=> ?_]
   ·exact a1
   ·have:=(a5.tok ht).2;rw[a1] at this;cases this
  have hst:=za (P:=Tryz.prog) (off:=0) c1 zMD (by simp) b5 b6;simp only[go_sem,zTV,hst,List.set_cons_zero];have c2:(h6.set g.next (.row [d'])).at' (g.next+1)=some (.loop B):=by
   rw[zE (by omega),b3 _ (by omega) fun ht=> ?_]
   ·exact a3
   ·have:=(a5.tok ht).2;rw[a3] at this;cases this
  refine wO c2 ⟨fun j=>j=g.next∨j=g.next+1∨wi d' j,fun j hj=> ?_,⟨by simp only[go_sem];omega,fun j hj hS=> ?_⟩, .inl ⟨rfl,by simp only[go_sem];omega,?_,d',?_,?_,fun j=>Iff.rfl⟩⟩
  ·rcases hj with rfl|rfl|hj
   ·exact .inl ((g5 _).2 (.inl rfl))
   ·exact .inl ((g5 _).2 (.inr (.inl rfl)))
   ·exact .inr (by have:=b4 j hj;omega)
  ·have n1:j≠g.next:=fun e=>hS ((g5 j).2 (.inl e));have n2:j≠g.next+1:=fun e=>hS ((g5 j).2 (.inr (.inl e)));rw[zE n2,zE n1,b3 j (by omega) (fun ht=>hS ((g5 j).2 (.inr (.inr ht)))),←h5e,zE n2]
  ·rw[zC,←hB]
  ·rw[zE (by omega),zC]
  ·have:ps.take (i+1)=ps.take i++ [[m]]:=by rw[List.take_add_one,hc];rfl
   rw[this];refine b1.loc (Nat.le_refl _) fun j hj=> ?_;have:=b4 j hj;rw[zE (by omega),zE (by omega)]
 refine(zWw hx hy ha hb (by omega) (by omega) yl (S:=fun i=>i=g.next∨i=g.next+1) (w:=(g.new g.next (.row [.nilsl])).new (g.next+1) (.loop L)) ?_).mono ?_
 ·refine⟨?_,zJ _ _ _, .nilsl,by rw[zG (by omega),zJ], .inl ⟨rfl,rfl⟩,fun j=>by simp[wi]⟩;rw[zm _ (by rw[zD];exact Nat.le_refl _)];omega
 rintro r h2 ⟨S',hb2,hYY⟩;obtain⟨g1,g2,d,g3,g4,g5⟩:=hYY;rw[←hpl,List.take_length] at g4;refine⟨L,g2,?_,?_⟩
 ·rw[←hL];intro e;cases e
 have hp:L.pending=none:=by rw[←hL]
 rw[hp,zB9];have k1:(h2.del (g.next+1)).at' g.next=some (.row [d]):=by rw[yv (by omega)];exact g3
 have hfin:=g4.fin hp1;have hq:=hQ d (h2.del (g.next+1)) ⟨Ext.del (Ext.of_but (((Ext.refl g).new (Nat.le_refl _) _).new (by omega) _) hb2 fun j hj=>by rcases hj with rfl|rfl<;>omega) (by omega),zy (Nat.zero_le _) _ hfin.1,hfin.2⟩;clear hQ hfin g4 g5 hb2 yl hpe hp1
 repeat' first|simp only[go_sem,zTV, *]|apply bc<;>intro hc
theorem zRX {a b:List Alt} {x y:D} (hx:zX 1 (yJ a) x) (hy:zX 1 (yJ b) y) (ha:∀q∈a,q.Ok) (hb:∀q∈b,q.Ok) (hla:a.length≤256) (hlb:b.length≤256) (g:Heap):
  zA Tryz.prog 125 [.fn (.func 183) [] [.iptr [x] 0, .iptr [y] 0]] g fun r h'=>h'=g∧Fin 1 (yJ ((zD7 a b).map mkA)) r:=by
 have h1:=zM3 hx hy ha hb hla hlb;refine zA.post fun Q hQ=> ?_;refine zA.of_fn (g:=zTJ) mix Tryz.func125 zhg rfl rfl ?_;simp only[Tryz.f125,gJ]
 repeat' first|simp only[go_sem,zdW, *]|apply bc<;>intro hc
 refine(h1 _).mono ?_;rintro r h ⟨hq,hf⟩;subst hq;have:=hQ r h ⟨rfl,hf⟩;clear hQ hf
 repeat' first|simp only[go_sem,zdW, *]|apply bc<;>intro hc
def zM4 (l:List (List Trm)):D:= .tuple (if l.length>64 then [.nilsl, .int .i64 10] else [.sl 1 (yJ (l.map mkA)) .no, .int .i64 0])
theorem zOj {l:List (List Trm)} (hl:l.length≤1048576) (g:Heap):
  zA Tryz.prog 123 [.sl 1 (yJ (l.map mkA)) .no] g fun r h'=>h'=g∧r=zM4 l:=by
 have hlen:=zCe (l:=l.map mkA) (zX.mk .no);rw[List.length_map] at hlen;refine zA.post fun Q hQ=> ?_;have h2:=hQ (zM4 l) g ⟨rfl,rfl⟩;unfold zM4 at h2;clear hQ;refine zA.of_fn (g:=zSu) mix Tryz.func123 zg8 rfl rfl ?_;simp only[Tryz.f123,gJ];by_cases hb:l.length>64
 ·rw[if_pos hb] at h2;have e1:decide ((l.length:Int)>64)=true:=decide_eq_true (by omega)
  repeat' first|simp only[go_sem,zc4, *]|apply bc<;>intro hc
 ·rw[if_neg hb] at h2;have e1:decide ((l.length:Int)>64)=false:=decide_eq_false (by omega)
  repeat' first|simp only[go_sem,zc4, *]|apply bc<;>intro hc
theorem zIT (l:List Lic):∀x∈zCV l,x.length=4:=fun x hx=>by
 obtain⟨y,_,rfl⟩:=List.mem_map.1 hx;rfl
theorem zWx (x y:Lic) (g:Heap):zA Tryz.prog 174 [.agg x.cells, .agg y.cells] g fun r h'=>h'=g∧r= .int .i64 (yp x.ver y.ver):=by
 have h1:=zH6 x.ver y.ver;refine zA.of_fn (g:=zTC) mix Tryz.func174 zhX rfl rfl ?_;simp only[Tryz.f174,gJ];simp only[Lic.cells]
 repeat' first|simp only[go_sem,zhW, *]|apply bc<;>intro hc|(refine zA.mono (h1 _) ?_;rintro r h ⟨rfl,rfl⟩)
theorem zaZ {l:List Lic} {id:Nat} {g:Heap} (h0:l≠[]) (hl:l.length≤1048576) (hrow:g.at' id=some (.row (zCV l).flatten)):
  zA Tryz.prog 173 [.rs id 4 0 l.length, .fn (.func 174) [] []] g fun r h'=>r= .tuple []∧∃ys:List Lic,ys.Perm l∧h'=g.set id (.row (zCV ys).flatten):=by
 have:=zA.of_sortK (P:=Tryz.prog) (f:=173) (cmp:=174) (k:=4) (cells:=Lic.cells) (xs:=l) (id:=id) (pre:=[]) (post:=[]) (h:=g) (cf:=fun x y=>yp x.ver y.ver) (mid:=[]) (midV:=[]) (fun M ρ vs h=>by simpa [zw] using h) h0 (by omega) (fun _ _=>rfl) (by kernel_rfl) (enters_of Tryz.func174 (by kernel_rfl) rfl) (by simpa [zCV] using hrow) (zIP.key Lic.ver).swo (by omega)
  (fun x _ y _ H=>zWx x y H) (fun α _ enc h1 h2 cf hO g cb blk off cap d w hg hc hH hb hs hd=>AnyQ.slices_SortFunc Tryz.sortLic 4 (Tryz.isAgg124) (Tryz.sizeOf124) enc h1 h2 cf hO g cb blk off cap d w hg hc hH hb hs)
 refine this.mono fun r h' ⟨e1,ys,hp,hs,e2⟩=>⟨e1,ys,hp,?_⟩;rw[e2];simp[zCV]
def zAC (x y:Lic):Bool:=y.fam==x.fam&&decide (y.ver≥x.ver)
def zDL (c:Cat) (x:Lic):List (List UInt8):=(c.ls.filter (zAC x)).map Lic.name
theorem zM5 {c:Cat} {k:List UInt8} {x:Lic} (h:zBt c k=some x):x∈c.ls:=by
 unfold zBt at h;split at h
 ·cases h
 ·split at h
  ·exact List.mem_of_getElem? h
  ·cases h
theorem zM6 {c:Cat} {x:Lic} (h:x∈c.ls):c.ls.filter (zAC x)≠[]:=fun e=>by
 have:x∈c.ls.filter (zAC x):=List.mem_filter.2 ⟨h,by simp[zAC]⟩;rw[e] at this;cases this
theorem zaa (x:Lic) (nid:Nat) (h:Heap):zM Tryz.prog false nid 22 1 [(0, .agg [.str x.name, .str x.fam, .int .i64 x.ver, .str x.text])] h=some (.sl 4 [x.cells] .full,h):=
 yg (P:=Tryz.prog) (x:= .agg [.str x.name, .str x.fam, .int .i64 x.ver, .str x.text]) zEw zHi zCO rfl rfl (by omega) (by omega) rfl rfl
set_option maxHeartbeats 4000000 in
theorem zab {c:Cat} {d:D} (hc:qX c d) (hs:c.Sm) {k:List UInt8} {x:Lic} (hf:zBt c k=some x) (g:Heap):
  zA Tryz.prog 122 [d, .str k] g fun r h'=>h'=g∧∃ns,ns.Perm (zDL c x)∧r= .tuple [.sl 1 (yP ns) .no, .int .i64 0]:=by
 have hfi:=zUF hc hs k;have hfd:zDB c k= .tuple [.agg [.str x.name, .str x.fam, .int .i64 x.ver, .str x.text], .bool true]:=by unfold zDB;rw[hf]
 rw[hfd] at hfi;clear hfd;refine zA.pure (by kernel_rfl) fun hok'=>zA.strip ?_;refine zA.post fun Q hQ=> ?_;have hxm:=zM5 hf;have s1:=hs.ls.1;obtain⟨a,b,e,p,rfl,ha,hb,he,hp⟩:=hc;have hlen:=wd ha;have hv4:∀a b c e:D,zR true 4 [a,b,c,e] 0=some (.agg [a,b,c,e]):=fun a b c e=>zB rfl (by omega);have hst0:=zC8 x;obtain⟨G0,hG0,r0,E0,n0⟩:∃G,g.new g.next (.row [.str x.name, .str x.fam, .int .i64 x.ver, .str x.text])=G∧G.at' g.next=some (.row [.str x.name, .str x.fam, .int .i64 x.ver, .str x.text])∧Ext g G∧g.next<G.next:=⟨_,rfl,zJ _ _ _,(Ext.refl g).new (Nat.le_refl _) _,by rw[zD];omega⟩
 refine zA.of_fn (g:=zTl) mix Tryz.func122 ziO rfl rfl ?_;simp only[Tryz.f122,gJ]
 repeat' first|simp only[go_sem,zHq, *]|apply bc<;>intro hc|(refine zA.mono (hfi _) ?_;rintro r h ⟨hq,rfl⟩)
 clear hst0 hfi hb he hp;refine zF (fun i fr h=>∃s,fr 6= .ptr g.next 0∧fr 23=a∧fr 24= .int .i64 (c.ls.length:Int)∧fr 25= .int .i64 (i:Int)∧fr 8=s∧zNa G0 h 4 (zCV ((c.ls.take i).filter (zAC x))) s) c.ls.length (by omega) ?_ ?_ ?_
 ·have hs0:=zNa.start (Ext.refl G0) 4;simp only[go_sem,zHq,true_and,and_true,Int.ofNat_zero];exact⟨_,rfl,hs0⟩
 ·rintro i fr h2 hlt ec ew ⟨s,f6,f23,f24,f25,f8,ho⟩;have a1:=wj ha hlt;have htk:(c.ls.take (i+1)).filter (zAC x)=(c.ls.take i).filter (zAC x)++ [c.ls[i]].filter (zAC x):=by rw[List.take_succ_eq_append_getElem hlt,List.filter_append]
  have hli:((c.ls.take i).filter (zAC x)).length≤i:=Nat.le_trans (List.length_filter_le _ _) (by rw[List.length_take];omega);rw[htk];clear htk;generalize c.ls[i]=y at *
  generalize(c.ls.take i).filter (zAC x)=pre at *
  have hst:=zC8 y h2 h2.next;have r1:(h2.new h2.next (.row [.str y.name, .str y.fam, .int .i64 y.ver, .str y.text])).at' g.next=some (.row [.str x.name, .str x.fam, .int .i64 x.ver, .str x.text]):=by
   rw[zG (by have:=ho.1.1;omega),ho.1.2 _ n0];exact r0
  have r2:(h2.new h2.next (.row [.str y.name, .str y.fam, .int .i64 y.ver, .str y.text])).at' h2.next=some (.row [.str y.name, .str y.fam, .int .i64 y.ver, .str y.text]):=zJ _ _ _;have hoN:=ho.ext ((Ext.refl h2).new (Nat.le_refl _) (.row [.str y.name, .str y.fam, .int .i64 y.ver, .str y.text]));simp only[Lic.cells] at a1;have hone:=zaa y;generalize h2.new h2.next (.row [.str y.name, .str y.fam, .int .i64 y.ver, .str y.text])=H at *
  obtain⟨d',G,hap,hoG,htr⟩:=hoN.app (P:=Tryz.prog) (ys:=zCV [y]) (tk:= .full) zEw zVl zCO (by omega) (fun cs=>zA3 Tryz.underlying124) (zIT _) (zIT _) (by simp[zCV]) (by rw[zBT,zQ6];unfold lim;simp[zCV];omega) (by rw[zBT];unfold lim;simp[zCV];omega);have hal:zCV [y]= [y.cells]:=rfl;rw[hal] at hap htr hoG;have hla:zCV (pre++ [y])=zCV pre++ [y.cells]:=by simp[zCV]
  rw[←hla] at hoG;clear ho hla hal hQ hlen ha E0 hG0 r0;cases q1:(y.fam==x.fam) with
  |false=>
   have hfl:pre++ [y].filter (zAC x)=pre:=by simp[zAC,q1]
   rw[hfl];clear hfl hap htr hoG
   repeat' first|simp only[go_sem,zHq, *]|apply bc<;>intro hc
   exact⟨_,rfl,hoN⟩
  |true=>
   cases q2:decide (y.ver≥x.ver) with
   |false=>
    have hfl:pre++ [y].filter (zAC x)=pre:=by simp only[List.filter_cons,zAC,q1,q2];simp
    rw[hfl];clear hfl hap htr hoG
    repeat' first|simp only[go_sem,zHq, *]|apply bc<;>intro hc
    exact⟨_,rfl,hoN⟩
   |true=>
    have hfl:pre++ [y].filter (zAC x)=pre++ [y]:=by simp only[List.filter_cons,zAC,q1,q2];simp
    rw[hfl];clear hfl hoN
    repeat' first|simp only[go_sem,zHq, *]|apply bc<;>intro hc
    exact⟨_,rfl,hoG⟩
 ·rintro fr h2 ec ⟨s,f6,f23,f24,f25,f8,ho⟩;rw[List.take_length] at ho;have hne:=zM6 hxm;have hnl:(c.ls.filter (zAC x)).length≤1048576:=Nat.le_trans (List.length_filter_le _ _) s1;have hS:zDL c x=(c.ls.filter (zAC x)).map Lic.name:=rfl;rw[hS] at hQ;clear hS;generalize c.ls.filter (zAC x)=L at *
  obtain⟨hx,hc⟩:=ho;rcases hc with⟨_,e⟩ | ⟨id,rfl,hrow,hid,hidn,_⟩
  ·exact absurd (by simpa [zCV] using e) hne
  rw[zBT] at f8;have hso:=zaZ hne hnl hrow;have hQ2:∀ (ys:List Lic) r h',ys.Perm L→Ext g h'→below g.next (yI r)→Fin 1 (yP (ys.map Lic.name)) (yI r)→Q (.tuple [r, .int .i64 0]) h':=fun ys r h' q0 q1 q2 q3=>by
   refine hQ _ _ ⟨q1,?_,?_⟩
   ·simp only[yI,yA,below,zb];exact⟨q2,trivial,trivial⟩
   ·refine⟨ys.map Lic.name,q0.map _,?_⟩;rcases q3 with⟨_,e⟩ |e
    ·have:ys= []:=by simpa [yP] using e
     subst this;exact absurd (List.nil_perm.1 q0) hne
    ·simp only[yI,yA,e]
  clear hQ hxm hlen ha;have hxid:g.next≤id:=Nat.le_trans E0.1 hid
  repeat' first|simp only[go_sem,zHq, *]|apply bc<;>intro hc
  refine hso.mono ?_;rintro r h3 ⟨rfl,ys,hp,rfl⟩;have hyl:=hp.length_eq;have r1:(h2.set id (.row (zCV ys).flatten)).at' id=some (.row (zCV ys).flatten):=zC _ _ _;have hE1:Ext g (h2.set id (.row (zCV ys).flatten)):=(E0.trans hx).set hxid _;have hidn2:id<(h2.set id (.row (zCV ys).flatten)).next:=hidn;generalize h2.set id (.row (zCV ys).flatten)=H at *
  have hvl:=fun(h:Heap)=>zBP (P:=Tryz.prog) (t:=22) (sz:=4) (id:=id) (off:=0) (len:=L.length) (h:=h) Tryz.underlying22;have hQ3:=fun r h'=>hQ2 ys r h' hp;clear hQ2 hso hrow hx E0 hG0 r0
  repeat' first|simp only[go_sem,zHq, *]|apply bc<;>intro hc
  refine zF (fun i fr h=>∃o,fr 48= .rs id 4 0 L.length∧fr 49= .int .i64 (L.length:Int)∧fr 50= .int .i64 (i:Int)∧fr 11=o∧Own H h 1 (yP ((ys.take i).map Lic.name)) o) L.length (by omega) ?_ ?_ ?_
  ·have hs:=Own.start (Ext.refl H) 1;simp only[go_sem,zHq,true_and,and_true,Int.ofNat_zero];exact⟨_,rfl,hs⟩
  ·rintro i fr h3 hlt ec ew ⟨o,f48,f49,f50,f11,ho⟩;have hlt':i<ys.length:=by omega
   have a1:=zh (P:=Tryz.prog) (sz:=4) (id:=id) zEw zCO (k:= .i64) hlt;have hrow2:h3.at' id=some (.row (zCV ys).flatten):=by rw[ho.1.2 _ hidn2];exact r1
   have p1:=zBA (zIT ys) (by omega) (zQJ hlt');have htk:(ys.take (i+1)).map Lic.name=(ys.take i).map Lic.name++ [ys[i].name]:=by rw[List.take_succ_eq_append_getElem hlt',List.map_append];rfl
   have hli:((ys.take i).map Lic.name).length=i:=by rw[List.length_map,List.length_take];omega
   rw[htk];clear htk;generalize ys[i]=y at *
   generalize(ys.take i).map Lic.name=pre at *
   simp only[Lic.cells] at p1;have hst:=zC8 y h3 h3.next;have hoN:=ho.ext ((Ext.refl h3).new (Nat.le_refl _) (.row [.str y.name, .str y.fam, .int .i64 y.ver, .str y.text]));have r2:(h3.new h3.next (.row [.str y.name, .str y.fam, .int .i64 y.ver, .str y.text])).at' h3.next=some (.row [.str y.name, .str y.fam, .int .i64 y.ver, .str y.text]):=zJ _ _ _;have hone:=zEJ y.name;generalize h3.new h3.next (.row [.str y.name, .str y.fam, .int .i64 y.ver, .str y.text])=h4 at *
   clear hQ3 ho r1 hE1 hidn2
   repeat' first|simp only[go_sem,zHq, *]|apply bc<;>intro hc
   refine hoN.appH (ys:=yP [y.name]) yj zHg zAh (by omega) zGy (by simp[yP]) (by rw[zq,zBe,hli];unfold lim;simp[yP];omega) (by rw[zq,hli];unfold lim;simp[yP];omega) fun d' h' ho'=> ?_;have ho2:Own H h' 1 (yP (pre++ [y.name])) d':=by
    have:yP (pre++ [y.name])=yP pre++yP [y.name]:=by simp[yP]
    rw[this];exact ho'
   clear hoN ho'
   repeat' first|simp only[go_sem,zHq, *]|apply bc<;>intro hc
   exact⟨_,rfl,ho2⟩
  ·rintro fr h3 ec ⟨o,f48,f49,f50,f11,ho⟩;rw[←hyl,List.take_length] at ho;have hfin:=ho.2.1.fin qL;have hq:=hQ3 o h3 (hE1.trans ho.1) (zy (Nat.zero_le _) _ hfin.1) hfin.2;clear hQ3 hfin ho
   repeat' first|simp only[go_sem,zHq, *]|apply bc<;>intro hc
def szd (l:List (List Trm)):Option (List (List Trm)):=if l.length>64 then none else some l
def zDM (a b:List (List Trm)):List (List Trm):=zD7 (a.map mkA) (b.map mkA)
mutual
def zFJ (c:Cat):Ex→Option (List (List Trm))
 | .mk k n x l _=>if(k==0)=true then some [[⟨n,x⟩]] else if(k==1)=true then(match zBt c n with
   |none=>none
   |some y=>szd (yQ ((zDL c y).map fun s=>[⟨s,[]⟩])))
  else match zEO c k l true [] with
   |none=>none
   |some out=>szd (yQ out)
def zEO (c:Cat) (k:Int):List Ex→Bool→List (List Trm)→Option (List (List Trm))
 | [],_,out=>some out
 |e::es,first,out=>match zFJ c e with
  |none=>none
  |some l=>if(k==3)=true then zEO c k es false (out++l) else if first=true then zEO c k es false l else match szd (yQ (zDM out l)) with
   |none=>none
   |some o=>zEO c k es false o
end
def Ex.Fit (c:Cat) (e:Ex):Prop:=∀x∈e.pre,x.err=0∧zUM c x=0
theorem zQT:∀ {l:List Ex} {e x:Ex},e∈l→x∈e.pre→x∈zG3 l
 |a::l,e,x,h,hx=>by
  simp only[zG3];rcases List.mem_cons.1 h with rfl|h
  ·exact List.mem_append_left _ hx
  ·exact List.mem_append_right _ (zQT h hx)
theorem Ex.Fit.kid {c:Cat} {e k:Ex} (h:e.Fit c) (hk:k∈e.kids):k.Fit c:=fun x hx=>by
 obtain⟨kd,n,ex,l,d⟩:=e;exact h x (by simp only[Ex.pre];exact List.mem_cons_of_mem _ (zQT hk hx))
theorem Ex.Fit.self {c:Cat} {e:Ex} (h:e.Fit c):e.err=0∧zUM c e=0:=by
 obtain⟨kd,n,ex,l,d⟩:=e;exact h _ (by simp only[Ex.pre];exact List.mem_cons_self)
theorem zBj {f:Nat→Int} :∀ {n:Nat},zDn f n=0→∀i,i<n→f i=0
 |n+1,h,i,hi=>by
  simp only[zDn] at h;split at h
  ·rename_i q;rcases Nat.lt_succ_iff_lt_or_eq.1 hi with g|rfl
   ·exact zBj (by simpa using q) i g
   ·exact h
  ·rename_i q;exact absurd (by simpa using h) q
theorem zUd {c:Cat} {e:Ex} (h:zAZ c e=0):zCj c=0∧e.size≤64∧e.Fit c:=by
 unfold zAZ at h;split at h
 ·exact absurd h (by decide)
 rename_i q1;split at h
 ·rename_i q;rw[h] at q;exact absurd q (by decide)
 rename_i q2;have f0:zDE e=0:=by simpa using q2
 unfold zDE at f0;split at f0
 ·exact absurd f0 (by decide)
 rename_i q3;split at f0
 ·exact absurd f0 (by decide)
 refine⟨by simpa using q1,by simp at q3;omega,fun x hx=> ?_⟩;obtain⟨i,hi,rfl⟩:=List.mem_iff_getElem.1 hx;rw[e.pre_len] at hi;have h1:=zBj f0 i hi;have h2:=zBj h i hi;have hg:e.pre.getD i e=e.pre[i]'(by rw[e.pre_len];exact hi):=by rw[List.getD_eq_getElem?_getD,List.getElem?_eq_getElem];rfl
 unfold Ex.errAt at h1;unfold Ex.unk at h2;rw[hg] at h1 h2;exact⟨h1,h2⟩
theorem zQU {c:Cat} {k:Int} {n x:List UInt8} {l:List Ex} {d:D} (h:(Ex.mk k n x l d).Fit c):((k=0∨k=1)∧l= []∧(k=1→x= [])∧∃y,zBt c n=some y)∨((k=2∨k=3)∧2≤l.length):=by
 obtain⟨h1,h2⟩:=h.self;replace h1:zIF k n x l.length=0:=h1;unfold zIF at h1;by_cases q:((k==0)||(k==1))=true
 ·left;rw[if_pos q] at h1;by_cases q1:(decide ((l.length:Int)>0)||((k==1)&& !(x== [])))=true
  ·rw[if_pos q1] at h1;exact absurd h1 (by decide)
  rw[if_neg q1] at h1;by_cases q2:(!zAp n||(!(x== [])&& !zAp x))=true
  ·rw[if_pos q2] at h1;exact absurd h1 (by decide)
  simp only[Bool.or_eq_true,beq_iff_eq,decide_eq_true_eq,Bool.and_eq_true,Bool.not_eq_true',not_or,not_and,Bool.not_eq_false,beq_eq_false_iff_ne] at q q1 q2;refine⟨q,List.length_eq_zero_iff.1 (by omega),fun e=>by simpa using q1.2 e,?_⟩;replace h2:(if(!(n== [])&& !zI2 c n x)=true then(7:Int) else 0)=0:=h2
  by_cases q3:(!(n== [])&& !zI2 c n x)=true
  ·rw[if_pos q3] at h2;exact absurd h2 (by decide)
  have hn:¬(n== [])=true:=fun e=>by
   have:n= []:=by simpa using e
   subst this;exact absurd q2.1 (by decide)
  have hk:zI2 c n x=true:=by
   cases hh:zI2 c n x with
   |true=>rfl
   |false=>exact absurd (by simp[hh,hn]) q3
  unfold zI2 at hk;simp only[Bool.and_eq_true] at hk;exact Option.isSome_iff_exists.1 hk.1
 ·rw[if_neg q] at h1;by_cases q1:((k==2)||(k==3))=true
  ·rw[if_pos q1] at h1;right;by_cases q2:(decide ((l.length:Int)<2)|| !(n== [])|| !(x== []))=true
   ·rw[if_pos q2] at h1;exact absurd h1 (by decide)
   simp only[Bool.or_eq_true,beq_iff_eq,decide_eq_true_eq,Bool.not_eq_true',not_or] at q1 q2;exact⟨q1,by omega⟩
  ·rw[if_neg q1] at h1;exact absurd h1 (by decide)
theorem zQV {l:List (List Trm)} (h:l≠[]):∀n,0<n→n≤l.length→zCf l n≠[]
 |1,_,hn=>by
  rw[zCf,List.getElem?_eq_getElem (by omega)];simp[zCf,zDJ]
 |n+2,_,hn=>by
  have ih:=zQV h (n+1) (by omega) (by omega);rw[zCf,List.getElem?_eq_getElem (by omega)];simp only[zDJ];split
  ·exact ih
  ·simp
theorem zIU {l:List (List Trm)} (h:l≠[]):yQ l≠[]:=by
 have hl:(wU l).length=l.length:=by rw[wU,(qP _).length_eq,List.length_map]
 have hp:0<l.length:=List.length_pos_iff.2 h;exact zQV (fun e=>by rw[e] at hl;simp at hl;omega) _ (by omega) (Nat.le_refl _)
theorem zDN (l:List (List Trm)):(yQ l).length≤l.length:=by
 have hl:(wU l).length=l.length:=by rw[wU,(qP _).length_eq,List.length_map]
 have:=zIR (l:=wU l) (wU l).length;rw[hl] at this;unfold yQ;rw[hl];exact this
theorem zLJ {l m:List (List Trm)} (h:l.Perm m):yQ l=yQ m:=by
 unfold yQ wU;rw[zUW zIQ zM0 (h.map zAq)]
theorem zG5 {l m:List (List Trm)} (h:szd l=some m):m=l∧l.length≤64:=by
 unfold szd at h;split at h
 ·cases h
 ·cases h;exact⟨rfl,by omega⟩
structure AltsOk (n:Nat) (l:List (List Trm)):Prop where
 ne:l≠[]
 ts:∀t∈l,t≠[]∧t.length≤n
theorem AltsOk.mono {n m:Nat} {l:List (List Trm)} (h:AltsOk n l) (hn:n≤m):AltsOk m l:=⟨h.ne,fun t ht=>⟨(h.ts t ht).1,Nat.le_trans (h.ts t ht).2 hn⟩⟩
theorem AltsOk.min {n:Nat} {l:List (List Trm)} (h:AltsOk n l):AltsOk n (yQ l):=⟨zIU h.ne,fun t ht=>by
 obtain⟨y,hy,rfl⟩:=zM2 ht;obtain⟨h1,h2⟩:=h.ts y hy;exact⟨zQR h1,Nat.le_trans (zM1 _) h2⟩⟩
theorem AltsOk.app {n:Nat} {l m:List (List Trm)} (h:∀t∈l,t≠[]∧t.length≤n) (k:AltsOk n m):AltsOk n (l++m):=⟨fun e=>k.ne (List.append_eq_nil_iff.1 e).2,fun t ht=>by
 rcases List.mem_append.1 ht with q|q
 ·exact h t q
 ·exact k.ts t q⟩
theorem zRY {a b:List (List Trm)} {t:List Trm} (h:t∈zDM a b):∃x∈a,∃y∈b,t=x++y:=by
 unfold zDM zD7 at h;obtain⟨k,hk,rfl⟩:=List.mem_map.1 h;rw[List.mem_range,List.length_map,List.length_map] at hk;have hb:0<b.length:=by
  rcases Nat.eq_zero_or_pos b.length with e|e
  ·rw[e,Nat.mul_zero] at hk;omega
  ·exact e
 have h1:k/b.length<a.length:=by rw[Nat.div_lt_iff_lt_mul hb];exact hk
 have h2:k%b.length<b.length:=Nat.mod_lt _ hb;refine⟨a[k/b.length],List.getElem_mem _,b[k%b.length],List.getElem_mem _,?_⟩;simp[zGS,h1,h2,mkA]
theorem zJ3 (a b:List (List Trm)):(zDM a b).length=a.length*b.length:=by rw[zDM,zJ2,List.length_map,List.length_map]
theorem AltsOk.pairs {n m:Nat} {a b:List (List Trm)} (h:AltsOk n a) (k:AltsOk m b):AltsOk (n+m) (zDM a b):=by
 refine⟨fun e=> ?_,fun t ht=> ?_⟩
 ·have:=zJ3 a b;rw[e] at this;have h1:0<a.length:=List.length_pos_iff.2 h.ne;have h2:0<b.length:=List.length_pos_iff.2 k.ne;have:=Nat.mul_pos h1 h2;simp at *;omega
 ·obtain⟨x,hx,y,hy,rfl⟩:=zRY ht;have h1:=h.ts x hx;have h2:=k.ts y hy;exact⟨fun e=>h1.1 (List.append_eq_nil_iff.1 e).1,by rw[List.length_append];omega⟩
theorem zIV {c:Cat} {n:List UInt8} {y:Lic} (h:zBt c n=some y):zDL c y≠[]:=fun e=>zM6 (zM5 h) (List.map_eq_nil_iff.1 e)
theorem zOk {c:Cat} :∀n:Nat,(∀e:Ex,e.size≤n→e.Fit c→∀l,zFJ c e=some l→l.length≤64∧AltsOk e.size l)∧
  ∀ (k:Int) (es:List Ex),zp es≤n→(∀e∈es,e.Fit c)→∀ (m:Nat) (first:Bool) (out R:List (List Trm)),(∀t∈out,t≠[]∧t.length≤m)→(first=false→out≠[])→(es= []→out≠[])→zEO c k es first out=some R→AltsOk (m+zp es) R∧R.length≤out.length+64*es.length:=by
 intro n
 induction n with
 |zero=>
  refine⟨fun e h=> ?_,fun k es h hf m first out R h1 h2 h3 hR=> ?_⟩
  ·cases e;simp only[Ex.size] at h;omega
  ·cases es with
   |nil=>simp only[zEO] at hR;cases hR;exact⟨⟨h3 rfl,by simpa [zp] using h1⟩,by simp⟩
   |cons e l=>cases e;simp only[zp,Ex.size] at h;omega
 |succ n ih=>
  have key:∀e:Ex,e.size≤n+1→e.Fit c→∀l,zFJ c e=some l→l.length≤64∧AltsOk e.size l:=fun e h hf l hl=>by
   obtain⟨k,nm,x,es,d⟩:=e;simp only[Ex.size] at h⊢;have hk:=zQU hf;rw[zFJ] at hl;split at hl
   ·cases hl;exact⟨by simp,by simp,fun t ht=>by cases List.mem_singleton.1 ht;exact⟨by simp,by simp⟩⟩
   split at hl
   ·split at hl
    ·cases hl
    ·rename_i y hy;obtain⟨rfl,h64⟩:=zG5 hl;refine⟨h64,AltsOk.min ⟨by simpa using zIV hy,fun t ht=> ?_⟩⟩;obtain⟨s,_,rfl⟩:=List.mem_map.1 ht;exact⟨by simp,by simp⟩
   ·rename_i q0 q1;split at hl
    ·cases hl
    ·rename_i out hout;obtain⟨rfl,h64⟩:=zG5 hl;have hk2:2≤es.length:=by
      rcases hk with⟨q,_⟩ | ⟨_,q⟩
      ·rcases q with rfl|rfl
       ·exact absurd rfl q0
       ·exact absurd rfl q1
      ·exact q
     have:=ih.2 k es (by omega) (fun e he=>hf.kid he) 0 true [] out (fun t ht=>by cases ht) (by simp) (fun e=>by subst e;simp at hk2) hout;exact⟨h64,this.1.min.mono (by omega)⟩
  refine⟨key,fun k es h hf m first out R h1 h2 h3 hR=> ?_⟩
  cases es with
  |nil=>simp only[zEO] at hR;cases hR;exact⟨⟨h3 rfl,by simpa [zp] using h1⟩,by simp⟩
  |cons e es=>
   have hesz:0<e.size:=by cases e;simp only[Ex.size];omega
   simp only[zp] at h⊢;rw[zEO] at hR;split at hR
   ·cases hR
   ·rename_i l hl;obtain⟨hl64,hlok⟩:=key e (by omega) (hf e (by simp)) l hl;have hfs:∀e∈es,e.Fit c:=fun x hx=>hf x (List.mem_cons_of_mem _ hx);split at hR
    ·have hq:=AltsOk.app (n:=m+e.size) (fun t ht=>⟨(h1 t ht).1,Nat.le_trans (h1 t ht).2 (by omega)⟩) (hlok.mono (show e.size≤m+e.size by omega));have:=ih.2 k es (by omega) hfs (m+e.size) false (out++l) R hq.ts (fun _=>hq.ne) (fun _=>hq.ne) hR;refine⟨this.1.mono (by omega),?_⟩;have q:=this.2;rw[List.length_append] at q;simp only[List.length_cons];omega
    ·split at hR
     ·have hq:=hlok.mono (show e.size≤m+e.size by omega);have:=ih.2 k es (by omega) hfs (m+e.size) false l R hq.ts (fun _=>hq.ne) (fun _=>hq.ne) hR;refine⟨this.1.mono (by omega),?_⟩;have q:=this.2;simp only[List.length_cons];omega
     ·rename_i hfirst;have hone:out≠[]:=h2 (by simpa using hfirst);split at hR
      ·cases hR
      ·rename_i o ho;obtain⟨rfl,ho64⟩:=zG5 ho;have hq:=(AltsOk.pairs ⟨hone,h1⟩ hlok).min;have:=ih.2 k es (by omega) hfs (m+e.size) false _ R hq.ts (fun _=>hq.ne) (fun _=>hq.ne) hR;refine⟨this.1.mono (by omega),?_⟩;have q:=this.2;simp only[List.length_cons];omega
def zI5:Option (List (List Trm))→D
 |some l=> .tuple [.sl 1 (yJ (l.map mkA)) .no, .int .i64 0]
 |none=> .tuple [.nilsl, .int .i64 10]
theorem zFw (l:List (List Trm)):zM4 l=zI5 (szd l):=by
 unfold zM4 szd;split<;>rfl
theorem zFx (l:List (List Trm)):yI (.sl 1 (yJ (l.map mkA)) .no)= .sl 1 (yJ (l.map mkA)) .no∧below 0 (.sl 1 (yJ (l.map mkA)) .no):=yO (zLI l) .no
theorem zCC (o:Option (List (List Trm))) (n:Nat):yI (zI5 o)=zI5 o∧below n (zI5 o):=by
 cases o with
 |none=>exact⟨rfl,by simp[zI5,below,zb]⟩
 |some l=>
  obtain⟨h1,h2⟩:=zFx l;refine⟨?_,?_⟩
  ·simp only[zI5,yI,yA] at h1⊢;rw[h1]
  ·simp only[zI5,below,zb];exact⟨zy (Nat.zero_le _) _ h2,trivial,trivial⟩
def zQW (s x:List UInt8):Alt:=⟨[⟨s,x⟩], .sl 2 [[.str s, .str x]] .full⟩
theorem zac (s x:List UInt8):(zQW s x).Ok:=⟨zX.mk .full,by simp[zQW],by simp[zQW]⟩
theorem zfA (s x:List UInt8):yG Tryz.prog 79 [(0, .str s),(1, .str x)]=some (.agg [.str s, .str x]):=by simp[yG,zFh,zBf,qZ,D.notTuple,D.cells,yW]
theorem zfB (s:List UInt8):yG Tryz.prog 79 [(0, .str s)]=some (.agg [.str s, .str []]):=by simp[yG,zFh,zBf,qZ,D.notTuple,D.cells,yW]
theorem zUe (s x:List UInt8) (nid:Nat) (h:Heap):zM Tryz.prog false nid 62 1 [(0, .agg [.str s, .str x])] h=some (.sl 2 [[.str s, .str x]] .full,h):=
 yg (P:=Tryz.prog) (x:= .agg [.str s, .str x]) yw zBf wG rfl rfl (by omega) (by omega) rfl rfl
def zDo (c:Cat) (e:Ex):D:=zI5 (zFJ c e)
set_option maxHeartbeats 4000000 in
theorem zRZ {c:Cat} {d:D} (hc:qX c d) {n x:List UInt8} {y:D} (g:Heap):
  zA Tryz.prog 79 [d, .agg [.int .i64 0, .str n, .str x,y]] g fun r h'=>h'=g∧r=zI5 (some [[⟨n,x⟩]]):=by
 refine zA.pure (by kernel_rfl) fun hok'=>zA.strip ?_;refine zA.post fun Q hQ=> ?_;obtain⟨ca,cb,ce,cp,rfl,_,_,_,_⟩:=hc;have hv4:∀a b c e:D,zR true 4 [a,b,c,e] 0=some (.agg [a,b,c,e]):=fun a b c e=>zB rfl (by omega);have h1:=zfA n x;have h2:=zUe n x;have h3:=fun nid h=>zFv (.sl 2 [[.str n, .str x]] .full) nid h rfl rfl rfl;have hq:=hQ (.tuple [.sl 1 [[.sl 2 [[.str n, .str x]] .full]] .full, .int .i64 0]) g ⟨Ext.refl g,by
  simp[yI,yA,zCi,below,zb,zBd],by simp[yI,yA,zCi,zI5,yJ,mkA,qM,Trm.cells]⟩
 clear hQ;refine zA.of_fn (g:=zRA) mix Tryz.func79 zf8 rfl rfl ?_;simp only[Tryz.f79,gJ]
 repeat' first|simp only[go_sem,zHp, *]|apply bc<;>intro hc
set_option maxHeartbeats 4000000 in
theorem zRa {c:Cat} {d:D} (hc:qX c d) (hs:c.Sm) {n x:List UInt8} {z:Lic} (hf:zBt c n=some z) {y:D} (g:Heap):
  zA Tryz.prog 79 [d, .agg [.int .i64 1, .str n, .str x,y]] g fun r h'=>h'=g∧r=zI5 (szd (yQ ((zDL c z).map fun s=>[⟨s,[]⟩]))):=by
 have hla:=zab hc hs hf;have hsl:=hs.ls.1;have hne:=zIV hf;have hll:(zDL c z).length≤c.ls.length:=by rw[zDL,List.length_map];exact List.length_filter_le _ _
 refine zA.pure (by kernel_rfl) fun hok'=>zA.strip ?_;refine zA.post fun Q hQ=> ?_;obtain⟨ca,cb,ce,cp,rfl,_,_,_,_⟩:=hc;have hv4:∀a b c e:D,zR true 4 [a,b,c,e] 0=some (.agg [a,b,c,e]):=fun a b c e=>zB rfl (by omega);have hE0:=Own.start (Ext.refl g) 1;have hle:∀ (ns:List (List UInt8)) (h:Heap),zCF Tryz.prog 40 (.sl 1 (yP ns) .no) h=some (.int .i64 ns.length):=fun ns h=>yz (zX.mk .no) h;have hat:∀ (ns:List (List UInt8)) (i:Nat) (hi:i<ns.length),zS Tryz.prog 40 (.sl 1 (yP ns) .no) (.int .i64 (i:Int))=some (.iptr [.str ns[i]] 0):=fun ns i hi=>zAW (zX.mk .no) hi
 refine zA.of_fn (g:=zRA) mix Tryz.func79 zf8 rfl rfl ?_;simp only[Tryz.f79,gJ]
 repeat' first|simp only[go_sem,zHp, *]|apply bc<;>intro hc
 refine(hla _).mono ?_;rintro r h ⟨hq,ns,hp,rfl⟩;subst hq;have hnl:ns.length≤1048576:=by rw[hp.length_eq];omega
 have hns:ns≠[]:=fun e=>by subst e;exact hne (List.nil_perm.1 hp)
 have hl1:=hle ns;clear hle hla
 repeat' first|simp only[go_sem,zHp, *]|apply bc<;>intro hc
 refine zF (fun i fr h2=>∃o,fr 35= .sl 1 (yP ns) .no∧fr 36= .int .i64 (ns.length:Int)∧fr 37= .int .i64 (i:Int)∧fr 6=o∧Own h h2 1 (yJ ((ns.take i).map fun s=>zQW s [])) o) ns.length (by omega) ?_ ?_ ?_
 ·simp only[go_sem,zHp,true_and,and_true,Int.ofNat_zero];exact⟨_,rfl,hE0⟩
 ·rintro i fr h2 hlt ec ew ⟨o,f35,f36,f37,f6,ho⟩;have a1:=hat ns i hlt;have htk:(ns.take (i+1)).map (fun s=>zQW s [])=(ns.take i).map (fun s=>zQW s [])++ [zQW ns[i] []]:=by rw[List.take_succ_eq_append_getElem hlt,List.map_append];rfl
  have hli:((ns.take i).map fun s=>zQW s []).length=i:=by rw[List.length_map,List.length_take];omega
  rw[htk];clear htk hQ hat hp;generalize ns[i]=s at *
  generalize(ns.take i).map (fun s=>zQW s [])=pre at *
  have b1:=zfB s;have b2:=zUe s [];have b3:=fun nid h=>zFv (.sl 2 [[.str s, .str []]] .full) nid h rfl rfl rfl
  repeat' first|simp only[go_sem,zHp, *]|apply bc<;>intro hc
  refine ho.appH (ys:=yJ [zQW s []]) qh zED zAF (by omega) (zBi _) (by simp[yJ]) (by rw[yL,zBO,hli];unfold lim;simp[yJ];omega) (by rw[yL,hli];unfold lim;simp[yJ];omega) fun d' h' ho'=> ?_;have ho2:Own h h' 1 (yJ (pre++ [zQW s []])) d':=by
   have:yJ (pre++ [zQW s []])=yJ pre++yJ [zQW s []]:=by simp[yJ]
   rw[this];exact ho'
  clear ho ho'
  repeat' first|simp only[go_sem,zHp, *]|apply bc<;>intro hc
  exact⟨_,rfl,ho2⟩
 ·rintro fr h2 ec ⟨o,f35,f36,f37,f6,ho⟩;rw[List.take_length] at ho;have hmi:=zIS ho.isSl (by simpa using hns) (by rw[List.length_map];omega) (fun a ha=>by
   obtain⟨s,_,rfl⟩:=List.mem_map.1 ha;exact zac s [])
  have hmm:yQ ((ns.map fun s=>zQW s []).map Alt.ts)=yQ ((zDL c z).map fun s=>[⟨s,[]⟩]):=by
   rw[List.map_map];exact zLJ (hp.map _)
  rw[hmm] at hmi;have hm0:yQ ((zDL c z).map fun s=>[⟨s,[]⟩])≠[]:=zIU (by simpa using hne);have hml:(yQ ((zDL c z).map fun s=>[⟨s,[]⟩])).length≤1048576:=by
   refine Nat.le_trans (zDN _) ?_;rw[List.length_map];omega
  generalize yQ ((zDL c z).map fun s=>[⟨s,[]⟩])=M at *
  have hsz:=zOj hml;rw[zFw] at hsz;have hQ2:∀h',Ext h h'→Q (zI5 (szd M)) h':=fun h' he=>hQ _ _ ⟨he,by rw[(zCC _ 0).1];exact(zCC _ _).2,by rw[(zCC _ 0).1]⟩;have hex:=ho.1;clear hQ hmm hp hat hne hns ho;have hfin:∀r,Fin 1 (yJ (M.map mkA)) r→r= .sl 1 (yJ (M.map mkA)) .no:=fun r hr=>by
   rcases hr with⟨_,e⟩ |e
   ·exact absurd (by simpa [yJ] using e) hm0
   ·exact e
  repeat' first|simp only[go_sem,zHp, *]|apply bc<;>intro hc
  refine(hmi _).mono ?_;rintro r h3 ⟨hq,hr⟩;subst hq;have hr2:=hfin r hr;subst hr2;have hq:=hQ2 _ hex;clear hQ2 hr hmi hex hm0 hml;cases hz:szd M with
  |none=>
   rw[hz] at hsz hq;simp only[zI5] at hsz hq
   repeat' first|simp only[go_sem,zHp, *]|apply bc<;>intro hc|(refine zA.mono (hsz _) ?_;rintro r h ⟨rfl,rfl⟩)
  |some M'=>
   rw[hz] at hsz hq;simp only[zI5] at hsz hq
   repeat' first|simp only[go_sem,zHp, *]|apply bc<;>intro hc|(refine zA.mono (hsz _) ?_;rintro r h ⟨rfl,rfl⟩)
theorem zUf {l:List (List Trm)} (h0:l≠[]) {r:D} (hr:Fin 1 (yJ (l.map mkA)) r):r= .sl 1 (yJ (l.map mkA)) .no:=by
 rcases hr with⟨_,e⟩ |e
 ·exact absurd (by simpa [yJ] using e) h0
 ·exact e
theorem zLK {m:Nat} {l:List (List Trm)} (h:∀t∈l,t≠[]∧t.length≤m) (hm:m≤4096):∀q∈l.map mkA,q.Ok:=fun q hq=>by
 obtain⟨t,ht,rfl⟩:=List.mem_map.1 hq;exact zQS (h t ht).1 (Nat.le_trans (h t ht).2 hm)
theorem zYb (l:List (List Trm)):(l.map mkA).map Alt.ts=l:=by rw[List.map_map];exact List.map_id _
structure MInv (c:Cat) (k:Int) (l:List Ex) (R:Option (List (List Trm))) (g:Heap) (i:Nat) (out:List (List Trm)) (o:D) (h:Heap):Prop where
 hE:Ext g h
 hK:zEO c k (l.drop i) (i==0) out=R
 hor:k=3→Own g h 1 (yJ (out.map mkA)) o
 hand:k≠3→(i=0∧out= [])∨(out≠[]∧o= .sl 1 (yJ (out.map mkA)) .no∧out.length≤64)
 hts:∀t∈out,t≠[]∧t.length≤zp (l.take i)
 hol:out.length≤64*i+64
set_option maxHeartbeats 8000000 in
theorem zUg {c:Cat} {d:D} (hc:qX c d) (hs:c.Sm):∀ (n:Nat) (e:Ex),e.size≤n→e.size≤64→e.Fit c→e.Ok→∀g:Heap,
  zA Tryz.prog 79 [d, .agg e.cells] g fun r h'=>h'=g∧r=zDo c e:=by
 intro n
 induction n with
 |zero=>intro e h;cases e;simp only[Ex.size] at h;omega
 |succ n ih=>
 intro e hn h64 hfit hok g;obtain⟨k,nm,x,l,dd⟩:=e;have hcells:(Ex.mk k nm x l dd).cells= [.int .i64 k, .str nm, .str x,dd]:=rfl;rw[hcells];simp only[Ex.size] at hn h64;have hkids:∀ (i:Nat) (hi:i<l.length),l[i].Fit c∧l[i].Ok∧∀g:Heap,zA Tryz.prog 79 [d, .agg l[i].cells] g fun r h'=>h'=g∧r=zDo c l[i]:=fun i hi=>by
  have hm:=List.getElem_mem hi;have h1:l[i].Fit c:=hfit.kid (e:= .mk k nm x l dd) hm;have h2:l[i].Ok:=zDC (by simp only[Ex.Ok] at hok;exact hok.2.2.2.2) _ hm;have h3:=zAA hm;exact⟨h1,h2,ih _ (by omega) (by omega) h1 h2⟩
 rcases zQU hfit with⟨hk,hl,hx,y,hy⟩ | ⟨hk,hl2⟩
 ·rcases hk with rfl|rfl
  ·refine(zRZ hc (n:=nm) (x:=x) (y:=dd) g).mono fun r h' ⟨q1,q2⟩=>⟨q1,?_⟩;rw[q2];simp[zDo,zFJ]
  ·refine(zRa hc hs hy (x:=x) (y:=dd) g).mono fun r h' ⟨q1,q2⟩=>⟨q1,?_⟩;rw[q2];simp[zDo,zFJ,hy]
 have e0:(k==0)=false:=by rcases hk with rfl|rfl<;>rfl
 have e1:(k==1)=false:=by rcases hk with rfl|rfl<;>rfl
 have hR:zFJ c (.mk k nm x l dd)=match zEO c k l true [] with
  |none=>none
  |some out=>szd (yQ out):=by rw[zFJ,if_neg (by rw[e0];exact Bool.false_ne_true),if_neg (by rw[e1];exact Bool.false_ne_true)];try (cases zEO c k l true []<;>rfl)
 have hfin:∀R,zEO c k l true []=some R→AltsOk 64 R∧R.length≤64*l.length:=fun R hR=>by
  have:=(zOk (c:=c) (zp l)).2 k l (Nat.le_refl _) (fun e he=>hfit.kid (e:= .mk k nm x l dd) he) 0 true [] R (fun t ht=>by cases ht) (by simp) (fun e=>by subst e;simp at hl2) hR;exact⟨this.1.mono (by omega),by simpa using this.2⟩
 have hll:l.length≤64:=by
  have:∀l:List Ex,l.length≤zp l:=fun l=>by
   induction l with
   |nil=>simp
   |cons e l ih=>simp only[zp,List.length_cons];cases e;simp only[Ex.size];omega
  have:=this l;omega
 have hdd:zX 4 (exs l) dd:=by simp only[Ex.Ok] at hok;exact hok.1
 have hmo:=fun(e:Ex) (he:e.Fit c) (l:List (List Trm)) (hl:zFJ c e=some l)=>(zOk (c:=c) e.size).1 e (Nat.le_refl _) he l hl;have hsL:∀i (hi:i<l.length),zp (l.take (i+1))=zp (l.take i)+l[i].size∧zp (l.take (i+1))≤zp l:=fun i hi=>by
  have app:∀a b:List Ex,zp (a++b)=zp a+zp b:=fun a b=>by
   induction a with
   |nil=>simp[zp]
   |cons e a ih=>simp only[List.cons_append,zp,ih];omega
  refine⟨by rw[List.take_succ_eq_append_getElem hi,app];simp[zp],?_⟩;have:=app (l.take (i+1)) (l.drop (i+1));rw[List.take_append_drop] at this;omega
 obtain⟨R,eR⟩:∃R,zEO c k l true []=R:=⟨_,rfl⟩;refine zA.pure (by kernel_rfl) fun hok'=>zA.strip ?_;refine zA.post fun Q hQ=> ?_;have hQ2:∀h',Ext g h'→Q (zDo c (.mk k nm x l dd)) h':=fun h' he=>hQ _ _ ⟨he,by unfold zDo;rw[(zCC _ 0).1];exact(zCC _ _).2,by unfold zDo;rw[(zCC _ 0).1]⟩;unfold zDo at hQ2;rw[hR,eR] at hQ2;rw[eR] at hfin;clear hQ hR hfit hok ih hcells;obtain⟨ca,cb,ce,cp,rfl,_,_,_,_⟩:=hc;have hv4:∀a b c e:D,zR true 4 [a,b,c,e] 0=some (.agg [a,b,c,e]):=fun a b c e=>zB rfl (by omega);have hlen:=zDD hdd;have hE0:=Own.start (Ext.refl g) 1
 refine zA.of_fn (g:=zRA) mix Tryz.func79 zf8 rfl rfl ?_;simp only[Tryz.f79,gJ]
 repeat' first|simp only[go_sem,zHp, *]|apply bc<;>intro hc
 refine zF (fun i fr h=>∃out o,fr 2= .iptr [ca,cb,ce,cp] 0∧fr 3= .iptr [.int .i64 k, .str nm, .str x,dd] 0∧fr 54=dd∧fr 55= .int .i64 (l.length:Int)∧fr 56= .int .i64 (i:Int)∧fr 6=o∧MInv c k l R g i out o h) l.length (by omega) ?_ ?_ ?_
 ·have h0:MInv c k l R g 0 [] .nilsl g:=⟨Ext.refl g,eR,fun _=>hE0,fun _=> .inl ⟨rfl,rfl⟩,fun t ht=>(by cases ht),by simp⟩;simp only[go_sem,zHp,true_and,and_true,Int.ofNat_zero];exact⟨_,_,rfl,h0⟩
 ·rintro i fr h hlt ec ew ⟨out,o,f2,f3,f54,f55,f56,f6,⟨hE,hK,hor,hand,hts,hol⟩⟩;have a1:=zJt hdd hlt;obtain⟨kf,ko,kc⟩:=hkids i hlt;obtain⟨s1,s2⟩:=hsL i hlt;have hst:=zUK l[i] (Ex.flat ko) h h.next;have hE2:=hE.new hE.1 (.row l[i].cells);have hrow:(h.new h.next (.row l[i].cells)).at' h.next=some (.row l[i].cells):=zJ _ _ _;rw[List.drop_eq_getElem_cons hlt,zEO] at hK;have hmo1:=hmo _ kf;have hol2:Ext h (h.new h.next (.row l[i].cells)):=(Ext.refl h).new (Nat.le_refl _) _;have hor2:k=3→Own g (h.new h.next (.row l[i].cells)) 1 (yJ (out.map mkA)) o:=fun e=>(hor e).ext hol2;generalize hy:l[i]=y at *
  simp only[Ex.cells] at a1 kc hst hE2 hrow hor2 hol2;generalize hH:h.new h.next (.row [.int .i64 y.kind, .str y.name, .str y.exc,y.d])=H at *
  clear hkids hsL hmo hor;have hi0:((i:Int)==0)=(i==0):=by cases i<;>rfl
  have hi1:(i+1==0)=false:=rfl;cases hm:zFJ c y with
  |none=>
   rw[hm] at hK;simp only at hK;have hq:=hQ2 H hE2;rw[←hK] at hq;simp only[zI5] at hq;have hmd:zDo c y= .tuple [.nilsl, .int .i64 10]:=by unfold zDo;rw[hm];rfl
   rw[hmd] at kc;clear hmd hQ2 hor2 hand hts hK
   repeat' first|simp only[go_sem,zHp, *]|apply bc<;>intro hc|(refine zA.mono (kc _) ?_;rintro r h ⟨hq,rfl⟩)
  |some lk=>
   rw[hm] at hK;simp only at hK;obtain⟨h64,hlo⟩:=hmo1 lk hm;have hmd:zDo c y= .tuple [.sl 1 (yJ (lk.map mkA)) .no, .int .i64 0]:=by unfold zDo;rw[hm];rfl
   rw[hmd] at kc;clear hmd hmo1;cases q3:(k==3) with
   |true=>
    rw[if_pos q3] at hK;have hk3:k=3:=by simpa using q3
    have hoH:=hor2 hk3;clear hand hor2 hQ2
    repeat' first|simp only[go_sem,zHp, *]|apply bc<;>intro hc|(refine zA.mono (kc _) ?_;rintro r h ⟨hq,rfl⟩)
    subst hq;refine hoH.appH (ys:=yJ (lk.map mkA)) qh zED zAF (by omega) (zBi _) (by simpa [yJ] using hlo.ne) (by rw[yL,yL,List.length_map,List.length_map,zBO];unfold lim;omega) (by rw[yL,yL,List.length_map,List.length_map];unfold lim;omega) fun d' h' ho'=> ?_;have ho2:Own g h' 1 (yJ ((out++lk).map mkA)) d':=by
     have:yJ ((out++lk).map mkA)=yJ (out.map mkA)++yJ (lk.map mkA):=by simp[yJ]
     rw[this];exact ho'
    have hres:MInv c k l R g (i+1) (out++lk) d' h':=⟨ho2.1,hK,fun _=>ho2,fun q=>absurd hk3 q,fun t ht=>by
     rcases List.mem_append.1 ht with q|q
     ·exact⟨(hts t q).1,Nat.le_trans (hts t q).2 (by omega)⟩
     ·exact⟨(hlo.ts t q).1,Nat.le_trans (hlo.ts t q).2 (by omega)⟩,by rw[List.length_append];omega⟩
    clear ho' hoH hK hts hol hlo ho2 hk3
    repeat' first|simp only[go_sem,zHp, *]|apply bc<;>intro hc
    exact⟨_,_,rfl,hres⟩
   |false=>
    rw[if_neg (by rw[q3];exact Bool.false_ne_true)] at hK;have hk3:k≠3:=by simpa using q3
    have hand2:=hand hk3;clear hand hor2;cases q0:(i==0) with
    |true=>
     rw[if_pos q0] at hK;have hres:MInv c k l R g (i+1) lk (.sl 1 (yJ (lk.map mkA)) .no) H:=⟨hE2,hK,fun q=>absurd q hk3,fun _=> .inr ⟨hlo.ne,rfl,h64⟩,fun t ht=>⟨(hlo.ts t ht).1,Nat.le_trans (hlo.ts t ht).2 (by omega)⟩,by omega⟩;clear hK hts hol hlo hand2 hQ2;rw[q0] at hi0
     repeat' first|simp only[go_sem,zHp, *]|apply bc<;>intro hc|(refine zA.mono (kc _) ?_;rintro r h ⟨hq,rfl⟩)
     subst hq;exact⟨_,_,rfl,hres⟩
    |false=>
     rw[if_neg (by rw[q0];exact Bool.false_ne_true)] at hK;rw[q0] at hi0;obtain⟨hone,ho,ho64⟩:out≠[]∧o= .sl 1 (yJ (out.map mkA)) .no∧out.length≤64:=by
      rcases hand2 with⟨q,_⟩ |q
      ·subst q;exact absurd q0 (by decide)
      ·exact q
     subst ho;have hpo:=AltsOk.pairs ⟨hone,hts⟩ hlo;have okA:=zLK hts (by omega);have okB:=zLK hlo.ts (by omega);have hcp:=zaY (zX.mk (sz:=1) (xs:=yJ (out.map mkA)) .no) (zX.mk (sz:=1) (xs:=yJ (lk.map mkA)) .no);have hco:=zRX (zX.mk (sz:=1) (xs:=yJ (out.map mkA)) .no) (zX.mk (sz:=1) (xs:=yJ (lk.map mkA)) .no) okA okB (by rw[List.length_map];omega) (by rw[List.length_map];omega);have hpt:zD7 (out.map mkA) (lk.map mkA)=zDM out lk:=rfl;rw[hpt] at hco;have hpl:(zDM out lk).length≤4096:=by
      rw[zJ3];exact Nat.le_trans (Nat.mul_le_mul ho64 h64) (by omega)
     have hmi:=zIS (zX.mk (sz:=1) (xs:=yJ ((zDM out lk).map mkA)) .no) (by simpa using hpo.ne) (by rw[List.length_map];omega) (zLK hpo.ts (by omega));rw[zYb] at hmi;have hmo:=hpo.min;have hmn:=hmo.ne;have hml:(yQ (zDM out lk)).length≤1048576:=Nat.le_trans (zDN _) (by omega);have hf1:=fun r hr=>zUf hpo.ne (r:=r) hr;have hf2:=fun r hr=>zUf hmo.ne (r:=r) hr;generalize zDM out lk=P at *
     generalize hM:yQ P=M at *
     have hsz:=zOj hml;rw[zFw] at hsz;clear hpt hpo okA okB hts hol hlo hand2 hone
     repeat' first|simp only[go_sem,zHp, *]|apply bc<;>intro hc|(refine zA.mono (kc _) ?_;rintro r h ⟨hq,rfl⟩)
     subst hq;clear kc;refine(hcp _).mono ?_;rintro r h1 ⟨hq,rfl⟩;subst hq;clear hcp
     repeat' first|simp only[go_sem,zHp, *]|apply bc<;>intro hc
     refine(hco _).mono ?_;rintro r h2 ⟨hq,hr⟩;subst hq;have hr:=hf1 r hr;subst hr;clear hco
     repeat' first|simp only[go_sem,zHp, *]|apply bc<;>intro hc
     refine(hmi _).mono ?_;rintro r h3 ⟨hq,hr⟩;subst hq;have hr:=hf2 r hr;subst hr;clear hmi hf1 hf2;cases hz:szd M with
     |none=>
      rw[hz] at hK hsz;simp only at hK;have hq:=hQ2 _ hE2;rw[←hK] at hq;simp only[zI5] at hq hsz;clear hQ2 hK hmo hmn
      repeat' first|simp only[go_sem,zHp, *]|apply bc<;>intro hc|(refine zA.mono (hsz _) ?_;rintro r h ⟨rfl,rfl⟩)
     |some M'=>
      obtain⟨rfl,hM64⟩:=zG5 hz;rw[hz] at hK hsz;simp only at hK;simp only[zI5] at hsz;have hres:MInv c k l R g (i+1) M' (.sl 1 (yJ (M'.map mkA)) .no) h3:=⟨hE2,hK,fun q=>absurd q hk3,fun _=> .inr ⟨hmn,rfl,hM64⟩,fun t ht=>by rw[s1];exact hmo.ts t ht,by omega⟩;clear hQ2 hK hmo
      repeat' first|simp only[go_sem,zHp, *]|apply bc<;>intro hc|(refine zA.mono (hsz _) ?_;rintro r h ⟨rfl,rfl⟩)
      exact⟨_,_,rfl,hres⟩
 ·rintro fr h ec ⟨out,o,f2,f3,f54,f55,f56,f6,⟨hE,hK,hor,hand,hts,hol⟩⟩;have hd0:l.drop l.length= []:=List.drop_length;rw[hd0,zEO] at hK;obtain⟨hao,haol⟩:=hfin out hK.symm;have hsl:zX 1 (yJ (out.map mkA)) o:=by
   by_cases hk3:k=3
   ·exact(hor hk3).isSl
   ·rcases hand hk3 with⟨q,_⟩ | ⟨_,q,_⟩
    ·omega
    ·rw[q];exact zX.mk .no
  have hmi:=zIS hsl (by simpa using hao.ne) (by rw[List.length_map];omega) (zLK hao.ts (by omega));rw[zYb] at hmi;have hf2:=fun r hr=>zUf hao.min.ne (r:=r) hr;have hml:(yQ out).length≤1048576:=Nat.le_trans (zDN _) (by omega);have hsz:=zOj hml;rw[zFw] at hsz;have hq:=hQ2 _ hE;rw[←hK] at hq;simp only at hq;clear hQ2 hfin hor hand hts hao hsl hkids hmo hsL hK;generalize yQ out=M at *
  repeat' first|simp only[go_sem,zHp, *]|apply bc<;>intro hc
  refine(hmi _).mono ?_;rintro r h3 ⟨hq3,hr⟩;subst hq3;have hr:=hf2 r hr;subst hr;clear hmi hf2;cases hz:szd M with
  |none=>
   rw[hz] at hsz hq;simp only[zI5] at hq hsz
   repeat' first|simp only[go_sem,zHp, *]|apply bc<;>intro hc|(refine zA.mono (hsz _) ?_;rintro r h ⟨rfl,rfl⟩)
  |some M'=>
   rw[hz] at hsz hq;simp only[zI5] at hq hsz
   repeat' first|simp only[go_sem,zHp, *]|apply bc<;>intro hc|(refine zA.mono (hsz _) ?_;rintro r h ⟨rfl,rfl⟩)
def ofD (c:Cat) (e:Ex):D:=if(zAZ c e==0)=true then zDo c e else .tuple [.nilsl, .int .i64 (zAZ c e)]
theorem zad {c:Cat} {d:D} (hc:qX c d) (hs:c.Sm) {e:Ex} (hok:e.Ok) (hsz:e.size≤1048576) (g:Heap):
  zA Tryz.prog 48 [d, .agg e.cells] g fun r h'=>h'=g∧r=ofD c e:=by
 have hck:=zIG hc hs hok hsz;have hme:=fun(h:zAZ c e=0)=>zUg hc hs e.size e (Nat.le_refl _) (zUd h).2.1 (zUd h).2.2 hok;obtain⟨ca,cb,ce,cp,rfl,_,_,_,_⟩:=hc;have hv4:∀a b c e:D,zR true 4 [a,b,c,e] 0=some (.agg [a,b,c,e]):=fun a b c e=>zB rfl (by omega);refine zA.post fun Q hQ=> ?_;have hq:=hQ (ofD c e) g ⟨rfl,rfl⟩;clear hQ;unfold ofD at hq;simp only[Ex.cells] at hck hme⊢;refine zA.of_fn (g:=zWB) mix Tryz.func48 zj3 rfl rfl ?_;simp only[Tryz.f48,gJ];cases q:(zAZ c e==0) with
 |false=>
  rw[if_neg (by rw[q];exact Bool.false_ne_true)] at hq;clear hme
  repeat' first|simp only[go_sem,zht, *]|apply bc<;>intro hc|(refine zA.mono (hck _) ?_;rintro r h ⟨rfl,rfl⟩)
 |true=>
  rw[if_pos q] at hq;have hme2:=hme (by simpa using q);clear hme;unfold zDo at hq hme2;cases hm:zFJ c e with
  |none=>
   rw[hm] at hq hme2;simp only[zI5] at hq hme2
   repeat' first|simp only[go_sem,zht, *]|apply bc<;>intro hc|(refine zA.mono (hck _) ?_;rintro r h ⟨rfl,rfl⟩)|(refine zA.mono (hme2 _) ?_;rintro r h ⟨rfl,rfl⟩)
  |some l=>
   rw[hm] at hq hme2;simp only[zI5] at hq hme2
   repeat' first|simp only[go_sem,zht, *]|apply bc<;>intro hc|(refine zA.mono (hck _) ?_;rintro r h ⟨rfl,rfl⟩)|(refine zA.mono (hme2 _) ?_;rintro r h ⟨rfl,rfl⟩)
def zNb (l:List (List Trm)):D:= .sl 1 (yJ (l.map mkA)) .no
def zM7 (l:List (List (List Trm))):List (List D):=l.map fun a=>[zNb a]
theorem zBU (l:List (List (List Trm))):(zM7 l).length=l.length:=List.length_map ..
theorem zWy {l:List (List (List Trm))} {i:Nat} (h:i<l.length):(zM7 l)[i]? =some [zNb l[i]]:=by simp[zM7,h]
theorem zWz (l:List (List (List Trm))):∀x∈zM7 l,x.length=1:=fun x hx=>by
 obtain⟨s,_,rfl⟩:=List.mem_map.1 hx;rfl
theorem zRb (l:List (List (List Trm))):∀x∈zM7 l,qC x:=fun x hx=>by
 obtain⟨s,_,rfl⟩:=List.mem_map.1 hx;obtain⟨h1,h2⟩:=zFx s;exact⟨rfl,by simp only[zb];exact⟨h2,trivial⟩,by simp only[yA,zNb];rw[h1]⟩
theorem zLL {l:List (List (List Trm))} {d:D} (hd:zX 1 (zM7 l) d) (h:Heap):zCF Tryz.prog 65 d h=some (.int .i64 l.length):=by rw[yY hd Tryz.underlying65,zBU]
theorem zOl {l:List (List (List Trm))} {d:D} (hd:zX 1 (zM7 l) d) {i:Nat} (hi:i<l.length):zS Tryz.prog 65 d (.int .i64 (i:Int))=some (.iptr [zNb l[i]] 0):=zY hd zKl zMD (zWy hi)
def zGi (c:Cat) (e:Ex):Int:=if(zAZ c e==0)=true then(match zFJ c e with
 |some _=>0
 |none=>10) else zAZ c e
def ofL (c:Cat) (e:Ex):List (List Trm):=(zFJ c e).getD []
abbrev zis:=List (List (List Trm)) ×List (List UInt8) ×Int
def zG6 (c:Cat):List Fac→List (List (List Trm))→List (List UInt8)→zis
 | [],t,o=>(t,o,0)
 |f::fs,t,o=>if(f.kind==1)=true then(if(zGi c f.e==0)=true then zG6 c fs (t++ [ofL c f.e]) o else([],[],zGi c f.e))
  else if(f.kind==2)=true then zG6 c fs t (if(o.any (· ==f.out))=true then o else o++ [f.out]) else zG6 c fs t o
def zI (c:Cat) (l:List Fac):zis:=if(!((wH c l).2==0))=true then([],[],(wH c l).2) else zG6 c l [] []
theorem zfC {c:Cat} {e:Ex} (h:(zGi c e==0)=true):ofD c e= .tuple [zNb (ofL c e), .int .i64 0]:=by
 unfold zGi at h;unfold ofD ofL zDo;split at h
 ·rename_i q;rw[if_pos q];split at h
  ·rename_i l hl;rw[hl];rfl
  ·exact absurd h (by decide)
 ·rename_i q;exact absurd h q
theorem zae {c:Cat} {e:Ex} (h:(zGi c e==0)=false):ofD c e= .tuple [.nilsl, .int .i64 (zGi c e)]:=by
 unfold zGi at h⊢;unfold ofD zDo;split at h
 ·rename_i q;rw[if_pos q,if_pos q];split at h
  ·exact absurd h (by decide)
  ·rename_i hl;rw[hl];rfl
 ·rename_i q;rw[if_neg q,if_neg q]
theorem zaf (a:List (List Trm)) (nid:Nat) (h:Heap):zM Tryz.prog false nid 65 1 [(0,zNb a)] h=some (.sl 1 [[zNb a]] .full,h):=
 yg (P:=Tryz.prog) (x:=zNb a) zKl zVh zMD rfl rfl (by omega) (by omega) rfl rfl
structure ValI (c:Cat) (l:List Fac) (R:zis) (g:Heap) (i:Nat) (t:List (List (List Trm))) (o:List (List UInt8)) (td od:D) (h:Heap):Prop where
 own:Own2 g h 1 (zM7 t) td 1 (yP o) od
 eq:zG6 c (l.drop i) t o=R
 tl:t.length≤i
 ol:o.length≤i
set_option maxHeartbeats 8000000 in
theorem zQX {c:Cat} {d x:D} (hc:qX c d) (hs:c.Sm) {l:List Fac} (hx:zX 12 (zIH l) x) (hl:l.length≤1048576) (hok:∀f∈l,f.Ok) (g:Heap):
  zA Tryz.prog 24 [d,x] g fun r h'=>h'=g∧∃td od,r= .tuple [td,od, .int .i64 (zI c l).2.2]∧Fin 1 (zM7 (zI c l).1) td∧Fin 1 (yP (zI c l).2.1) od:=by
 have hck:=zOb hc hs hx hl hok;have hof:=fun f (hf:f∈l)=>zad hc hs (hok f hf).e (hok f hf).es;have hlen:=zCb hx;have h12:=zK8;obtain⟨ca,cb,ce,cp,rfl,_,_,_,_⟩:=hc;have hv4:∀a b c e:D,zR true 4 [a,b,c,e] 0=some (.agg [a,b,c,e]):=fun a b c e=>zB rfl (by omega);refine zA.pure (by kernel_rfl) fun hok'=>zA.strip ?_;refine zA.post fun Q hQ=> ?_;have hE0:=Own2.start (Ext.refl g) 1 1;refine zA.of_fn (g:=zV9) mix Tryz.func24 zj1 rfl rfl ?_;simp only[Tryz.f24,gJ];cases q1:((wH c l).2==0) with
 |false=>
  have hR:zI c l=([],[],(wH c l).2):=by unfold zI;rw[q1];rfl
  have hq:=hQ (.tuple [.nilsl, .nilsl, .int .i64 (wH c l).2]) g ⟨Ext.refl g,by simp[yI,yA,below,zb], .nilsl, .nilsl,by rw[hR];rfl, .inl ⟨rfl,by rw[hR];rfl⟩, .inl ⟨rfl,by rw[hR];rfl⟩⟩;clear hQ hof hR
  repeat' first|simp only[go_sem,zTQ, *]|apply bc<;>intro hc|(refine zA.mono (hck _) ?_;rintro r h ⟨rfl,rfl⟩)
 |true=>
 have hR:zI c l=zG6 c l [] []:=by unfold zI;rw[q1];rfl
 obtain⟨R,eR⟩:∃R,zG6 c l [] []=R:=⟨_,rfl⟩;rw[hR,eR] at hQ;clear hR
 repeat' first|simp only[go_sem,zTQ, *]|apply bc<;>intro hc|(refine zA.mono (hck _) ?_;rintro r h ⟨hq,rfl⟩)
 refine zF (fun i fr h=>∃t o td od,fr 2= .iptr [ca,cb,ce,cp] 0∧fr 24=x∧fr 25= .int .i64 (l.length:Int)∧fr 26= .int .i64 (i:Int)∧fr 9=td∧fr 10=od∧ValI c l R g i t o td od h) l.length (by omega) ?_ ?_ ?_
 ·have h0:ValI c l R g 0 [] [] .nilsl .nilsl g:=⟨hE0,eR,Nat.le_refl _,Nat.le_refl _⟩;simp only[go_sem,zTQ,true_and,and_true,Int.ofNat_zero];exact⟨_,_,_,_,rfl,rfl,h0⟩
 ·clear hck;rintro i fr h2 hlt ec ew ⟨t,o,td,od,f2,f24,f25,f26,f9,f10,⟨hown,hK,htl,hol⟩⟩;have a1:=qf hx hlt;have hfo:=hok _ (List.getElem_mem hlt);have hfc:=hof _ (List.getElem_mem hlt);have hst:=zMm hfo h2 h2.next;rw[List.drop_eq_getElem_cons hlt,zG6] at hK;have hrow:(h2.new h2.next (.row l[i].cells)).at' h2.next=some (.row l[i].cells):=zJ _ _ _;have hown2:=hown.ext ((Ext.refl h2).new (Nat.le_refl _) (.row l[i].cells));have hcon:=fun(h:Heap)=>zCS hown.b.isSl (by omega:o.length≤1048576) l[i].out h;generalize l[i]=f at *
  simp only[Fac.cells,Ex.cells] at a1 hst hrow hown2 hfc;generalize hH:h2.new h2.next (.row [.int .i64 f.kind, .str f.comp, .str f.out, .int .i64 f.rel, .int .i64 f.way, .int .i64 f.duty, .bool f.chg, .int .i64 f.e.kind, .str f.e.name, .str f.e.exc,f.e.d,f.d])=H at *
  have hpe:zR true 4 [.int .i64 f.kind, .str f.comp, .str f.out, .int .i64 f.rel, .int .i64 f.way, .int .i64 f.duty, .bool f.chg, .int .i64 f.e.kind, .str f.e.name, .str f.e.exc,f.e.d,f.d] 7=some (.agg [.int .i64 f.e.kind, .str f.e.name, .str f.e.exc,f.e.d]):=rfl;clear hown hof;cases q2:(f.kind==1) with
  |true=>
   rw[if_pos q2] at hK;cases q3:(zGi c f.e==0) with
   |true=>
    rw[if_pos q3] at hK;rw[zfC q3] at hfc;have hone:=zaf (ofL c f.e);clear hQ hcon
    repeat' first|simp only[go_sem,zTQ, *]|apply bc<;>intro hc|(refine zA.mono (hfc _) ?_;rintro r h ⟨hq,rfl⟩)
    subst hq;refine hown2.appH (zs:=zM7 [ofL c f.e]) zKl zY8 zMD (by omega) (zWz _) (by simp[zM7]) (by rw[zBU,zBU,zSj];unfold lim;simp;omega) (by rw[zBU,zBU];unfold lim;simp;omega) fun d' h' ho'=> ?_;have hres:ValI c l R g (i+1) (t++ [ofL c f.e]) o d' od h':=⟨by
     have:zM7 (t++ [ofL c f.e])=zM7 t++zM7 [ofL c f.e]:=by simp[zM7]
     rw[this];exact ho',hK,by simp;omega,by omega⟩
    clear ho' hown2 hK
    repeat' first|simp only[go_sem,zTQ, *]|apply bc<;>intro hc
    exact⟨_,_,_,_,rfl,rfl,hres⟩
   |false=>
    rw[if_neg (by rw[q3];exact Bool.false_ne_true)] at hK;rw[zae q3] at hfc;have hq:=hQ (.tuple [.nilsl, .nilsl, .int .i64 (zGi c f.e)]) H ⟨hown2.a.1,by simp[yI,yA,below,zb], .nilsl, .nilsl,by rw[←hK];rfl, .inl ⟨rfl,by rw[←hK];rfl⟩, .inl ⟨rfl,by rw[←hK];rfl⟩⟩;clear hQ hcon hown2 hK
    repeat' first|simp only[go_sem,zTQ, *]|apply bc<;>intro hc|(refine zA.mono (hfc _) ?_;rintro r h ⟨rfl,rfl⟩)
  |false=>
   rw[if_neg (by rw[q2];exact Bool.false_ne_true)] at hK;clear hQ hfc;cases q3:(f.kind==2) with
   |true=>
    rw[if_pos q3] at hK;cases q4:(o.any (· ==f.out)) with
    |true=>
     rw[if_pos q4] at hK;rw[q4] at hcon;have hres:ValI c l R g (i+1) t o td od H:=⟨hown2,hK,by omega,by omega⟩;clear hown2 hK
     repeat' first|simp only[go_sem,zTQ, *]|apply bc<;>intro hc|(refine zA.mono (hcon _) ?_;rintro r h ⟨hq,rfl⟩)
     subst hq;exact⟨_,_,_,_,rfl,rfl,hres⟩
    |false=>
     rw[if_neg (by rw[q4];exact Bool.false_ne_true)] at hK;rw[q4] at hcon;have hone:=zEJ f.out
     repeat' first|simp only[go_sem,zTQ, *]|apply bc<;>intro hc|(refine zA.mono (hcon _) ?_;rintro r h ⟨hq,rfl⟩)
     subst hq;refine hown2.swap.appH (zs:=yP [f.out]) yj zHg zAh (by omega) zGy (by simp[yP]) (by rw[zq,zBe];unfold lim;simp[yP];omega) (by rw[zq];unfold lim;simp[yP];omega) fun d' h' ho'=> ?_;have hres:ValI c l R g (i+1) t (o++ [f.out]) td d' h':=⟨by
      have:yP (o++ [f.out])=yP o++yP [f.out]:=by simp[yP]
      rw[this];exact ho'.swap,hK,by omega,by simp;omega⟩
     clear ho' hown2 hK
     repeat' first|simp only[go_sem,zTQ, *]|apply bc<;>intro hc
     exact⟨_,_,_,_,rfl,rfl,hres⟩
   |false=>
    rw[if_neg (by rw[q3];exact Bool.false_ne_true)] at hK;have hres:ValI c l R g (i+1) t o td od H:=⟨hown2,hK,by omega,by omega⟩;clear hown2 hK hcon
    repeat' first|simp only[go_sem,zTQ, *]|apply bc<;>intro hc
    exact⟨_,_,_,_,rfl,rfl,hres⟩
 ·rintro fr h2 ec ⟨t,o,td,od,f2,f24,f25,f26,f9,f10,⟨hown,hK,htl,hol⟩⟩;rw[List.drop_length,zG6] at hK;have hf1:=hown.a.2.1.fin (zRb t);have hf2:=hown.b.2.1.fin (qL (l:=o));have hq:=hQ (.tuple [td,od, .int .i64 0]) h2 ⟨hown.a.1,by
   simp only[yI,yA,below,zb];exact⟨zy (Nat.zero_le _) _ hf1.1,zy (Nat.zero_le _) _ hf2.1,trivial,trivial⟩,yI td,yI od,by rw[←hK];rfl,by rw[←hK];exact hf1.2,by rw[←hK];exact hf2.2⟩
  clear hQ hown hK hf1 hf2
  repeat' first|simp only[go_sem,zTQ, *]|apply bc<;>intro hc
def zM8 (a b:List Trm):Bool:=zGR zN a b==0
theorem zFK (a b:List Trm):zM8 a b=true↔a=b:=by
 unfold zM8;constructor
 ·intro h;exact zLC zFI _ _ (by simpa using h)
 ·rintro rfl;simp[zDH.list.refl]
theorem zag (a b:Nat):((a:Int)==(b:Int))=(a==b):=by
 by_cases h:a=b
 ·simp[h]
 ·rw[beq_eq_false_iff_ne.2 h,beq_eq_false_iff_ne.2 (by omega)]
theorem zah (x y:Trm) (c:Bool):zCl Tryz.prog .neq 79 c (.agg [.str x.a, .str x.b]) (.agg [.str y.a, .str y.b])=some (.bool (!(zN x y==0))):=by
 have he:eqT Tryz.prog 79=some [.s, .s]:=by kernel_rfl
 rw[zDg];simp only[zCl,he,zQl,eqK,Option.map_some,Bool.and_true,zAd]
theorem zW0 {a b:List Trm} {x y:D} (hx:zX 2 (qM a) x) (hy:zX 2 (qM b) y) (hl:a.length≤1048576) (g:Heap):
  zA Tryz.prog 72 [x,y] g fun r h'=>h'=g∧r= .bool (zM8 a b):=by
 have l1:=qy hx;have l2:=qy hy;have hv2:∀a b:D,zR true 2 [a,b] 0=some (.agg [a,b]):=fun a b=>zB rfl (by omega);refine zA.post fun Q hQ=> ?_;have hq:=hQ _ _ ⟨rfl,rfl⟩;clear hQ;refine zA.of_fn (g:=zWC) mix Tryz.func72 zj5 rfl rfl ?_;simp only[Tryz.f72,gJ];cases q:((a.length:Int)==(b.length:Int)) with
 |false=>
  have hne:zM8 a b=false:=by
   cases h:zM8 a b with
   |false=>rfl
   |true=>rw[(zFK _ _).1 h] at q;simp at q
  rw[hne] at hq
  repeat' first|simp only[go_sem,zYH, *]|apply bc<;>intro hc
 |true=>
 have hle:a.length≤b.length∧b.length≤a.length:=by have:=of_decide_eq_true q;omega
 obtain⟨hle1,hle2⟩:=hle
 repeat' first|simp only[go_sem,zYH, *]|apply bc<;>intro hc
 refine zF (fun i fr h=>fr 0=x∧fr 1=y∧fr 12= .int .i64 (a.length:Int)∧fr 13= .int .i64 (i:Int)∧h=g∧a.take i=b.take i) a.length (by omega) ?_ ?_ ?_
 ·simp only[go_sem,zYH,true_and,and_true,Int.ofNat_zero];rfl
 ·rintro i fr h hlt ec ew ⟨f0,f1,f12,f13,rfl,ht⟩;have hlt2:i<b.length:=by omega
  have a1:=zCd hx hlt;have a2:=zCd hy hlt2;have hn:=zah a[i] b[i];have h1:∀ (e:(zN a[i] b[i]==0)=true),a.take (i+1)=b.take (i+1):=fun e=>by
   have he:=zFI a[i] b[i] (by simpa using e);rw[List.take_succ_eq_append_getElem hlt,List.take_succ_eq_append_getElem hlt2,ht,he]
  have h2:∀ (e:(zN a[i] b[i]==0)=false),zM8 a b=false:=fun e=>by
   cases h:zM8 a b with
   |false=>rfl
   |true=>
    have:=(zFK _ _).1 h;subst this;rw[zDH.refl] at e;exact absurd e (by decide)
  generalize a[i]=u at *
  generalize b[i]=v at *
  simp only[Trm.cells] at a1 a2;cases qq:(zN u v==0) with
  |true=>
   have hres:=h1 qq;rw[qq] at hn;clear h1 h2 ht hq
   repeat' first|simp only[go_sem,zYH, *]|apply bc<;>intro hc
   refine zQ (by kernel_rfl) ?_
   repeat' first|simp only[go_sem,zYH, *]|apply bc<;>intro hc
  |false=>
   rw[h2 qq] at hq;rw[qq] at hn;clear h1 h2 ht
   repeat' first|simp only[go_sem,zYH, *]|apply bc<;>intro hc
   refine zQ (by kernel_rfl) ?_
   repeat' first|simp only[go_sem,zYH, *]|apply bc<;>intro hc
 ·rintro fr h ec ⟨f0,f1,f12,f13,rfl,ht⟩
  have:a=b:=by
   rw[List.take_length,show a.length=b.length by omega,List.take_length] at ht;exact ht
  rw[(zFK _ _).2 this] at hq;clear ht this
  repeat' first|simp only[go_sem,zYH, *]|apply bc<;>intro hc
theorem zit {a b:List Trm} {x y:D} (hx:zX 2 (qM a) x) (hy:zX 2 (qM b) y) (hl:a.length≤1048576) {id:Nat} {g:Heap} (hi:g.at' id=some (.row [x])):
  zA Tryz.prog 71 [y, .ptr id 0] g fun r h'=>h'=g∧r= .bool (zM8 a b):=by
 have hc:=zW0 hx hy hl;refine zA.of_fn (g:=zV2) mix Tryz.func71 zjv rfl rfl ?_;simp only[Tryz.f71,gJ]
 repeat' first|simp only[go_sem,zkv, *]|apply bc<;>intro hc|(refine zA.mono (hc _) ?_;rintro r h ⟨rfl,rfl⟩)
theorem zM9 {l:List Lic} {d:D} (hd:zX 4 (zCV l) d) (hl:l.length≤1048576) {f:FuncId} {cap:List D} {p:Lic→Bool} {g:Heap} (hp:∀s∈l,zA Tryz.prog f ([]++ [.agg s.cells]++cap) g fun r h'=>h'=g∧r= .bool (p s)):
  zA Tryz.prog 105 [d, .fn (.func f) [] cap] g fun r h'=>h'=g∧r= .int .i64 (zLb p l):=by
 have hlen:=wd hd;have hv4:∀a b c e:D,zR true 4 [a,b,c,e] 0=some (.agg [a,b,c,e]):=fun a b c e=>zB rfl (by omega);refine zA.of_fn (g:=zPS) mix Tryz.func105 zc1 rfl rfl ?_;simp only[Tryz.f105,gJ]
 repeat' first|simp only[go_sem,zSs, *]|apply bc<;>intro hc
 refine zF (fun i fr h=>fr 1= .fn (.func f) [] cap∧fr 0=d∧fr 6=d∧fr 7= .int .i64 (l.length:Int)∧fr 8= .int .i64 (i:Int)∧h=g∧∀j (hj:j<l.length),j<i→p l[j]=false) l.length (by omega) ?_ ?_ ?_
 ·simp only[go_sem,zSs,true_and,and_true,Int.ofNat_zero];exact fun j hj h0=>by omega
 ·rintro i fr h hlt e1 ew ⟨f1,f0,f6,f7,f8,rfl,hj⟩;have a1:=wj hd hlt;have hq:=hp _ (List.getElem_mem hlt);simp only[List.nil_append,List.cons_append,Lic.cells] at hq;simp only[Lic.cells] at a1;cases hb:p l[i] with
  |true=>
   have hx:=zCW hlt hj hb;rw[hb] at hq;clear hj hp hd
   repeat' first|simp only[go_sem,zSs, *]|apply bc<;>intro hc|(refine zA.mono hq ?_;rintro r h ⟨rfl,rfl⟩)
  |false=>
   have hn:=yk (p:=p) hlt hj hb;rw[hb] at hq;clear hj hp hd
   repeat' first|simp only[go_sem,zSs, *]|apply bc<;>intro hc|(refine zA.mono hq ?_;rintro r h ⟨rfl,rfl⟩)
   exact hn
 ·rintro fr h e1 ⟨f1,f0,f6,f7,f8,rfl,hj⟩;have hx:=zCX (p:=p) fun j hj'=>hj j hj' hj';clear hj hp hd
  repeat' first|simp only[go_sem,zSs, *]|apply bc<;>intro hc
theorem zIW {l:List Lic} {d:D} (hd:zX 4 (zCV l) d) (hl:l.length≤1048576) {f:FuncId} {cap:List D} {p:Lic→Bool} {g:Heap} (hp:∀s∈l,zA Tryz.prog f ([]++ [.agg s.cells]++cap) g fun r h'=>h'=g∧r= .bool (p s)):
  zA Tryz.prog 73 [d, .fn (.func f) [] cap] g fun r h'=>h'=g∧r= .bool (l.any p):=by
 have hix:=zM9 hd hl hp;have hge:=zC9 (l:=l) (p:=p);refine zA.of_fn (g:=zWG) mix Tryz.func73 zkA rfl rfl ?_;simp only[Tryz.f73,gJ]
 repeat' first|simp only[go_sem,zlA, *]|apply bc<;>intro hc|(refine zA.mono hix ?_;rintro r h ⟨rfl,rfl⟩)
theorem ziu (x:Lic) (s:List UInt8) {id:Nat} {g:Heap} (hi:g.at' id=some (.row [.str s])):
  zA Tryz.prog 74 [.agg x.cells, .ptr id 0] g fun r h'=>h'=g∧r= .bool (x.name==s):=by
 refine zA.of_fn (g:=zWP) mix Tryz.func74 zkI rfl rfl ?_;simp only[Tryz.f74,gJ];simp only[Lic.cells]
 repeat' first|simp only[go_sem,zlI, *]|apply bc<;>intro hc
structure Cho where
 ts:List Alt
 own:List (List UInt8)
structure Alt.Sm (a:Alt):Prop where
 sl:zX 2 (qM a.ts) a.d
 len:a.ts.length≤1048576
def zai (y:Cho) (d:D):Prop:=∃a b,d= .agg [a,b]∧zX 1 (yJ y.ts) a∧zX 1 (yP y.own) b
structure Cho.Sm (y:Cho):Prop where
 tl:y.ts.length≤1048576
 ol:y.own.length≤1048576
 ts:∀a∈y.ts,a.Sm
def zBu (v:List (List (List Trm))) (ts:List Alt) (p:Bool) (i:Nat):Int:=match ts[i]? with
 |none=>0
 |some a=>if(p&&((a.ts.length:Int)==0))=true then 0 else if(!((v.getD i []).any fun b=>zM8 a.ts b))=true then 1 else 0
def zRx (c:Cat) (own:List (List UInt8)) (p:Bool) (i:Nat):Int:=match own[i]? with
 |none=>0
 |some s=>if(p&&(s== []))=true then 0 else if(!(c.ls.any fun x=>x.name==s))=true then 7 else 0
def zl (c:Cat) (l:List Fac) (y:Cho) (p:Bool):Int:=
 if(!((zI c l).2.2==0))=true then(zI c l).2.2
 else if(!((y.ts.length:Int)==((zI c l).1.length:Int))|| !((y.own.length:Int)==((zI c l).2.1.length:Int)))=true then 9
 else if(!(zDn (zBu (zI c l).1 y.ts p) y.ts.length==0))=true then zDn (zBu (zI c l).1 y.ts p) y.ts.length
 else zDn (zRx c y.own p) y.own.length
theorem zfD {c:Cat} {e:Ex} (h:(zGi c e==0)=true):(ofL c e).length≤64∧AltsOk 64 (ofL c e):=by
 unfold zGi at h;unfold ofL;split at h
 ·rename_i q;obtain⟨_,h2,h3⟩:=zUd (show zAZ c e=0 by simpa using q);split at h
  ·rename_i l hl;have:=(zOk (c:=c) e.size).1 e (Nat.le_refl _) h3 l hl;rw[hl];exact⟨this.1,this.2.mono h2⟩
  ·exact absurd h (by decide)
 ·rename_i q;exact absurd h q
theorem zLM {c:Cat} :∀ {l:List Fac} {t:List (List (List Trm))} {o:List (List UInt8)},(∀a∈t,a.length≤64∧AltsOk 64 a)→∀a∈(zG6 c l t o).1,a.length≤64∧AltsOk 64 a
 | [],t,o,h=>by rw[zG6];exact h
 |f::fs,t,o,h=>by
  rw[zG6];split
  ·split
   ·rename_i q;exact zLM fun a ha=>by
     rcases List.mem_append.1 ha with g|g
     ·exact h a g
     ·cases List.mem_singleton.1 g;exact zfD q
   ·intro a ha;cases ha
  ·split
   ·exact zLM h
   ·exact zLM h
theorem zBV {c:Cat} {l:List Fac} :∀a∈(zI c l).1,a.length≤64∧AltsOk 64 a:=by
 unfold zI;split
 ·intro a ha;cases ha
 ·exact zLM fun a ha=>by cases ha
set_option maxHeartbeats 8000000 in
theorem zLN {c:Cat} {d x z:D} (hc:qX c d) (hs:c.Sm) {l:List Fac} (hx:zX 12 (zIH l) x) (hl:l.length≤1048576) (hok:∀f∈l,f.Ok) {y:Cho} (hy:zai y z) (hys:y.Sm) (p:Bool) (g:Heap):
  zA Tryz.prog 39 [d,x,z, .bool p] g fun r h'=>h'=g∧r= .int .i64 (zl c l y p):=by
 have hva:=zQX hc hs hx hl hok;have hcd:=hc;obtain⟨ca,cb,ce,cp,rfl,hca,_,_,_⟩:=hc;obtain⟨ya,yb,rfl,ha,hb⟩:=hy;obtain⟨y1,y2,y3⟩:=hys;have hv4:∀a b c e:D,zR true 4 [a,b,c,e] 0=some (.agg [a,b,c,e]):=fun a b c e=>zB rfl (by omega);have hlA:=zCe ha;have hlB:=yz hb;refine zA.pure (by kernel_rfl) fun hok'=> ?_;refine zA.post fun Q hQ=> ?_;obtain⟨E,hE⟩:∃E,zl c l y p=E:=⟨_,rfl⟩;have hQ2:∀h',Ext g h'→Q (.int .i64 E) h':=fun h' he=>hQ _ _ ⟨he,trivial,by rw[hE]⟩;clear hQ;unfold zl at hE;refine zA.of_fn (g:=zVn) mix Tryz.func39 zjb rfl rfl ?_;simp only[Tryz.f39,gJ]
 repeat' first|simp only[go_sem,zKo, *]|apply bc<;>intro hc
 refine(hva _).mono ?_;rintro r h ⟨hq,td,od,rfl,htd,hod⟩;subst hq;clear hva;have e0:=Ext.refl h;have htd:zX 1 (zM7 (zI c l).1) td:=htd.isSl;have hod:zX 1 (yP (zI c l).2.1) od:=hod.isSl;have hl1:=zLL htd;have hl2:=yz hod;have hvo:∀a∈(zI c l).1,a.length≤1048576:=fun a ha=>Nat.le_trans (zBV a ha).1 (by omega);cases q1:((zI c l).2.2==0) with
 |false=>
  rw[if_pos (by rw[q1];rfl)] at hE;have hq:=hQ2 h e0;rw[←hE] at hq;clear hQ2 hE
  repeat' first|simp only[go_sem,zKo, *]|apply bc<;>intro hc
 |true=>
 rw[if_neg (by rw[q1];decide)] at hE;generalize zI c l=v at *
 cases q2:((y.ts.length:Int)==(v.1.length:Int)) with
 |false=>
  rw[if_pos (by rw[q2];rfl)] at hE;have hq:=hQ2 h e0;rw[←hE] at hq;clear hQ2 hE
  repeat' first|simp only[go_sem,zKo, *]|apply bc<;>intro hc
 |true=>
 cases q3:((y.own.length:Int)==(v.2.1.length:Int)) with
 |false=>
  rw[if_pos (by rw[q2,q3];rfl)] at hE;have hq:=hQ2 h e0;rw[←hE] at hq;clear hQ2 hE
  repeat' first|simp only[go_sem,zKo, *]|apply bc<;>intro hc
 |true=>
 rw[if_neg (by rw[q2,q3];decide)] at hE;have hlt1:y.ts.length≤v.1.length:=by have:=of_decide_eq_true q2;omega
 obtain⟨F,hF⟩:∃F,zDn (zBu v.1 y.ts p) y.ts.length=F:=⟨_,rfl⟩;rw[hF] at hE
 repeat' first|simp only[go_sem,zKo, *]|apply bc<;>intro hc
 clear q1;refine zF (fun i fr h2=>fr 3= .bool p∧fr 4= .iptr [ca,cb,ce,cp] 0∧fr 6= .iptr [ya,yb] 0∧fr 9=td∧fr 41=ya∧fr 42= .int .i64 (y.ts.length:Int)∧fr 43= .int .i64 (i:Int)∧Ext h h2∧∀j,j<i→zBu v.1 y.ts p j=0) y.ts.length (by omega) ?_ ?_ ?_
 ·have h0:∀j,j<0→zBu v.1 y.ts p j=0:=fun j hj=>absurd hj (Nat.not_lt_zero _);simp only[go_sem,zKo,true_and,and_true,Int.ofNat_zero];exact⟨e0,h0⟩
 ·rintro i fr h2 hlt ec ew ⟨f3,f4,f6,f9,f41,f42,f43,he,hj⟩;have a1:=zEN ha hlt;have a2:=zOl htd (show i<v.1.length by omega);have sm:=y3 _ (List.getElem_mem hlt);have hte:zBu v.1 y.ts p i=if(p&&((y.ts[i].ts.length:Int)==0))=true then 0 else if(!(v.1[i].any fun b=>zM8 y.ts[i].ts b))=true then 1 else 0:=by
   unfold zBu;rw[List.getElem?_eq_getElem hlt];simp only;rw[List.getD_eq_getElem?_getD,List.getElem?_eq_getElem (by omega)];rfl
  have hnx:=fun(e:zBu v.1 y.ts p i=0)=>wX (f:=zBu v.1 y.ts p) hj e;have hat:=fun(e:zBu v.1 y.ts p i≠0)=>zCZ (f:=zBu v.1 y.ts p) hlt hj e;rw[hF] at hat;have hrow:(h2.new h2.next (.row [y.ts[i].d])).at' h2.next=some (.row [y.ts[i].d]):=zJ _ _ _;have heN:=he.new he.1 (.row [y.ts[i].d]);have hcf:=zDI (l:=v.1[i].map mkA) (d:=zNb v.1[i]) (zX.mk .no) (by rw[List.length_map];exact hvo _ (List.getElem_mem _)) (f:=71) (cap:=[.ptr h2.next 0]) (p:=fun b=>zM8 y.ts[i].ts b.ts) (g:=h2.new h2.next (.row [y.ts[i].d])) (fun s hs=>by
   obtain⟨t,ht,rfl⟩:=List.mem_map.1 hs;exact⟨zX.mk .no,zit sm.sl (zX.mk .no) sm.len hrow⟩)
  have hany:(v.1[i].map mkA).any (fun b=>zM8 y.ts[i].ts b.ts)=v.1[i].any fun b=>zM8 y.ts[i].ts b:=by rw[List.any_map];rfl
  rw[hany] at hcf;clear hany;obtain⟨k1,k2,k3⟩:=zK sm.sl;have hla:=qy sm.sl;generalize y.ts[i]=a at *
  generalize v.1[i]=b at *
  have hst:zU Tryz.prog 62 (.ptr h2.next 0) a.d (h2.new h2.next (.row [.nilsl]))=some (h2.new h2.next (.row [a.d])):=by
   rw[za (off:=0) (zJ _ _ _) zAF (by simp) k1 k3,zEG];rfl
  have had:(zNb b).notTuple=true:=rfl;generalize h2.new h2.next (.row [a.d])=H at *
  clear hj hF ha hb htd hod y3 sm q2 q3;cases hp:p with
  |true=>
   subst hp;cases qa:((a.ts.length:Int)==0) with
   |true=>
    have hn:=hnx (by rw[hte,qa];rfl);clear hnx hat hte hcf hQ2 hE
    repeat' first|simp only[go_sem,zKo, *]|apply bc<;>intro hc
    exact hn
   |false=>
    rw[if_neg (by rw[qa];decide)] at hte;cases qb:(b.any fun t=>zM8 a.ts t) with
    |true=>
     have hn:=hnx (by rw[hte,qb];rfl);rw[qb] at hcf;clear hnx hat hte hQ2 hE
     repeat' first|simp only[go_sem,zKo, *]|apply bc<;>intro hc|(refine zA.mono hcf ?_;rintro r h ⟨hq,rfl⟩)
     subst hq;exact hn
    |false=>
     have h1:F=1:=by rw[hat (by rw[hte,qb];decide),hte,qb];rfl
     subst h1;rw[if_pos (by decide)] at hE;have hq:=hQ2 H heN;rw[←hE] at hq;rw[qb] at hcf;clear hnx hat hte hQ2 hE
     repeat' first|simp only[go_sem,zKo, *]|apply bc<;>intro hc|(refine zA.mono hcf ?_;rintro r h ⟨rfl,rfl⟩)
  |false=>
   subst hp;rw[if_neg (by rw[Bool.false_and];decide)] at hte;cases qb:(b.any fun t=>zM8 a.ts t) with
   |true=>
    have hn:=hnx (by rw[hte,qb];rfl);rw[qb] at hcf;clear hnx hat hte hQ2 hE
    repeat' first|simp only[go_sem,zKo, *]|apply bc<;>intro hc|(refine zA.mono hcf ?_;rintro r h ⟨hq,rfl⟩)
    subst hq;exact hn
   |false=>
    have h1:F=1:=by rw[hat (by rw[hte,qb];decide),hte,qb];rfl
    subst h1;rw[if_pos (by decide)] at hE;have hq:=hQ2 H heN;rw[←hE] at hq;rw[qb] at hcf;clear hnx hat hte hQ2 hE
    repeat' first|simp only[go_sem,zKo, *]|apply bc<;>intro hc|(refine zA.mono hcf ?_;rintro r h ⟨rfl,rfl⟩)
 ·rintro fr h2 ec ⟨f3,f4,f6,f9,f41,f42,f43,he,hj⟩;have hF0:F=0:=by rw[←hF];exact yr hj
  subst hF0;rw[if_neg (by decide)] at hE;clear hF hj htd hl1 hlt1 q2 q3
  repeat' first|simp only[go_sem,zKo, *]|apply bc<;>intro hc
  refine zF (fun i fr h2=>fr 3= .bool p∧fr 4= .iptr [ca,cb,ce,cp] 0∧fr 63=yb∧fr 64= .int .i64 (y.own.length:Int)∧fr 65= .int .i64 (i:Int)∧Ext h h2∧∀j,j<i→zRx c y.own p j=0) y.own.length (by omega) ?_ ?_ ?_
  ·have h0:∀j,j<0→zRx c y.own p j=0:=fun j hj=>absurd hj (Nat.not_lt_zero _);simp only[go_sem,zKo,true_and,and_true,Int.ofNat_zero];exact⟨f3,f4,he,h0⟩
  ·clear he;rintro i fr h2 hlt ec ew ⟨f3,f4,f63,f64,f65,he,hj⟩;have a1:=zAW hb hlt;have hte:zRx c y.own p i=if(p&&(y.own[i]== []))=true then 0 else if(!(c.ls.any fun x=>x.name==y.own[i]))=true then 7 else 0:=by
    unfold zRx;rw[List.getElem?_eq_getElem hlt]
   have hnx:=fun(e:zRx c y.own p i=0)=>wX (f:=zRx c y.own p) hj e;have hat:=fun(e:zRx c y.own p i≠0)=>zCZ (f:=zRx c y.own p) hlt hj e;rw[hE] at hat;generalize y.own[i]=s at *
   have hrow:(h2.new h2.next (.row [.str s])).at' h2.next=some (.row [.str s]):=zJ _ _ _;have heN:=he.new he.1 (.row [.str s]);have hcf:=zIW hca hs.ls.1 (f:=74) (cap:=[.ptr h2.next 0]) (p:=fun x=>x.name==s) (g:=h2.new h2.next (.row [.str s])) (fun x _=>ziu x s hrow);have hst:zU Tryz.prog 9 (.ptr h2.next 0) (.str s) (h2.new h2.next (.row [.str []]))=some (h2.new h2.next (.row [.str s])):=by
    rw[za (off:=0) (zJ _ _ _) zAh (by simp) rfl rfl,zEG];rfl
   generalize h2.new h2.next (.row [.str s])=H at *
   clear hj hE ha hb hod y3;cases hp:p with
   |true=>
    subst hp;cases qa:(s== []) with
    |true=>
     have hn:=hnx (by rw[hte,qa];rfl);clear hnx hat hte hcf hQ2
     repeat' first|simp only[go_sem,zKo, *]|apply bc<;>intro hc
     exact hn
    |false=>
     rw[if_neg (by rw[qa];decide)] at hte;cases qb:(c.ls.any fun x=>x.name==s) with
     |true=>
      have hn:=hnx (by rw[hte,qb];rfl);rw[qb] at hcf;clear hnx hat hte hQ2
      repeat' first|simp only[go_sem,zKo, *]|apply bc<;>intro hc|(refine zA.mono hcf ?_;rintro r h ⟨hq,rfl⟩)
      subst hq;exact hn
     |false=>
      have h1:E=7:=by rw[hat (by rw[hte,qb];decide),hte,qb];rfl
      subst h1;have hq:=hQ2 H heN;rw[qb] at hcf;clear hnx hat hte hQ2
      repeat' first|simp only[go_sem,zKo, *]|apply bc<;>intro hc|(refine zA.mono hcf ?_;rintro r h ⟨rfl,rfl⟩)
   |false=>
    subst hp;rw[if_neg (by rw[Bool.false_and];decide)] at hte;cases qb:(c.ls.any fun x=>x.name==s) with
    |true=>
     have hn:=hnx (by rw[hte,qb];rfl);rw[qb] at hcf;clear hnx hat hte hQ2
     repeat' first|simp only[go_sem,zKo, *]|apply bc<;>intro hc|(refine zA.mono hcf ?_;rintro r h ⟨hq,rfl⟩)
     subst hq;exact hn
    |false=>
     have h1:E=7:=by rw[hat (by rw[hte,qb];decide),hte,qb];rfl
     subst h1;have hq:=hQ2 H heN;rw[qb] at hcf;clear hnx hat hte hQ2
     repeat' first|simp only[go_sem,zKo, *]|apply bc<;>intro hc|(refine zA.mono hcf ?_;rintro r h ⟨rfl,rfl⟩)
  ·clear he;rintro fr h2 ec ⟨f3,f4,f63,f64,f65,he,hj⟩;have h1:E=0:=by rw[←hE];exact yr hj
   subst h1;have hq:=hQ2 h2 he;clear hj hQ2 hE
   repeat' first|simp only[go_sem,zKo, *]|apply bc<;>intro hc
theorem zNA (l:List Int):∀x∈wT l,x.length=1:=fun x hx=>by
 obtain⟨s,_,rfl⟩:=List.mem_map.1 hx;rfl
theorem zOm (l:List Int):∀x∈wT l,qC x:=fun x hx=>by
 obtain⟨s,_,rfl⟩:=List.mem_map.1 hx;exact⟨rfl,by simp[zb,below],rfl⟩
theorem zQY (n:Int) (nid:Nat) (h:Heap):zM Tryz.prog false nid 31 1 [(0, .int .i64 n)] h=some (.sl 1 [[.int .i64 n]] .full,h):=
 yg (P:=Tryz.prog) (x:= .int .i64 n) yF zAQ wL rfl rfl (by omega) (by omega) rfl rfl
def zLO (c:Cat) (t:List (List (List Trm))) (o:List (List UInt8)) (cs:List D):Prop:=∃td od a b e p,cs= [td,od,a,b,e,p]∧zX 1 (zM7 t) td∧zX 1 (yP o) od∧qX c (.agg [a,b,e,p])
def zDp (c:Cat) (t:List (List (List Trm))) (o:List (List UInt8)):List Nat:=t.map List.length++o.map fun _=>c.ls.length
def zD8 (l:List Nat):List Int:=l.map fun(n:Nat)=>(n:Int)
theorem zNB (l:List Int) (n:Int):wT (l++ [n])=wT l++wT [n]:=by simp[wT]
theorem zUh (a b c d e f:D):zR true 6 [a,b,c,d,e,f] 0=some (.agg [a,b,c,d,e,f]):=zB rfl (by omega)
set_option maxHeartbeats 4000000 in
theorem zNC {c:Cat} {t:List (List (List Trm))} {o:List (List UInt8)} {cs:List D} (hk:zLO c t o cs) (hs:c.Sm) (htl:t.length≤1048576) (hol:o.length≤1048576) (g:Heap):
  zA Tryz.prog 68 [.agg cs] g fun r h'=>h'=g∧Fin 1 (wT (zD8 (zDp c t o))) r:=by
 obtain⟨td,od,a,b,e,p,rfl,ht,ho,hc⟩:=hk;obtain⟨_,_,_,_,hce,hca,_,_,_⟩:=hc;cases hce;have l1:=zLL ht;have l2:=yz ho;have l3:=wd hca;have l4:=fun(x:List (List Trm)) (h:Heap)=>zCe (l:=x.map mkA) (d:=zNb x) (zX.mk .no) h;have l5:∀ (x:List (List Trm)) (h:Heap),zCF Tryz.prog 39 (zNb x) h=some (.int .i64 (x.length:Int)):=fun x h=>by have:=l4 x h;rwa [List.length_map] at this
 clear l4;refine zA.pure (by kernel_rfl) fun hok'=>zA.strip ?_;refine zA.post fun Q hQ=> ?_;have hE0:=Own.start (Ext.refl g) 1;refine zA.of_fn (g:=zWN) mix Tryz.func68 zkH rfl rfl ?_;simp only[Tryz.f68,gJ]
 repeat' first|simp only[go_sem,zWO, *]|apply bc<;>intro hc
 refine zF (fun i fr h=>∃s,fr 1= .iptr [td,od,a,b,e,p] 0∧fr 7=td∧fr 8= .int .i64 (t.length:Int)∧fr 9= .int .i64 (i:Int)∧fr 3=s∧Own g h 1 (wT (zD8 ((t.take i).map List.length))) s) t.length (by omega) ?_ ?_ ?_
 ·simp only[go_sem,zWO,true_and,and_true,Int.ofNat_zero];exact⟨_,rfl,hE0⟩
 ·rintro i fr h hlt ec ew ⟨s,f1,f7,f8,f9,f3,hown⟩;have a1:=zOl ht hlt;have hl:=l5 t[i];have htk:zD8 ((t.take (i+1)).map List.length)=zD8 ((t.take i).map List.length)++ [(t[i].length:Int)]:=by rw[List.take_succ_eq_append_getElem hlt,List.map_append];simp only[zD8,List.map_append];rfl
  have hli:(zD8 ((t.take i).map List.length)).length=i:=by simp[zD8];omega
  rw[htk];clear htk;generalize t[i]=x at *
  generalize zD8 ((t.take i).map List.length)=pre at *
  have hone:=zQY (x.length:Int);have hnt:(zNb x).notTuple=true:=rfl;clear hQ ht ho hca
  repeat' first|simp only[go_sem,zWO, *]|apply bc<;>intro hc
  refine hown.appH (ys:=wT [(x.length:Int)]) yF zSh wL (by omega) (zNA _) (by simp[wT]) (by rw[yo,zGt,hli];unfold lim;simp[wT];omega) (by rw[yo,hli];unfold lim;simp[wT];omega) fun d' h' ho'=> ?_;rw[←zNB] at ho';clear hown
  repeat' first|simp only[go_sem,zWO, *]|apply bc<;>intro hc
  exact⟨_,rfl,ho'⟩
 ·rintro fr h ec ⟨s,f1,f7,f8,f9,f3,hown⟩;rw[List.take_length] at hown;have hrad:∀j,zD8 (t.map List.length++(o.take j).map fun _=>c.ls.length)=zD8 (t.map List.length)++zD8 ((o.take j).map fun _=>c.ls.length):=fun j=>by simp[zD8]
  repeat' first|simp only[go_sem,zWO, *]|apply bc<;>intro hc
  refine zF (fun i fr h=>∃s,fr 1= .iptr [td,od,a,b,e,p] 0∧fr 20=od∧fr 21= .int .i64 (o.length:Int)∧fr 22= .int .i64 (i:Int)∧fr 3=s∧Own g h 1 (wT (zD8 (t.map List.length++(o.take i).map fun _=>c.ls.length))) s) o.length (by omega) ?_ ?_ ?_
  ·have h0:Own g h 1 (wT (zD8 (t.map List.length++(o.take 0).map fun _=>c.ls.length))) s:=by simpa using hown
   simp only[go_sem,zWO,true_and,and_true,Int.ofNat_zero];exact⟨s,f1,f3,h0⟩
  ·clear hown;rintro i fr h hlt ec ew ⟨s,f1,f20,f21,f22,f3,hown⟩;have htk:zD8 (t.map List.length++(o.take (i+1)).map fun _=>c.ls.length)=zD8 (t.map List.length++(o.take i).map fun _=>c.ls.length)++ [(c.ls.length:Int)]:=by rw[List.take_succ_eq_append_getElem hlt,List.map_append,←List.append_assoc];simp only[zD8,List.map_append];rfl
   have hli:(zD8 (t.map List.length++(o.take i).map fun _=>c.ls.length)).length=t.length+i:=by simp[zD8];omega
   rw[htk];clear htk hrad;generalize zD8 (t.map List.length++(o.take i).map fun _=>c.ls.length)=pre at *
   have hone:=zQY (c.ls.length:Int);clear hQ ht ho hca
   repeat' first|simp only[go_sem,zWO, *]|apply bc<;>intro hc
   refine hown.appH (ys:=wT [(c.ls.length:Int)]) yF zSh wL (by omega) (zNA _) (by simp[wT]) (by rw[yo,zGt,hli];unfold lim;simp[wT];omega) (by rw[yo,hli];unfold lim;simp[wT];omega) fun d' h' ho'=> ?_;rw[←zNB] at ho';clear hown
   repeat' first|simp only[go_sem,zWO, *]|apply bc<;>intro hc
   exact⟨_,rfl,ho'⟩
  ·clear hown;rintro fr h ec ⟨s,f1,f20,f21,f22,f3,hown⟩;rw[List.take_length] at hown;have hf:=hown.2.1.fin (zOm _);have hq:=hQ s h ⟨hown.1,zy (Nat.zero_le _) _ hf.1,hf.2⟩;clear hQ hown hf hrad
   repeat' first|simp only[go_sem,zWO, *]|apply bc<;>intro hc
def zb2:List Nat→Nat→Nat
 | [],n=>n
 |r::rs,n=>if n*r>4096 then n*r else zb2 rs (n*r)
def zYc (l:List Nat):Nat:=if l.any (· ==0) then 0 else zb2 l 1
set_option maxHeartbeats 4000000 in
theorem zOn {c:Cat} {t:List (List (List Trm))} {o:List (List UInt8)} {cs:List D} (hk:zLO c t o cs) (hs:c.Sm) (htl:t.length≤524288) (hol:o.length≤524288) (hr:∀x∈t,x.length≤1048576) (g:Heap):
  zA Tryz.prog 37 [.agg cs] g fun r h'=>h'=g∧r= .int .i64 ((zYc (zDp c t o):Nat):Int):=by
 have hra:=zNC hk hs (by omega) (by omega);obtain⟨td,od,a,b,e,p,rfl,ht,ho,hc⟩:=hk;have h6:=zUh;have hrl:∀r∈zDp c t o,r≤1048576:=fun r hr'=>by
  rcases List.mem_append.1 hr' with q|q
  ·obtain⟨x,hx,rfl⟩:=List.mem_map.1 q;exact hr x hx
  ·obtain⟨x,hx,rfl⟩:=List.mem_map.1 q;exact hs.ls.1
 have hll:(zDp c t o).length≤1048576:=by simp[zDp];omega
 refine zA.post fun Q hQ=> ?_;have hq0:=hQ _ _ ⟨rfl,rfl⟩;clear hQ;unfold zYc at hq0;generalize zDp c t o=L at *
 refine zA.of_fn (g:=zWF) mix Tryz.func37 zj7 rfl rfl ?_;simp only[Tryz.f37,gJ]
 repeat' first|simp only[go_sem,zZs, *]|apply bc<;>intro hc
 refine(hra _).mono ?_;rintro r h ⟨hq,hf⟩;subst hq;have hsl:=hf.isSl;have hnl:(zD8 L).length=L.length:=by simp[zD8]
 have hco:=zIB hsl (by omega) 0;have hlen:=zAb hsl;rw[hnl] at hlen;have hcz:((zD8 L).any fun x=>x==0)=L.any (· ==0):=by
  rw[zD8,List.any_map];congr 1
  funext x
  exact zag x 0
 rw[hcz] at hco;clear hra;cases q:L.any (· ==0) with
 |true=>
  rw[if_pos q] at hq0;have hq1:Q (.int .i64 0) h:=hq0;rw[q] at hco
  repeat' first|simp only[go_sem,zZs, *]|apply bc<;>intro hc|(refine zA.mono (hco _) ?_;rintro r h ⟨rfl,rfl⟩)
 |false=>
 rw[if_neg (by rw[q];exact Bool.false_ne_true)] at hq0;rw[q] at hco;obtain⟨R,hR⟩:∃R,zb2 L 1=R:=⟨_,rfl⟩;rw[hR] at hq0;clear hcz
 repeat' first|simp only[go_sem,zZs, *]|apply bc<;>intro hc|(refine zA.mono (hco _) ?_;rintro r h ⟨hq,rfl⟩)
 subst hq
 rename Heap=>g
 refine zF (fun i fr h=>∃n:Nat,fr 11=r∧fr 12= .int .i64 (L.length:Int)∧fr 13= .int .i64 (i:Int)∧fr 4= .int .i64 (n:Int)∧h=g∧n≤4096∧zb2 (L.drop i) n=R) L.length (by omega) ?_ ?_ ?_
 ·simp only[go_sem,zZs,true_and,and_true,Int.ofNat_zero];exact⟨1,rfl,by omega,hR⟩
 ·rintro i fr h hlt ec ew ⟨n,f11,f12,f13,f4,rfl,hn,hK⟩;have a1:=zCU hsl (show i<(zD8 L).length by omega);have hni:(zD8 L)[i]'(by omega)=((L[i]:Nat):Int):=by simp[zD8]
  rw[hni] at a1;have hLi:=hrl _ (List.getElem_mem hlt);rw[List.drop_eq_getElem_cons hlt,zb2] at hK;generalize L[i]=y at *
  have hm:n*y≤4096*1048576:=Nat.mul_le_mul hn hLi;have hw:IntKind.i64.wrap ((n:Int)*(y:Int))=((n*y:Nat):Int):=by rw[zV (by rw[←Int.natCast_mul];omega) (by rw[←Int.natCast_mul];omega),Int.natCast_mul]
  generalize hny:n*y=m at *
  clear hr hrl hsl hni;by_cases hb:m>4096
  ·have e1:decide ((m:Int)>4096)=true:=decide_eq_true (by omega);rw[if_pos hb] at hK;subst hK
   repeat' first|simp only[go_sem,zZs, *]|apply bc<;>intro hc
  ·have e1:decide ((m:Int)>4096)=false:=decide_eq_false (by omega);rw[if_neg hb] at hK;have hn2:m≤4096:=by omega
   clear hq0 hny hm
   repeat' first|simp only[go_sem,zZs, *]|apply bc<;>intro hc
   exact⟨m,rfl,hn2,hK⟩
 ·rintro fr h ec ⟨n,f11,f12,f13,f4,rfl,hn,hK⟩;rw[List.drop_length,zb2] at hK;subst hK;clear hr hrl hsl
  repeat' first|simp only[go_sem,zZs, *]|apply bc<;>intro hc
def zEY:List Nat→Nat→List Nat×Nat
 | [],n=>([],n)
 |r::rs,n=>(((zEY rs n).2%r)::(zEY rs n).1,(zEY rs n).2/r)
theorem zQZ:∀ (l:List Nat) (n:Nat),(zEY l n).1.length=l.length
 | [],_=>rfl
 |r::rs,n=>by simp[zEY,zQZ rs n]
theorem zUi:∀ (l:List Nat) (n:Nat),(zEY l n).2≤n
 | [],_=>Nat.le_refl _
 |r::rs,n=>Nat.le_trans (Nat.div_le_self _ _) (zUi rs n)
theorem zOo:∀ {l:List Nat} {n:Nat},(∀r∈l,0<r)→∀i (hi:i<l.length),((zEY l n).1.getD i 0)<l[i]
 |r::rs,n,h,0,_=>by simp[zEY];exact Nat.mod_lt _ (h r (by simp))
 |r::rs,n,h,i+1,hi=>by
  have:=zOo (l:=rs) (n:=n) (fun x hx=>h x (List.mem_cons_of_mem _ hx)) i (by simpa using hi);simpa [zEY] using this
def ym (t:List (List (List Trm))) (ds:List Nat):List (List Trm):=(List.range t.length).map fun i=>(t.getD i []).getD (ds.getD i 0) []
def zAl (c:Cat) (n m:Nat) (ds:List Nat):List (List UInt8):=(List.range m).map fun i=>((c.ls.map Lic.name).getD (ds.getD (n+i) 0) [])
theorem ziv:zd Tryz.prog zRJ Tryz.f69=true:=by kernel_rfl
theorem zUj {ts:List Trm} (h0:ts≠[]) (hl:ts.length≤1048576) (g:Heap):
  zA Tryz.prog 69 [(mkA ts).d] g fun r h'=>h'=g∧r=(mkA ts).d:=by
 refine zA.pure (by kernel_rfl) fun hok=>zA.strip ?_;have hE0:Ext g g:=Ext.refl g;have hd:(mkA ts).d= .sl 2 (qM ts) .no:=rfl;rw[hd];have hn:zCl Tryz.prog .eql 62 true (.sl 2 (qM ts) .no) .nilsl=some (.bool false):=by rw[qi (zX.mk .no) Tryz.underlying62];rfl
 have hz:=fun nid h=>qK (P:=Tryz.prog) (nid:=nid) (h:=h) yw zBf wG rfl rfl (by omega:0<2);have hap:z6 Tryz.prog false g.next 62 (.sl 2 [] .full) (.sl 2 (qM ts) .no) g=some (.sl 2 (qM ts) (.own g.next),g.new g.next .tok):=by
  rw[zGJ yw zN3 wG (by omega) (zAB ts) (by rw[zEy,yZ];unfold lim;omega) (by rw[yZ];unfold lim;omega),if_neg (by rw[yZ];exact fun q=>h0 (List.length_eq_zero_iff.1 q))]
 have hE1:=hE0.new (Nat.le_refl _) .tok;have hst:=yO (sz:=2) (xs:=qM ts) (fun x hx=>by
  obtain⟨y,_,rfl⟩:=List.mem_map.1 hx;exact⟨rfl,by simp[Trm.cells,zb,below],rfl⟩) (.own g.next)
 have hfin:below g.next (yI (.sl 2 (qM ts) (.own g.next)))∧yI (.sl 2 (qM ts) (.own g.next))= .sl 2 (qM ts) .no:=⟨by rw[hst.1];exact zy (Nat.zero_le _) _ hst.2,hst.1⟩;obtain⟨q1,q2⟩:=hfin;refine zA.post fun Q hQ=> ?_;have hq:=hQ _ _ ⟨hE1,q1,q2⟩;clear hst q1 q2 hQ hd;refine zA.of_fn (g:=zRJ) mix Tryz.func69 ziv rfl rfl ?_;simp only[Tryz.f69,gJ]
 repeat' first|simp only[go_sem,zgW, *]|apply bc<;>intro hc
def dI (ds:List Nat):List D:=ds.map fun(x:Nat)=>D.int .i64 (x:Int)
theorem zW1 (i:Nat) (rest:List D) (v z:D):(List.replicate (i+1) z++rest).set i v=List.replicate i z++v::rest:=by
 induction i with
 |zero=>rfl
 |succ i ih=>rw[List.replicate_succ,List.cons_append,List.set_cons_succ,ih,List.replicate_succ,List.cons_append]
def zb3 (sz:Nat) (xs:List (List D)) (d:D):Prop:=Fin sz xs d∧(xs= []→d= .nilsl)
def nd (sz:Nat):List (List D)→D
 | []=> .nilsl
 |x::xs=> .sl sz (x::xs) .no
theorem zb3.det {sz : Nat} {xs : List (List D)} {d : D} (h : zb3 sz xs d) : d = nd sz xs := by
  cases xs with
  | nil => exact h.2 rfl
  | cons x xs => rcases h.1 with ⟨_, q⟩ | q
                 · cases q
                 · exact q
set_option maxHeartbeats 8000000 in
theorem zW2 {c:Cat} {t:List (List (List Trm))} {o:List (List UInt8)} {cs:List D} (hk:zLO c t o cs) (hs:c.Sm) (htl:t.length≤524288) (hol:o.length≤524288) (hr:∀x∈t,x.length≤64∧AltsOk 64 x) (hpos:∀r∈zDp c t o,0<r) {n:Nat} (hn:n≤1048576) (g:Heap):
  zA Tryz.prog 38 [.agg cs, .int .i64 (n:Int)] g fun r h'=>h'=g∧∃td od,r= .agg [td,od]∧zb3 1 (yJ ((ym t (zEY (zDp c t o) n).1).map mkA)) td∧zb3 1 (yP (zAl c t.length o.length (zEY (zDp c t o) n).1)) od:=by
 have hra:=zNC hk hs (by omega) (by omega);obtain⟨td,od,a,b,e,p,rfl,ht,ho,hc⟩:=hk;have h6:=zUh;have hrl:∀r∈zDp c t o,r≤1048576:=fun r hr'=>by
  rcases List.mem_append.1 hr' with q|q
  ·obtain⟨x,hx,rfl⟩:=List.mem_map.1 q;exact Nat.le_trans (hr x hx).1 (by omega)
  ·obtain⟨x,hx,rfl⟩:=List.mem_map.1 q;exact hs.ls.1
 have hlL:(zDp c t o).length≤t.length+o.length∧t.length+o.length≤(zDp c t o).length:=by simp[zDp]
 have hll:(zDp c t o).length≤1048576:=by omega
 obtain⟨_,_,_,_,hce,hca,_,_,_⟩:=hc;cases hce;have l1:=zLL ht;have l2:=yz ho;refine zA.pure (by kernel_rfl) fun hok'=>zA.strip ?_;refine zA.post fun Q hQ=> ?_;generalize hLL:zDp c t o=L at *
 obtain⟨G1,B,hG1,r1,E1,n1,hB⟩:∃G B,g.new g.next (.row [.nilsl, .nilsl])=G∧G.at' g.next=some (.row [.nilsl, .nilsl])∧Ext g G∧G.next=B∧g.next<B:=⟨_,_,rfl,zJ _ _ _,(Ext.refl g).new (Nat.le_refl _) _,rfl,by rw[zD];omega⟩;refine zA.of_fn (g:=zWK) mix Tryz.func38 zkE rfl rfl ?_;simp only[Tryz.f38,gJ]
 repeat' first|simp only[go_sem,zNY, *]|apply bc<;>intro hc
 refine(hra _).mono ?_;rintro r h ⟨hq,hf⟩;have hsl:=hf.isSl;have hnl:(zD8 L).length=L.length:=by simp[zD8]
 have hlen:=zAb hsl;rw[hnl] at hlen;clear hra;have hmk:∀nid H,qd Tryz.prog true nid 31 (.int .i64 (L.length:Int)) (.int .i64 (L.length:Int)) H=some (.rs nid 1 0 L.length,H.new nid (.row (List.replicate L.length (.int .i64 0)))):=fun nid H=>by
  have hb:L.length*8≤lim:=by unfold lim;omega
  have hb2:L.length≤lim:=by unfold lim;omega
  simp only[qd,yF,zAQ,wL,zGt,Int.toNat_natCast];rw[if_pos (by simp[D.notTuple,D.cells,hb,hb2])]
  have:∀m,zA6 m (D.int .i64 0).cells=List.replicate m (.int .i64 0):=fun m=>by
   unfold zA6;simp only[D.cells]
   induction m with
   |zero=>rfl
   |succ m ih=>rw[List.replicate_succ,List.flatten_cons,ih,List.replicate_succ];rfl
  simp only[if_true,this]
 obtain⟨G2,C,hG2,r2,E2,n2,hC⟩:∃G C,G1.new B (.row (List.replicate L.length (.int .i64 0)))=G∧G.at' B=some (.row (List.replicate L.length (.int .i64 0)))∧Ext G1 G∧G.next=C∧B<C:=⟨_,_,rfl,zJ _ _ _,(Ext.refl G1).new (by omega) _,rfl,by rw[←n1,zD];omega⟩
 repeat' first|simp only[go_sem,zNY, *]|apply bc<;>intro hc
 have hgn:∀cs,(G2.set B (.row cs)).next=G2.next:=fun cs=>rfl;refine z7 (fun j fr h=>fr 2= .iptr [td,od,a,b,e,p] 0∧fr 4= .ptr g.next 0∧fr 5=r∧fr 6= .rs B 1 0 L.length∧fr 7= .int .i64 ((L.length:Int)-1-j)∧fr 1= .int .i64 (((zEY (L.drop (L.length-j)) n).2:Nat):Int)∧h=G2.set B (.row (List.replicate (L.length-j) (.int .i64 0)++dI (zEY (L.drop (L.length-j)) n).1))) L.length ?_ ?_
 ·have h0:D.int .i64 (n:Int)= .int .i64 (((zEY (L.drop (L.length-0)) n).2:Nat):Int)∧G2=G2.set B (.row (List.replicate (L.length-0) (.int .i64 0)++dI (zEY (L.drop (L.length-0)) n).1)):=by
   rw[Nat.sub_zero,List.drop_length];exact⟨rfl,by rw[show dI (zEY [] n).1= [] from rfl,List.append_nil,zBg r2]⟩
  have h1:IntKind.i64.wrap ((L.length:Int)-1)=(L.length:Int)-1- ((0:Nat):Int):=by rw[zV (by omega) (by omega)];omega
  clear hmk;simp only[go_sem,zNY,true_and,and_true,Int.ofNat_zero];exact⟨congrArg (D.int .i64) h1,h0⟩
 ·rintro j fr h2 hj ⟨f2,f4,f5,f6,f7,f1,rfl⟩;by_cases hlt:j<L.length
  ·obtain⟨i,hi⟩:∃i,L.length=i+1+j:=⟨L.length-1-j,by omega⟩;have e1:((L.length:Int)-1- (j:Int))=(i:Int):=by omega
   rw[e1] at f7;have e2:decide ((i:Int)≥0)=true:=decide_eq_true (by omega);have e3:IntKind.i64.wrap ((i:Int)-1)=(L.length:Int)-1- ((j+1:Nat):Int):=by rw[zV (by omega) (by omega)];omega
   have hiL:i<L.length:=by omega
   have a1:=zCU hsl (show i<(zD8 L).length by omega);have hni:(zD8 L)[i]'(by omega)=((L[i]:Nat):Int):=by simp[zD8]
   rw[hni] at a1;have hp:=hpos _ (List.getElem_mem hiL);have hd:zEY (L.drop (L.length- (j+1))) n=(((zEY (L.drop (L.length-j)) n).2%L[i])::(zEY (L.drop (L.length-j)) n).1,(zEY (L.drop (L.length-j)) n).2/L[i]):=by
    have:L.drop i=L[i]::L.drop (i+1):=List.drop_eq_getElem_cons hiL;rw[show L.length- (j+1)=i by omega,this,show L.length-j=i+1 by omega];rfl
   have hrs:L.length-j=i+1:=by omega
   have hrs2:L.length- (j+1)=i:=by omega
   have hm:=Nat.le_trans (zUi (L.drop (L.length-j)) n) hn;generalize L[i]=y at *
   generalize zEY (L.drop (L.length-j)) n=dd at *
   rw[hrs];have a3:=zh (P:=Tryz.prog) (sz:=1) (id:=B) yF wL (k:= .i64) hiL;rw[Nat.mul_one] at a3;have hrow2:(G2.set B (.row (List.replicate (i+1) (.int .i64 0)++dI dd.1))).at' B=some (.row (List.replicate (i+1) (.int .i64 0)++dI dd.1)):=zC _ _ _;have hst:=za (P:=Tryz.prog) (t:=3) (off:=i) (x:= .int .i64 ((dd.2%y:Nat):Int)) hrow2 wL (by simp;omega) rfl rfl;rw[zW1,zEL] at hst;have b0:¬(y:Int)=0:=by omega
   have b1:(dd.2:Int).tmod (y:Int)=((dd.2%y:Nat):Int):=by rw[Int.tmod_eq_emod_of_nonneg (by omega)];rfl
   have b2:(dd.2:Int).tdiv (y:Int)=((dd.2/y:Nat):Int):=by rw[Int.tdiv_eq_ediv_of_nonneg (by omega)];rfl
   have b3:((y:Int)=0)=False:=by simp;omega
   have b4:IntKind.i64.wrap (((dd.2/y:Nat):Int))=((dd.2/y:Nat):Int):=by
    have:=Nat.div_le_self dd.2 y;generalize dd.2/y=q at this⊢;rw[zV (by omega) (by omega)]
   have hrem:wr .rem .i64 .i64 (dd.2:Int) (y:Int)=some (.int .i64 ((dd.2%y:Nat):Int)):=by simp only[wr,zLd,if_true];rw[if_neg b0,b1]
   have hquo:wr .quo .i64 .i64 (dd.2:Int) (y:Int)=some (.int .i64 ((dd.2/y:Nat):Int)):=by simp only[wr,zLd,if_true];rw[if_neg b0,b2,b4]
   clear b0 b1 b2 b3 b4;have hres:G2.set B (.row (List.replicate i (.int .i64 0)++ .int .i64 ((dd.2%y:Nat):Int)::dI dd.1))=G2.set B (.row (List.replicate (L.length- (j+1)) (.int .i64 0)++dI (zEY (L.drop (L.length- (j+1))) n).1)):=by
    rw[hd,hrs2];rfl
   have hres2:((dd.2/y:Nat):Int)=(((zEY (L.drop (L.length- (j+1))) n).2:Nat):Int):=by rw[hd]
   clear hd hrs hrs2 hpos hp hr hrl hni hsl ht ho hmk hQ hm hi hj
   repeat' first|simp only[go_sem,zNY, *]|apply bc<;>intro hc
   refine zQ (by kernel_rfl) ?_
   repeat' first|simp only[go_sem,zNY, *]|apply bc<;>intro hc
  ·have hje:j=L.length:=by omega
   subst hje;have e1:((L.length:Int)-1- ((L.length:Nat):Int))= -1:=by omega
   rw[e1] at f7;have e2:decide ((-1:Int)≥0)=false:=rfl;have hd0:L.drop (L.length-L.length)=L:=by rw[Nat.sub_self,List.drop_zero]
   have hr0:List.replicate (L.length-L.length) (D.int .i64 0)= []:=by rw[Nat.sub_self];rfl
   rw[hd0,hr0,List.nil_append];clear f1 hd0 hr0 hj hlt e1;have hdl:(zEY L n).1.length=L.length:=zQZ L n;have hdlt:=fun i (hi:i<L.length)=>zOo (n:=n) hpos i hi;generalize(zEY L n).1=ds at *
   have r3:(G2.set B (.row (dI ds))).at' B=some (.row (dI ds)):=zC _ _ _;have hn3:(G2.set B (.row (dI ds))).next=C:=n2;have E3:Ext g (G2.set B (.row (dI ds))):=(E1.trans E2).set (by omega) _;have rA:(G2.set B (.row (dI ds))).at' g.next=some (.row [.nilsl, .nilsl]):=by rw[zE (by omega),E2.2 _ (by omega)];exact r1
   clear hgn hnl hll r2 hG2 hmk hG1;generalize G2.set B (.row (dI ds))=G3 at *
   clear r1 E1 E2 n1 n2;obtain⟨G4,hG4,r4,E4,n4⟩:∃G,G3.new C (.row [.nilsl, .nilsl])=G∧G.at' C=some (.row [.nilsl, .nilsl])∧Ext G3 G∧C<G.next:=⟨_,rfl,zJ _ _ _,(Ext.refl G3).new (by omega) _,by rw[←hn3,zD];omega⟩;have hd6:∀i,i<L.length→(dI ds)[i]? =some (.int .i64 ((ds.getD i 0:Nat):Int)):=fun i hi=>by simp[dI,show i<ds.length by omega]
   repeat' first|simp only[go_sem,zNY, *]|apply bc<;>intro hc
   have hct:(ym t ds).length=t.length:=by simp[ym]
   have hget:∀i (hi:i<t.length),(ym t ds).take (i+1)=(ym t ds).take i++ [t[i].getD (ds.getD i 0) []]:=fun i hi=>by
    rw[List.take_succ_eq_append_getElem (by rw[hct];exact hi)];simp[ym,hi]
   have hLt:∀i (hi:i<t.length),ds.getD i 0<t[i].length:=fun i hi=>by
    have:=hdlt i (by omega);have e:L[i]'(by omega)=t[i].length:=by
     simp only[←hLL,zDp];rw[List.getElem_append_left (by simpa using hi),List.getElem_map]
    rwa [e] at this
   have hnx:∀h:Heap,Ext G3 h→h.at' B=some (.row (dI ds)):=fun h he=>by rw[he.2 _ (by omega)];exact r3
   refine zF (fun i fr h=>∃s,fr 2= .iptr [td,od,a,b,e,p] 0∧fr 4= .ptr g.next 0∧fr 6= .rs B 1 0 L.length∧fr 8= .ptr C 0∧fr 40=td∧fr 41= .int .i64 (t.length:Int)∧fr 42= .int .i64 (i:Int)∧Own G3 h 1 (yJ (((ym t ds).take i).map mkA)) s∧h.at' C=some (.row [s, .nilsl])∧C<h.next∧(i=0→s= .nilsl)) t.length (by omega) ?_ ?_ ?_
   ·have h0:=Own.start E4 1;simp only[go_sem,zNY,true_and,and_true,Int.ofNat_zero];exact⟨.nilsl,f2,f4,f6,h0,r4,n4,rfl⟩
   ·rintro i fr h2 hlt ec ew ⟨s,f2,f4,f6,f8,f40,f41,f42,hown,hrC,hnC,hz⟩;have a1:=zOl ht hlt;have hx:=hr _ (List.getElem_mem hlt);have hdi:=hLt i hlt;have hrB:=hnx h2 hown.1;have hiL:i<L.length:=by omega
    have a2:=zh (P:=Tryz.prog) (sz:=1) (id:=B) yF wL (k:= .i64) hiL;rw[Nat.mul_one] at a2;have c2:=hd6 i hiL;have a3:=zEN (l:=t[i].map mkA) (d:=zNb t[i]) (zX.mk .no) (i:=ds.getD i 0) (by rw[List.length_map];exact hdi);rw[List.getElem_map] at a3;rw[hget i hlt];have hgd:t[i].getD (ds.getD i 0) []=t[i][ds.getD i 0]:=by rw[List.getD_eq_getElem?_getD (l:=t[i]),List.getElem?_eq_getElem hdi];rfl
    rw[hgd];obtain⟨k1,k2⟩:=hx.2.ts _ (List.getElem_mem hdi);have had:(zNb t[i]).notTuple=true:=rfl;generalize t[i][ds.getD i 0]=ts at *
    generalize zNb t[i]=x at *
    generalize ds.getD i 0=di at *
    have hcl:=zUj k1 (by omega);have hone:=fun nid h=>zFv (mkA ts).d nid h rfl rfl rfl;have hcl2:(ym t ds).take i=(ym t ds).take i:=rfl;have hpl:((ym t ds).take i).length=i:=by rw[List.length_take];omega
    generalize(ym t ds).take i=pre at *
    obtain⟨w1,w2,w3⟩:=hown.flat;clear hQ hget hLt hr hdlt hd6 hgd hnx hcl2 hz
    repeat' first|simp only[go_sem,zNY, *]|apply bc<;>intro hc
    refine zz h2 [(0, .no,true),(1, .st,true),(2, .no,true),(3, .no,true),(4, .no,true),(5, .no,true),(6, .no,true),(7, .no,true),(8, .no,true),(9, .no,true),(10, .no,true),(11, .no,false),(12, .no,false),(13, .no,false)] (by kernel_rfl) (by kernel_rfl) (fun _ _ e=>e) ?_
    repeat' first|simp only[go_sem,zNY, *]|apply bc<;>intro hc|(refine zA.mono (hcl _) ?_;rintro r h ⟨hq,rfl⟩)
    subst hq;refine hown.appK (ys:=yJ [mkA ts]) qh zED zAF (by omega) (zBi _) (by simp[yJ]) (by rw[yL,List.length_map,hpl,zBO];unfold lim;simp[yJ];omega) (by rw[yL,List.length_map,hpl];unfold lim;simp[yJ];omega) fun d' h' ho' hn' hk'=> ?_;have hrC':h'.at' C=some (.row [s, .nilsl]):=by rw[hk' C hnC (by rw[hrC];intro q;cases q)];exact hrC
    obtain⟨v1,v2,v3⟩:=ho'.flat;have hst:=za (P:=Tryz.prog) (t:=39) (off:=0) (x:=d') hrC' zMD (by simp) v2 v1;rw[List.set_cons_zero] at hst;have hres:Own G3 (h'.set C (.row [d', .nilsl])) 1 (yJ ((pre++ [ts]).map mkA)) d':=by
     have:yJ ((pre++ [ts]).map mkA)=yJ (pre.map mkA)++yJ [mkA ts]:=by simp[yJ]
     rw[this];exact ho'.setK (by omega) hrC' (fun q=>by cases q) _
    have hres2:(h'.set C (.row [d', .nilsl])).at' C=some (.row [d', .nilsl]):=zC _ _ _;have hres3:C<(h'.set C (.row [d', .nilsl])).next:=Nat.lt_of_lt_of_le hnC hn';generalize h'.set C (.row [d', .nilsl])=h5 at *
    clear ho' hown hk'
    repeat' first|simp only[go_sem,zNY, *]|apply bc<;>intro hc
    exact⟨d',hres,rfl⟩
   ·rintro fr h2 ec ⟨s,f2,f4,f6,f8,f40,f41,f42,hown,hrC,hnC,hz⟩;have htk:(ym t ds).take t.length=ym t ds:=by rw[←hct,List.take_length]
    rw[htk] at hown;have hco:(zAl c t.length o.length ds).length=o.length:=by simp[zAl]
    have hLo:∀i (hi:i<o.length),ds.getD (t.length+i) 0<c.ls.length:=fun i hi=>by
     have:=hdlt (t.length+i) (by omega);have e:L[t.length+i]'(by omega)=c.ls.length:=by
      simp only[←hLL,zDp];rw[List.getElem_append_right (by simp),List.getElem_map]
     rwa [e] at this
    have hget2:∀i (hi:i<o.length),(zAl c t.length o.length ds).take (i+1)=(zAl c t.length o.length ds).take i++ [(c.ls[ds.getD (t.length+i) 0]'(hLo i hi)).name]:=fun i hi=>by
     rw[List.take_succ_eq_append_getElem (by rw[hco];exact hi)];congr 2;simp only[zAl,List.getElem_map,List.getElem_range];rw[List.getD_eq_getElem?_getD,List.getElem?_map,List.getElem?_eq_getElem (hLo i hi)];rfl
    have hown2:Own2 G3 h2 1 (yJ ((ym t ds).map mkA)) s 1 (yP []) .nilsl:=⟨hown,⟨hown.1, .inl ⟨rfl,rfl⟩,fun i q=>q.elim⟩,fun i _ q=>q.elim⟩;have htl2:=hct;clear htk hget hown hLt hr hdlt hct;generalize ym t ds=T at *
    repeat' first|simp only[go_sem,zNY, *]|apply bc<;>intro hc
    refine zF (fun i fr h=>∃s2,fr 2= .iptr [td,od,a,b,e,p] 0∧fr 4= .ptr g.next 0∧fr 6= .rs B 1 0 L.length∧fr 8= .ptr C 0∧fr 62=od∧fr 63= .int .i64 (o.length:Int)∧fr 64= .int .i64 (i:Int)∧Own2 G3 h 1 (yJ (T.map mkA)) s 1 (yP ((zAl c t.length o.length ds).take i)) s2∧h.at' C=some (.row [s,s2])∧C<h.next∧(i=0→s2= .nilsl)) o.length (by omega) ?_ ?_ ?_
    ·simp only[go_sem,zNY,true_and,and_true,Int.ofNat_zero];exact⟨.nilsl,f2,f4,f6,f8,hown2,hrC,hnC,rfl⟩
    ·clear hown2 hrC hnC;rintro i fr h2 hlt ec ew ⟨s2,f2,f4,f6,f8,f62,f63,f64,hown,hrC,hnC,hz2⟩;have hdi:=hLo i hlt;have hrB:=hnx h2 hown.a.1;have hiL:t.length+i<L.length:=by omega
     have ew3:IntKind.i64.wrap (((t.length:Nat):Int)+((i:Nat):Int))=((t.length+i:Nat):Int):=by rw[zV (by omega) (by omega)];omega
     have a2:=zh (P:=Tryz.prog) (sz:=1) (id:=B) yF wL (k:= .i64) hiL;rw[Nat.mul_one] at a2;have c2:=hd6 _ hiL;have a3:=wj hca hdi;rw[hget2 i hlt];generalize c.ls[ds.getD (t.length+i) 0]=x at *
     generalize ds.getD (t.length+i) 0=di at *
     simp only[Lic.cells] at a3;have hpl:((zAl c t.length o.length ds).take i).length=i:=by rw[List.length_take];omega
     generalize(zAl c t.length o.length ds).take i=pre at *
     obtain⟨w1,w2,w3⟩:=hown.b.flat;have hone:=zEJ x.name;have hpl2:pre.length≤i:=by omega
     clear hQ hget2 hLo hd6 hnx hpl hz hz2
     repeat' first|simp only[go_sem,zNY, *]|apply bc<;>intro hc
     refine zQ (by kernel_rfl) ?_
     repeat' first|simp only[go_sem,zNY, *]|apply bc<;>intro hc
     refine hown.swap.appK (zs:=yP [x.name]) yj zHg zAh (by omega) zGy (by simp[yP]) (by rw[zq,zBe];unfold lim;simp[yP];omega) (by rw[zq];unfold lim;simp[yP];omega) fun d' h' ho' hn' hk'=> ?_;have hrC':h'.at' C=some (.row [s,s2]):=by rw[hk' C hnC (by rw[hrC];intro q;cases q)];exact hrC
     obtain⟨v1,v2,v3⟩:=ho'.a.flat;have hst:=za (P:=Tryz.prog) (t:=40) (off:=1) (x:=d') hrC' zXf (by simp) v2 v1;rw[List.set_cons_succ,List.set_cons_zero] at hst;have hres:Own2 G3 (h'.set C (.row [s,d'])) 1 (yJ (T.map mkA)) s 1 (yP (pre++ [x.name])) d':=by
      have:yP (pre++ [x.name])=yP pre++yP [x.name]:=by simp[yP]
      rw[this];exact ho'.swap.setK (by omega) hrC' (fun q=>by cases q) _
     have hres2:(h'.set C (.row [s,d'])).at' C=some (.row [s,d']):=zC _ _ _;have hres3:C<(h'.set C (.row [s,d'])).next:=Nat.lt_of_lt_of_le hnC hn';generalize h'.set C (.row [s,d'])=h5 at *
     clear ho' hown hk'
     repeat' first|simp only[go_sem,zNY, *]|apply bc<;>intro hc
     exact⟨d',hres,rfl⟩
    ·clear hown2 hrC hnC;rintro fr h2 ec ⟨s2,f2,f4,f6,f8,f62,f63,f64,hown,hrC,hnC,hz2⟩;have htk:(zAl c t.length o.length ds).take o.length=zAl c t.length o.length ds:=List.take_of_length_le (by omega);rw[htk] at hown;have hrA2:h2.at' g.next=some (.row [.nilsl, .nilsl]):=by rw[hown.a.1.2 _ (by omega)];exact rA
     obtain⟨v1,v2,v3⟩:=hown.a.flat;obtain⟨w1,w2,w3⟩:=hown.b.flat;have hst:zU Tryz.prog 42 (.ptr g.next 0) (.agg [s,s2]) h2=some (h2.set g.next (.row [s,s2])):=yD hrA2 zD0 rfl (by simp) (by simp[v1,w1]);have hv2:∀a b:D,zR true 2 [a,b] 0=some (.agg [a,b]):=fun a b=>zB rfl (by omega);have hf1:=hown.a.2.1.fin (zLI T);have hf2:=hown.b.2.1.fin (qL (l:=zAl c t.length o.length ds));have hq:=hQ (.agg [s,s2]) (h2.set g.next (.row [s,s2])) ⟨(E3.trans hown.a.1).set (Nat.le_refl _) _,by
      simp only[yI,yA,below,zb];exact⟨zy (Nat.zero_le _) _ hf1.1,zy (Nat.zero_le _) _ hf2.1,trivial⟩,yI s,yI s2,by simp only[yI,yA],⟨hf1.2,fun q=>by
       have e:T= []:=by cases T with
        |nil=>rfl
        |cons x xs=>cases q
       have:s= .nilsl:=hz (by rw[←htl2,e];rfl);rw[this];rfl⟩,⟨hf2.2,fun q=>by
       have e:zAl c t.length o.length ds= []:=List.map_eq_nil_iff.1 q
       have:s2= .nilsl:=hz2 (by rw[←hco,e];rfl);rw[this];rfl⟩⟩
     have hat:=zC h2 g.next (.row [s,s2]);clear hQ hown hf1 hf2 hget2 hLo hd6 hnx hz hz2
     repeat' first|simp only[go_sem,zNY, *]|apply bc<;>intro hc
theorem zFL {c:Cat} :∀ {l:List Fac} {t:List (List (List Trm))} {o:List (List UInt8)},(zG6 c l t o).1.length≤t.length+l.length∧(zG6 c l t o).2.1.length≤o.length+l.length
 | [],t,o=>by rw[zG6];simp
 |f::fs,t,o=>by
  rw[zG6];split
  ·split
   ·have:=zFL (c:=c) (l:=fs) (t:=t++ [ofL c f.e]) (o:=o);simp only[List.length_append,List.length_cons,List.length_nil] at this⊢;omega
   ·simp
  ·split
   ·split
    ·have:=zFL (c:=c) (l:=fs) (t:=t) (o:=o);simp only[List.length_cons];omega
    ·have:=zFL (c:=c) (l:=fs) (t:=t) (o:=o++ [f.out]);simp only[List.length_append,List.length_cons,List.length_nil] at this⊢;omega
   ·have:=zFL (c:=c) (l:=fs) (t:=t) (o:=o);simp only[List.length_cons];omega
theorem zDh {c:Cat} {l:List Fac} :(zI c l).1.length≤l.length∧(zI c l).2.1.length≤l.length:=by
 unfold zI;split
 ·simp
 ·have:=zFL (c:=c) (l:=l) (t:=[]) (o:=[]);simpa using this
def zLP (c:Cat) (l:List Fac):Nat:=zYc (zDp c (zI c l).1 (zI c l).2.1)
def wn (c:Cat) (l:List Fac):Int:=if(!((zI c l).2.2==0))=true then(zI c l).2.2 else if decide ((zLP c l:Int)>4096)=true then 10 else 0
abbrev zLc:List D:=[.nilsl, .nilsl, .nilsl, .nilsl, .nilsl, .nilsl]
theorem zOp {c:Cat} {a b e p:D} (h:qX c (.agg [a,b,e,p])):(a.flat=true∧b.flat=true)∧e.flat=true∧p.flat=true:=by
 obtain⟨_,_,_,_,hce,ha,hb,he,hp⟩:=h;cases hce;exact⟨⟨(zK ha).2.2,(zK hb).2.2⟩,(zK he).2.2,(zK hp).2.2⟩
theorem zUk {c:Cat} {a b e p:D} (h:qX c (.agg [a,b,e,p])):(a.cells= [a]∧b.cells= [b])∧e.cells= [e]∧p.cells= [p]:=by
 obtain⟨_,_,_,_,hce,ha,hb,he,hp⟩:=h;cases hce;exact⟨⟨(zK ha).1,(zK hb).1⟩,(zK he).1,(zK hp).1⟩
set_option maxHeartbeats 4000000 in
theorem zND {c:Cat} {d x:D} (hc:qX c d) (hs:c.Sm) {l:List Fac} (hx:zX 12 (zIH l) x) (hl:l.length≤65536) (hok:∀f∈l,f.Ok) (g:Heap):
  zA Tryz.prog 36 [d,x] g fun r h'=>Ext g h'∧∃cs,r= .tuple [.agg cs, .int .i64 (wn c l)]∧(cs.length=6∧cs.all D.flat=true)∧(wn c l=0→zLO c (zI c l).1 (zI c l).2.1 cs):=by
 have hva:=zQX hc hs hx (by omega) hok;obtain⟨vl1,vl2⟩:=zDh (c:=c) (l:=l);have hto:=fun cs (hk:zLO c (zI c l).1 (zI c l).2.1 cs)=>zOn hk hs (by omega) (by omega) fun a ha=>Nat.le_trans (zBV a ha).1 (by omega);have hcd:=hc;obtain⟨ca,cb,ce,cp,rfl,_,_,_,_⟩:=hc;obtain⟨⟨F1,F2⟩,F3,F4⟩:=zOp hcd;obtain⟨⟨D1,D2⟩,D3,D4⟩:=zUk hcd;have hv4:∀a b c e:D,zR true 4 [a,b,c,e] 0=some (.agg [a,b,c,e]):=fun a b c e=>zB rfl (by omega);have h6:=zUh;refine zA.post fun Q hQ=> ?_;have hb0:yG Tryz.prog 95 []=some (.agg zLc):=by simp[yG,zJd,zPP,qZ,D.notTuple,D.cells]
 obtain⟨G,hG,r0,E0,n0⟩:∃G,g.new g.next (.row zLc)=G∧G.at' g.next=some (.row zLc)∧Ext g G∧g.next<G.next:=⟨_,rfl,zJ _ _ _,(Ext.refl g).new (Nat.le_refl _) _,by rw[zD];omega⟩;have hst0:∀cs:List D,cs.length=6→cs.all D.flat=true→zU Tryz.prog 95 (.ptr g.next 0) (.agg cs) G=some (G.set g.next (.row cs)):=fun cs h1 h2=>yD r0 (by rw[zGI,h1]) (by rw[h1];rfl) (by omega) h2;refine zA.of_fn (g:=zWA) mix Tryz.func36 zj2 rfl rfl ?_;simp only[Tryz.f36,gJ]
 repeat' first|simp only[go_sem,zf7, *]|apply bc<;>intro hc
 refine(hva _).mono ?_;rintro r h ⟨hq,td,od,rfl,htd,hod⟩;clear hva;cases q1:((zI c l).2.2==0) with
 |false=>
  have hR:wn c l=(zI c l).2.2:=by unfold wn;rw[q1];rfl
  have hst:=hst0 zLc rfl rfl;have hat:=zC G g.next (.row zLc);have hq0:=hQ (.tuple [.agg zLc, .int .i64 (zI c l).2.2]) (G.set g.next (.row zLc)) ⟨E0.set (Nat.le_refl _) _,zLc,by rw[hR],⟨rfl,rfl⟩,fun e=>by rw[hR] at e;rw[e] at q1;exact absurd q1 (by decide)⟩;clear hQ hR hto hst0
  repeat' first|simp only[go_sem,zf7, *]|apply bc<;>intro hc
 |true=>
 have hbu:yG Tryz.prog 95 [(0,td),(1,od),(2, .agg [ca,cb,ce,cp])]=some (.agg [td,od,ca,cb,ce,cp]):=by
  rcases htd.isSl with⟨rfl,_⟩ | ⟨_,rfl⟩ <;>rcases hod.isSl with⟨rfl,_⟩ | ⟨_,rfl⟩ <;>simp[yG,zJd,zPP,qZ,yW,D.cells,D.notTuple]
 have hk:zLO c (zI c l).1 (zI c l).2.1 [td,od,ca,cb,ce,cp]:=⟨_,_,_,_,_,_,rfl,htd.isSl,hod.isSl,hcd⟩;have hto2:=hto _ hk;have hfl:([td,od,ca,cb,ce,cp]:List D).all D.flat=true:=by simp[(zK htd.isSl).2.2,(zK hod.isSl).2.2,F1,F2,F3,F4]
 have hstN:zU Tryz.prog 95 (.ptr G.next 0) (.agg [td,od,ca,cb,ce,cp]) (G.new G.next (.row zLc))=some (G.new G.next (.row [td,od,ca,cb,ce,cp])):=zj zGI (by omega) rfl rfl hfl;obtain⟨H,hH,r1,E1,n1,rA⟩:∃H,G.new G.next (.row [td,od,ca,cb,ce,cp])=H∧H.at' G.next=some (.row [td,od,ca,cb,ce,cp])∧Ext G H∧g.next<H.next∧H.at' g.next=some (.row zLc):=⟨_,rfl,zJ _ _ _,(Ext.refl G).new (Nat.le_refl _) _,by rw[zD];omega,by rw[zG (by omega)];exact r0⟩;have hTot:zYc (zDp c (zI c l).1 (zI c l).2.1)=zLP c l:=rfl;rw[hTot] at hto2;clear hto hst0;cases q2:decide ((zLP c l:Int)>4096) with
 |true=>
  have hR:wn c l=10:=by unfold wn;rw[q1,q2];rfl
  have hst:zU Tryz.prog 95 (.ptr g.next 0) (.agg zLc) H=some (H.set g.next (.row zLc)):=yD rA zGI rfl (by decide) rfl;have hat:=zC H g.next (.row zLc);have hq0:=hQ (.tuple [.agg zLc, .int .i64 10]) (H.set g.next (.row zLc)) ⟨(E0.trans E1).set (Nat.le_refl _) _,zLc,by rw[hR],⟨rfl,rfl⟩,fun e=>by rw[hR] at e;exact absurd e (by decide)⟩;clear hQ hR hk hTot
  repeat' first|simp only[go_sem,zf7, *]|apply bc<;>intro hc|(refine zA.mono (hto2 _) ?_;rintro r h ⟨hq2,rfl⟩)
 |false=>
  have hR:wn c l=0:=by unfold wn;rw[q1,q2];rfl
  have hst:zU Tryz.prog 95 (.ptr g.next 0) (.agg [td,od,ca,cb,ce,cp]) H=some (H.set g.next (.row [td,od,ca,cb,ce,cp])):=yD rA zGI rfl (by simp) hfl;have hat:=zC H g.next (.row [td,od,ca,cb,ce,cp]);have hq0:=hQ (.tuple [.agg [td,od,ca,cb,ce,cp], .int .i64 0]) (H.set g.next (.row [td,od,ca,cb,ce,cp])) ⟨(E0.trans E1).set (Nat.le_refl _) _,_,by rw[hR],⟨rfl,hfl⟩,fun _=>hk⟩;clear hQ hR hk hTot
  repeat' first|simp only[go_sem,zf7, *]|apply bc<;>intro hc|(refine zA.mono (hto2 _) ?_;rintro r h ⟨hq2,rfl⟩)
def zNE (c:Cat) (l:List Fac):D:=if(wn c l==0)=true then .tuple [.int .i64 (zLP c l:Int), .int .i64 0] else .tuple [.int .i64 0, .int .i64 (wn c l)]
set_option maxHeartbeats 4000000 in
theorem zaj {c:Cat} {d x:D} (hc:qX c d) (hs:c.Sm) {l:List Fac} (hx:zX 12 (zIH l) x) (hl:l.length≤65536) (hok:∀f∈l,f.Ok) (g:Heap):
  zA Tryz.prog 10 [d,x] g fun r h'=>h'=g∧r=zNE c l:=by
 have hcn:=zND hc hs hx hl hok;obtain⟨vl1,vl2⟩:=zDh (c:=c) (l:=l);have hto:=fun cs (hk:zLO c (zI c l).1 (zI c l).2.1 cs)=>zOn hk hs (by omega) (by omega) fun a ha=>Nat.le_trans (zBV a ha).1 (by omega);have hTot:zYc (zDp c (zI c l).1 (zI c l).2.1)=zLP c l:=rfl;rw[hTot] at hto;clear hTot;obtain⟨ca,cb,ce,cp,rfl,_,_,_,_⟩:=hc;have hv4:∀a b c e:D,zR true 4 [a,b,c,e] 0=some (.agg [a,b,c,e]):=fun a b c e=>zB rfl (by omega);refine zA.pure (by kernel_rfl) fun hok'=> ?_;refine zA.post fun Q hQ=> ?_;have hQ2:∀h',Ext g h'→Q (zNE c l) h':=fun h' he=>hQ _ _ ⟨he,by unfold zNE;split<;>simp[below,zb],rfl⟩
 clear hQ;unfold zNE at hQ2;refine zA.of_fn (g:=zZe) mix Tryz.func10 zkl rfl rfl ?_;simp only[Tryz.f10,gJ]
 repeat' first|simp only[go_sem,zhP, *]|apply bc<;>intro hc
 refine(hcn _).mono ?_;rintro r h ⟨hE,cs,rfl,⟨c6,cf⟩,hk⟩;clear hcn;have hstN:zU Tryz.prog 95 (.ptr h.next 0) (.agg cs) (h.new h.next (.row zLc))=some (h.new h.next (.row cs)):=zj zGI (by omega) rfl c6 cf;obtain⟨H,hH,r1,E1⟩:∃H,h.new h.next (.row cs)=H∧H.at' h.next=some (.row cs)∧Ext h H:=⟨_,rfl,zJ _ _ _,(Ext.refl h).new (Nat.le_refl _) _⟩;have hq:=hQ2 H (hE.trans E1);have hld:zAv Tryz.prog 95 (.ptr h.next 0) H=some (.agg cs):=zC6 r1 zXh (by rw[zGI,c6]) (by omega);have hvp:zR true 6 cs 0=some (.agg cs):=zB c6 (by omega);clear hQ2;cases q1:(wn c l==0) with
 |false=>
  rw[if_neg (by rw[q1];exact Bool.false_ne_true)] at hq;clear hk hto
  repeat' first|simp only[go_sem,zhP, *]|apply bc<;>intro hc
 |true=>
  rw[if_pos q1] at hq;have ht:=hto cs (hk (by simpa using q1));clear hk hto
  repeat' first|simp only[go_sem,zhP, *]|apply bc<;>intro hc|(refine zA.mono (ht _) ?_;rintro r h ⟨rfl,rfl⟩)
def zCk (c:Cat) (l:List Fac) (n:Int):Int:=if(!(wn c l==0))=true then wn c l else if(decide (n<0)||decide (n≥(zLP c l:Int)))=true then 3 else 0
def zW3 (c:Cat) (l:List Fac) (n:Nat):List (List Trm):=ym (zI c l).1 (zEY (zDp c (zI c l).1 (zI c l).2.1) n).1
def zW4 (c:Cat) (l:List Fac) (n:Nat):List (List UInt8):=zAl c (zI c l).1.length (zI c l).2.1.length (zEY (zDp c (zI c l).1 (zI c l).2.1) n).1
theorem zfE {c:Cat} {l:List Fac} (h:wn c l=0):zLP c l≤4096:=by
 unfold wn at h;split at h
 ·rename_i q;rw[h] at q;exact absurd q (by decide)
 ·split at h
  ·exact absurd h (by decide)
  ·rename_i q;simp at q;omega
theorem zQa {l:List Nat} {n:Nat} (h:n<zYc l):∀r∈l,0<r:=fun r hr=>by
 unfold zYc at h;split at h
 ·omega
 ·rename_i q;rcases Nat.eq_zero_or_pos r with e|e
  ·subst e;exact absurd (List.any_eq_true.2 ⟨0,hr,rfl⟩) q
  ·exact e
set_option maxHeartbeats 4000000 in
theorem ziw {c:Cat} {d x:D} (hc:qX c d) (hs:c.Sm) {l:List Fac} (hx:zX 12 (zIH l) x) (hl:l.length≤65536) (hok:∀f∈l,f.Ok) (n:Int) (g:Heap):
  zA Tryz.prog 11 [d,x, .int .i64 n] g fun r h'=>h'=g∧∃td od,r= .tuple [.agg [td,od], .int .i64 (zCk c l n)]∧(zCk c l n=0→zb3 1 (yJ ((zW3 c l n.toNat).map mkA)) td∧zb3 1 (yP (zW4 c l n.toNat)) od)∧(zCk c l n≠0→td= .nilsl∧od= .nilsl):=by
 have hcn:=zND hc hs hx hl hok;obtain⟨vl1,vl2⟩:=zDh (c:=c) (l:=l);have hto:=fun cs (hk:zLO c (zI c l).1 (zI c l).2.1 cs)=>zOn hk hs (by omega) (by omega) fun a ha=>Nat.le_trans (zBV a ha).1 (by omega);have hTot:zYc (zDp c (zI c l).1 (zI c l).2.1)=zLP c l:=rfl;rw[hTot] at hto;have hch:=fun cs (hk:zLO c (zI c l).1 (zI c l).2.1 cs) (m:Nat) (hm:m<zLP c l) (hm2:m≤1048576)=>zW2 hk hs (by omega) (by omega) zBV (zQa hm) hm2;obtain⟨ca,cb,ce,cp,rfl,_,_,_,_⟩:=hc;have hv4:∀a b c e:D,zR true 4 [a,b,c,e] 0=some (.agg [a,b,c,e]):=fun a b c e=>zB rfl (by omega)
 have hv2:∀a b:D,zR true 2 [a,b] 0=some (.agg [a,b]):=fun a b=>zB rfl (by omega);refine zA.pure (by kernel_rfl) fun hok'=> ?_;refine zA.post fun Q hQ=> ?_;obtain⟨E,hE⟩:∃E,zCk c l n=E:=⟨_,rfl⟩;rw[hE] at hQ;unfold zCk at hE;have hb0:yG Tryz.prog 42 []=some (.agg [.nilsl, .nilsl]):=by simp[yG,zJc,zPO,qZ,D.notTuple,D.cells]
 obtain⟨G,hG,r0,E0,n0⟩:∃G,g.new g.next (.row [.nilsl, .nilsl])=G∧G.at' g.next=some (.row [.nilsl, .nilsl])∧Ext g G∧g.next<G.next:=⟨_,rfl,zJ _ _ _,(Ext.refl g).new (Nat.le_refl _) _,by rw[zD];omega⟩;refine zA.of_fn (g:=zVz) mix Tryz.func11 zjp rfl rfl ?_;simp only[Tryz.f11,gJ]
 repeat' first|simp only[go_sem,zbl, *]|apply bc<;>intro hc
 refine(hcn _).mono ?_;rintro r h ⟨hX,cs,rfl,⟨c6,cf⟩,hk⟩;clear hcn;have hstN:zU Tryz.prog 95 (.ptr h.next 0) (.agg cs) (h.new h.next (.row zLc))=some (h.new h.next (.row cs)):=zj zGI (by omega) rfl c6 cf;obtain⟨H,hH,r1,E1,rA⟩:∃H,h.new h.next (.row cs)=H∧H.at' h.next=some (.row cs)∧Ext h H∧H.at' g.next=some (.row [.nilsl, .nilsl]):=⟨_,rfl,zJ _ _ _,(Ext.refl h).new (Nat.le_refl _) _,by have:=hX.1;rw[zG (by omega),hX.2 _ n0];exact r0⟩;have hld:zAv Tryz.prog 95 (.ptr h.next 0) H=some (.agg cs):=zC6 r1 zXh (by rw[zGI,c6]) (by omega);have hvp:zR true 6 cs 0=some (.agg cs):=zB c6 (by omega)
 have EH:Ext g H:=(E0.trans hX).trans E1;have hst0:zU Tryz.prog 42 (.ptr g.next 0) (.agg [.nilsl, .nilsl]) H=some (H.set g.next (.row [.nilsl, .nilsl])):=yD rA zD0 rfl (by simp) rfl;have hat:=zC H g.next (.row [.nilsl, .nilsl]);have hQe:E≠0→Q (.tuple [.agg [.nilsl, .nilsl], .int .i64 E]) (H.set g.next (.row [.nilsl, .nilsl])):=fun he=>hQ _ _ ⟨EH.set (Nat.le_refl _) _,by simp[below,zb], .nilsl, .nilsl,rfl,fun e=>absurd e he,fun _=>⟨rfl,rfl⟩⟩;cases q1:(wn c l==0) with
 |false=>
  rw[if_pos (by rw[q1];rfl)] at hE;have hq:=hQe (by rw[←hE];simpa using q1);rw[←hE] at hq;clear hQ hQe hk hto hch hE
  repeat' first|simp only[go_sem,zbl, *]|apply bc<;>intro hc
 |true=>
  rw[if_neg (by rw[q1];decide)] at hE;have hkk:=hk (by simpa using q1);have ht:=hto cs hkk;clear hk hto;cases q2:decide (n<0) with
  |true=>
   rw[if_pos (by rw[q2];rfl)] at hE;have hq:=hQe (by rw[←hE];decide);rw[←hE] at hq;clear hQ hQe hch hkk hE
   repeat' first|simp only[go_sem,zbl, *]|apply bc<;>intro hc|(refine zA.mono (ht _) ?_;rintro r h ⟨hq2,rfl⟩)
  |false=>
  cases q3:decide (n≥(zLP c l:Int)) with
  |true=>
   rw[if_pos (by rw[q2,q3];rfl)] at hE;have hq:=hQe (by rw[←hE];decide);rw[←hE] at hq;clear hQ hQe hch hkk hE
   repeat' first|simp only[go_sem,zbl, *]|apply bc<;>intro hc|(refine zA.mono (ht _) ?_;rintro r h ⟨hq2,rfl⟩)
  |false=>
   rw[if_neg (by rw[q2,q3];decide)] at hE;subst hE;have h0:0≤n:=by have:=of_decide_eq_false q2;omega
   have h1:n<(zLP c l:Int):=by have:=of_decide_eq_false q3;omega
   obtain⟨m,rfl⟩:=Int.eq_ofNat_of_zero_le h0;have hcm:=hch cs hkk m (by omega) (by have:=zfE (c:=c) (l:=l) (by simpa using q1);omega);clear hch hkk hQe
   repeat' first|simp only[go_sem,zbl, *]|apply bc<;>intro hc|(refine zA.mono (ht _) ?_;rintro r h ⟨hq2,rfl⟩)
   refine(hcm _).mono ?_;rintro r h3 ⟨hq3,td,od,rfl,htd,hod⟩;have hst:zU Tryz.prog 42 (.ptr g.next 0) (.agg [td,od]) H=some (H.set g.next (.row [td,od])):=yD rA zD0 rfl (by simp) (by simp[(zK htd.1.isSl).2.2,(zK hod.1.isSl).2.2]);have hat2:=zC H g.next (.row [td,od]);have hb1:below g.next td:=by
    rcases htd.1 with⟨rfl,_⟩ |rfl
    ·trivial
    ·exact zy (Nat.zero_le _) _ (zFx _).2
   have hb2:below g.next od:=by
    rcases hod.1 with⟨rfl,_⟩ |rfl
    ·trivial
    ·exact zy (Nat.zero_le _) _ (yO (sz:=1) (xs:=yP (zW4 c l m)) qL .no).2
   have hq:=hQ (.tuple [.agg [td,od], .int .i64 0]) (H.set g.next (.row [td,od])) ⟨EH.set (Nat.le_refl _) _,by simp only[below,zb];exact⟨⟨hb1,hb2,trivial⟩,trivial,trivial⟩,td,od,rfl,fun _=>⟨htd,hod⟩,fun e=>absurd rfl e⟩;clear hQ hcm
   repeat' first|simp only[go_sem,zbl, *]|apply bc<;>intro hc
def yc (p:Fac→Bool):List Fac→Nat→List Nat
 | [],_=>[]
 |f::fs,k=>if p f then k::yc p fs (k+1) else yc p fs (k+1)
theorem zAc (p:Fac→Bool):∀ (l m:List Fac) (k:Nat),yc p (l++m) k=yc p l k++yc p m (k+l.length)
 | [],m,k=>by simp[yc]
 |f::l,m,k=>by
  simp only[List.cons_append,yc,zAc p l m (k+1),List.length_cons];rw[show k+1+l.length=k+(l.length+1) by omega];split<;>simp
theorem wo (p:Fac→Bool):∀ (l:List Fac) (k:Nat),∀i∈yc p l k,k≤i∧i<k+l.length
 | [],k,i,h=>by simp[yc] at h
 |f::l,k,i,h=>by
  simp only[yc] at h;have ih:=wo p l (k+1);split at h
  ·rcases List.mem_cons.1 h with rfl|h
   ·simp
   ·have:=ih i h;simp;omega
  ·have:=ih i h;simp;omega
def zRy (p:Fac→Bool) (l:List Fac) (i:Nat):Nat:=(yc p (l.take i) 0).length
theorem zUl {p:Fac→Bool} {l:List Fac} {i:Nat} (h:i<l.length) (hp:p l[i]=false):zRy p l (i+1)=zRy p l i:=by
 unfold zRy;rw[List.take_succ_eq_append_getElem h,zAc];simp[yc,hp]
theorem zW5 {p:Fac→Bool} {l:List Fac} {i:Nat} (h:i<l.length) (hp:p l[i]=true):zRy p l (i+1)=zRy p l i+1∧(yc p l 0)[zRy p l i]? =some i:=by
 constructor
 ·unfold zRy;rw[List.take_succ_eq_append_getElem h,zAc];simp[yc,hp]
 ·unfold zRy;have e:l=l.take i++l[i]::l.drop (i+1):=by rw[List.getElem_cons_drop,List.take_append_drop]
  have e2:yc p l 0=yc p (l.take i) 0++yc p (l[i]::l.drop (i+1)) (0+(l.take i).length):=by
   rw[←zAc,←e]
  rw[e2,List.getElem?_append_right (Nat.le_refl _),Nat.sub_self];have e3:(l.take i).length=i:=by rw[List.length_take];omega
  simp[yc,hp,e3]
theorem zW6 {p:Fac→Bool} {l:List Fac} :zRy p l l.length=(yc p l 0).length:=by
 unfold zRy;rw[List.take_length]
def zDO (sc:List D) (kind:Int) (hf:D):D:= .fn (.func 265) [] [.iptr [.iptr sc 0] 0, .iptr [.int .i64 kind] 0, .iptr [hf] 0]
theorem zFy (sc:List D) (kind:Int) {hf:D} (hh:∃f a c,hf= .fn f a c) (h:Heap):zA Tryz.prog 204 [.iptr sc 0, .int .i64 kind,hf] h fun r h'=>h'=h∧r=zDO sc kind hf:=by
 obtain⟨fr,a,c,rfl⟩:∃f a c,hf= .fn f a c:=hh;refine zA.of_fn (g:=zP6) mix Tryz.func204 zeU rfl rfl ?_;simp only[Tryz.f204,gJ];simp only[go_sem,ziT,zDO]
theorem ye (p:Fac→Bool):∀ (l:List Fac) (k:Nat),(yc p l k).length≤l.length
 | [],_=>Nat.le_refl _
 |f::l,k=>by
  simp only[yc];have:=ye p l (k+1);split<;>simp only[List.length_cons]<;>omega
def isF (kind:Int) (q:Fac→Bool) (f:Fac):Bool:=f.kind==kind&&q f
def fIx (kind:Int) (q:Fac→Bool) (fs:List Fac):List Nat:=yc (isF kind q) fs 0
abbrev elI (l:List Nat) (k:Nat):List D:=[.int .i64 ((l.getD k 0:Nat):Int)]
set_option maxHeartbeats 2000000 in
theorem zDi {x:D} {sc:List D} {fs:List Fac} {kind:Int} {hf:D} {q:Fac→Bool} (hsc:sc[4]? =some x) (hx:zX 12 (zIH fs) x) (hl:fs.length≤1048576) (hok:∀f∈fs,f.Ok)
  {id:Nat} {Y:Nat→(Nat→Prop)→Heap→Prop}
  (y:Yld Tryz.prog id (fIx kind q fs).length (elI (fIx kind q fs)) Y fun _ _=>False)
  {S R:Nat→Prop} {h:Heap} (hR:∀i,R i→i<h.next∧(¬S i∨∀k S h',Y k S h'→h'.at' i=h.at' i)) (hq:∀f∈fs,∀h2:Heap,(∀i,R i→h2.at' i=h.at' i)→zGV Tryz.prog hf [.agg f.cells] h2 fun r h3=>h3=h2∧r= .bool (q f)) (hY:Y 0 S h):
  zA Tryz.prog 265 [.yld id, .iptr [.iptr sc 0] 0, .iptr [.int .i64 kind] 0, .iptr [hf] 0] h fun _ h'=>∃S',(∀j,S' j→S j∨h.next≤j)∧But S h h'∧Y (fIx kind q fs).length S' h':=by
 refine zA.of_fn (g:=zPj) mix Tryz.func265 zde rfl rfl ?_;simp only[Tryz.f265,gJ];have hll:=zCb hx;simp only[go_sem,zKs,zW,hsc,hll];refine z7 (fun i fr h'=>fr 0= .yld id∧fr 2= .iptr [.int .i64 kind] 0∧fr 3= .iptr [hf] 0∧fr 10=x∧fr 11= .int .i64 fs.length∧fr 12= .int .i64 (i:Int)∧∃S',(∀j,S' j→S j∨h.next≤j)∧But S h h'∧Y (zRy (isF kind q) fs i) S' h') fs.length ?_ ?_
 ·simp only[go_sem,zKs,true_and,and_true,Int.ofNat_zero];exact⟨S,fun j hj=> .inl hj,But.refl S h,hY⟩
 rintro i fr h' hi ⟨f0,f2,f3,f10,f11,f12,S',hS,hbut,hYi⟩;simp only[go_sem,zKs,f0,f2,f3,f10,f11,f12];by_cases hlt:i<fs.length
 ·rw[decide_eq_true (show(i:Int)<fs.length by exact_mod_cast hlt)];have hm:fs[i]∈fs:=List.getElem_mem hlt;have ha:=qf hx hlt;have hw:zR true 12 fs[i].cells 0=some (.agg fs[i].cells):=zB rfl (by omega);have hst:=zMm (hok _ hm);have hex:Ext h' (h'.new h'.next (.row fs[i].cells)):=(Ext.refl h').new (Nat.le_refl _) _;have hbut1:But S h (h'.new h'.next (.row fs[i].cells)):=hbut.trans (hex.but S) fun i hi=> .inl hi;have hk0:fs[i].cells[0]? =some (.int .i64 fs[i].kind):=rfl;have ew:IntKind.i64.wrap ((i:Int)+1)=((i+1:Nat):Int):=ze (by unfold lim;omega);cases hk:(fs[i].kind==kind) with
  |false=>
   simp only[go_sem,zKs,f0,f2,f3,f10,f11,f12,ha,hw,hst,hk0,hk,ew,true_and];refine⟨hlt,S',hS,hbut1,?_⟩;rw[zUl hlt (by simp[isF,hk])];exact y.ext hYi hex
  |true=>
   simp only[go_sem,zKs,f0,f2,f3,f10,f11,f12,ha,hw,hst,hk0,hk];refine zGV.mono (Q:=fun r h3=>h3=h'.new h'.next (.row fs[i].cells)∧r= .bool (q fs[i])) ?_ (hq _ hm _ fun j hj=> ?_)
   rotate_left
   ·obtain⟨h1,h2|h2⟩:=hR j hj
    ·exact hbut1.2 j h1 h2
    ·have:=hbut.1;rw[zG (by omega),h2 _ _ _ hYi]
   rintro r h3 ⟨rfl,rfl⟩;cases hqq:q fs[i] with
   |false=>
    simp only[go_sem,zKs,f0,f2,f3,f10,f11,f12,ew,true_and];refine⟨hlt,S',hS,hbut1,?_⟩;rw[zUl hlt (by simp[isF,hqq])];exact y.ext hYi hex
   |true=>
    obtain⟨n1,n2⟩:=zW5 (p:=isF kind q) hlt (by simp[isF,hk,hqq]);have hnl:=(List.getElem?_eq_some_iff.1 n2).1;have hel:(fIx kind q fs).getD (zRy (isF kind q) fs i) 0=i:=by rw[List.getD_eq_getElem?_getD,fIx,n2];rfl
    have hgo:=y.go _ S' _ hnl (y.ext hYi hex);simp only[elI,hel] at hgo;simp only[go_sem,zKs,f0,f2,f3,f10,f11,f12];refine hgo.mono ?_;rintro r h3 ⟨S2,hS2,hb2,hr⟩;have hbut3:But S h h3:=hbut1.trans hb2 hS;have hsub:∀j,S2 j→S j∨h.next≤j:=fun j hj=>by
     rcases hS2 j hj with hj|hj
     ·exact hS j hj
     ·have h1:=hbut1.1;exact .inr (by omega)
    rcases hr with⟨rfl,hY2⟩ | ⟨rfl,hZ2⟩
    ·simp only[go_sem,zKs,f0,f2,f3,f10,f11,f12,vun,ew,true_and];exact⟨hlt,S2,hsub,hbut3,by rw[n1];exact hY2⟩
    ·exact hZ2.elim
 ·have hie:i=fs.length:=by omega
  subst hie;rw[decide_eq_false (by omega)];simp only[go_sem,zKs];rw[zW6] at hYi;exact⟨S',hS,hbut,hYi⟩
end Go.V
