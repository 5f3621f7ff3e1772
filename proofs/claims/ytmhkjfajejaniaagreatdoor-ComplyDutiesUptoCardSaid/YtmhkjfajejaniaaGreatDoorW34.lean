/- Rules of the machine of abstract values, part 10. No condition. -/
import Derived.Test.YtmhkjfajejaniaaGreatDoorW33
import Derived.Shelf.SlSortCmp.Whole1
import Derived.Test.YtmhkjfajejaniaaGreatDoorW23
import Derived.Test.YtmhkjfajejaniaaGreatDoorW30
import Derived.Test.YtmhkjfajejaniaaGreatDoorW22
import Derived.Test.YtmhkjfajejaniaaGreatDoorW32
set_option linter.all false
namespace Go.V
open Go.Shelf Go.Proofs Go.Sort
open Go.RowKit (Below)
theorem zIK {α:Type} [Inhabited α] (enc:α→Value) (w:World) (blk off m:Nat) (dk:Array α) (os:Array Go.Obj):∀b,b≠blk→b<w.heap.size→(sortWorld enc w blk off m dk os).heap[b]? =w.heap[b]? :=fun b hb hl=>by
 show((putRow enc (Go.Sort.ahead w m) blk off dk).heap++os)[b]? =_;have hs:(putRow enc (Go.Sort.ahead w m) blk off dk).heap.size=w.heap.size:=by simp[putRow,mapBlock,Go.Sort.ahead]
 rw[Array.getElem?_append_left (by omega)];show((Go.Sort.ahead w m).heap.modify blk _)[b]? =_;rw[Array.getElem?_modify,if_neg (fun e=>hb e.symm)];rfl
section
variable {P:Program} {f cmp:FuncId} {β:Type} {dd:β→D} {xs:List β} {id:Nat} {pre post:List D} {h:Heap} {cf:β→β→Int}
abbrev zLD (dd:β→D) (xs:List β) (M:Imm) (ρ:Ren):= {p:β×Value // p.1∈xs∧rel M ρ (dd p.1) p.2∧(dd p.1).flat=true}
theorem zA.of_sort1 (h0:xs≠[]) (he:wm P f=true) (hcm:∀args w,(callFunc cmp args).run P w= .ok (.enter cmp args) w)
  (hrow:h.at' id=some (.row (pre++xs.map dd++post))) (hO:SWO (ltOf cf)) (hlen:xs.length<4611686018427387904)
  (hcmp:∀x∈xs,∀y∈xs,∀H,zA P cmp [dd x,dd y] H fun r H'=>H'=H∧r= .int .i64 (cf x y))
  (hlib:∀ (α:Type) [Inhabited α] (enc:α→Value),OneCell enc→∀ (cf:α→α→Int),SWO (ltOf cf)→∀ (g:Nat) (cb:Array Value) (blk off cap:Nat) (d:Array α) (w:World),
   (∀args w,(callFunc g args).run P w= .ok (.enter g args) w)→CmpLays1 P g cb enc cf blk off d.size w→Go.Sort.Holds enc w blk off d→blk<w.heap.size→d.size<4611686018427387904→
   Calls P f #[.slice (some ⟨blk,off,none⟩) d.size cap, .func (.func g) #[] cb] w fun e w'=>e= .returned (.tuple #[])∧∃d' n os,PermIn 0 d.size d d'∧SortedIn (ltOf cf) 0 d.size d'∧w'=sortWorld enc w blk off n d' os):
  zA P f [.rs id 1 pre.length xs.length, .fn (.func cmp) [] []] h fun r h'=>r= .tuple []∧∃ys:List β,ys.Perm xs∧ys.Pairwise (fun a b=>¬cf b a<0)∧h'=h.set id (.row (pre++ys.map dd++post)):=by
 refine⟨he,fun w0 G M ρ w va hg0 hs hfr hr=> ?_⟩;simp only[zu] at hr;obtain⟨v,vs',hva,hv,v2,vs2,rfl,hv2,rfl⟩:=hr;simp only[rel,zu] at hv hv2;obtain⟨_,hlim,l,cap,o,hl,rfl,⟨hc1,hc2⟩,hsz,ho⟩:=hv;obtain⟨_,fa,fc,rfl,hfa,hfc⟩:=hv2;have hfa':fa= #[]:=Array.ext' (by simpa using hfa);have hfc':fc= #[]:=Array.ext' (by simpa using hfc);subst hfa' hfc';have hxl:0<xs.length:=List.length_pos_iff.2 h0;have ho:o=pre.length:=by
  rcases ho with hz|ho
  ·omega
  ·exact ho
 subst ho;have hva':va= #[.slice (some ⟨l.blk,pre.length,none⟩) xs.length cap, .func (.func cmp) #[] #[]]:=Array.ext' (by simpa using hva);subst hva';obtain⟨l',h1,hkeep,hM,c,e,hw,hls,hcl,hcells⟩:=hs.live id _ hrow;rw[hl] at h1;cases h1;have hblk:l.blk<w.heap.size:=(Array.getElem?_eq_some_iff.1 hw).1;have hat:∀i (hi:i<xs.length),(pre++xs.map dd++post)[pre.length+i]? =some (dd xs[i]):=fun i hi=>by
  rw[List.append_assoc,List.getElem?_append_right (by omega),Nat.add_sub_cancel_left,List.getElem?_append_left (by simpa using hi),List.getElem?_map,List.getElem?_eq_getElem hi];rfl
 have hval:∀i (hi:i<xs.length),∃v,c[pre.length+i]? =some v∧rel M ρ (dd xs[i]) v∧(dd xs[i]).flat=true:=fun i hi=>by
  obtain⟨h1,v,h2,h3⟩:=hcells _ _ (hat i hi);exact⟨v,h2,h3,h1⟩
 let mk:_root_.Fin xs.length→zLD dd xs M ρ:=fun i=>⟨(xs[i.1],(hval i.1 i.2).choose),List.getElem_mem i.2,(hval i.1 i.2).choose_spec.2⟩
 letI:Inhabited (zLD dd xs M ρ):=⟨mk ⟨0,hxl⟩⟩
 let enc:zLD dd xs M ρ→Value:=fun p=>p.1.2
 have henc1:OneCell enc:=fun p=>zF4 p.2.2.1 p.2.2.2
 let d:Array (zLD dd xs M ρ):=Array.ofFn mk
 have hd:d.size=xs.length:=by simp[d]
 have hdi:∀i (hi:i<xs.length),d[i]! =mk ⟨i,hi⟩:=fun i hi=>by rw[getElem!_pos d i (by rw[hd];exact hi)];simp[d]
 have hdl:d.toList.map (fun p=>p.1.1)=xs:=by
  apply List.ext_getElem?;intro i;rw[List.getElem?_map,Array.getElem?_toList];by_cases hi:i<xs.length
  ·rw[Array.getElem?_eq_getElem (by rw[hd];exact hi),List.getElem?_eq_getElem hi,Option.map_some];simp[d,mk]
  ·rw[Array.getElem?_eq_none (by omega),List.getElem?_eq_none (by omega)];rfl
 have hO':SWO (ltOf fun p q:zLD dd xs M ρ=>cf p.1.1 q.1.1):=⟨fun x=>hO.irrefl _,fun x y z=>hO.trans _ _ _,fun x y z=>hO.ntrans _ _ _⟩;have hholds:Go.Sort.Holds enc w l.blk pre.length d:=by
  intro j hj;rw[hd] at hj;refine⟨?_,by simp[World.frozen?,hw]⟩;rw[hdi _ hj];have hv:=(hval j hj).choose_spec.1;simp only[World.cell?,hw,Option.isSome_none,Bool.false_eq_true,if_false];exact hv
 have hlays:CmpLays1 P cmp #[] enc (fun p q=>cf p.1.1 q.1.1) l.blk pre.length d.size w:=by
  intro m os dk hdk x y;have hfrm:=zIK enc w l.blk pre.length m dk os;have hgood:∀g,P.globalNamed wn=some g→Lib.TabIs P (sortWorld enc w l.blk pre.length m dk os) wn .u64 Lib.pow10Tab:=fun g hg=>by
   have h2:=hg0.here hs.below hg;unfold Lib.TabIs World.var? at h2⊢;rw[hg] at h2⊢;simp only[Option.bind_some] at h2⊢;have hgk:=(hg0 g hg).1;rw[hfrm g (fun q=>hkeep (q▸hgk)) (Nat.lt_of_lt_of_le (w0.kept g hgk) hs.below.size)];exact h2
  refine zA.stays (fun H=>(hcmp x.1.1 x.2.1 y.1.1 y.2.1 H).mono fun r H' hq=>hq.2) (fun M ρ v hv=>by simp only[rel] at hv;exact hv.1) (M:=M) (ρ:=ρ) (n:=h.next) (fun b o v hb=> ?_) hgood hfr ?_
  ·have hne:b≠l.blk:=fun q=>by subst q;rw[hM o] at hb;cases hb
   rw[←hs.imm b o v hb];exact World.cell?_of_block (w:=w) (hfrm b hne (hs.lt hb))
  ·show zu M ρ _ [_,_];simp only[zu];exact⟨_,_,rfl,x.2.2.1,_,_,rfl,y.2.2.1,rfl⟩
 have hcall:=hlib (zLD dd xs M ρ) enc henc1 (fun p q=>cf p.1.1 q.1.1) hO' cmp #[] l.blk pre.length cap d w hcm hlays hholds hblk (by rw[hd];exact hlen);rw[hd] at hcall;refine hcall.mono fun e w' hq=> ?_;obtain⟨rfl,d',n,os,hperm,hsorted,rfl⟩:=hq;rw[←hd] at hperm;have hpl:=PermIn.list hperm;have hd':d'.size=xs.length:=by rw[hperm.1,hd]
 have hys:(d'.toList.map fun p=>p.1.1).Perm xs:=by
  have q:=hpl.map (fun p=>p.1.1)
  rwa [hdl] at q
 let mk2:zLD dd xs M ρ→zcY:=fun p=>⟨(dd p.1.1,p.1.2),p.2.2.2⟩
 have hm1:∀dk:List (zLD dd xs M ρ),(dk.map mk2).map (fun q=>q.1.1)=(dk.map fun p=>p.1.1).map dd:=fun dk=>by rw[List.map_map,List.map_map];rfl
 have hm2:∀dk:List (zLD dd xs M ρ),(dk.map mk2).map (fun q=>q.1.2)=dk.map enc:=fun dk=>by rw[List.map_map];rfl
 have hrow2:h.at' id=some (.row (pre++(d.toList.map mk2).map (fun q=>q.1.1)++post)):=by rw[hm1,hdl];exact hrow
 have hS:=(hs.ahead n).putRow (α:=zcY) (enc:=fun q=>q.1.2) (dd:=fun q=>q.1.1) (fun q=>q.2) hrow2 hl (ys:=d'.toList.map mk2) (hpl.map mk2).length_eq (fun q hq=>by
  obtain⟨p,hp,rfl⟩:=List.mem_map.1 hq;exact p.2.2.1)
 have hS2:=hS.grow os;rw[zFw,List.map_toArray,hm2,hm1,←List.map_toArray,Array.toArray_toList,←zFw] at hS2;refine⟨.tuple #[],M,ρ, .tuple [],_,rfl,MLe.refl _,RLe.refl _,hS2,hfr,by simp only[rel,zu];exact⟨#[],rfl,rfl⟩,rfl,d'.toList.map (fun p=>p.1.1),hys,?_,rfl⟩;rw[List.pairwise_map,List.pairwise_iff_getElem];intro i j hi hj hij;have hj':j<d'.size:=by simpa using hj
 have:=hsorted i j (Nat.zero_le _) hij (by omega);rw[getElem!_pos d' j hj',getElem!_pos d' i (by omega)] at this;simpa [ltOf] using this
end
open Go.Proofs Go.Shelf Go.Sort
set_option maxRecDepth 100000
theorem zIL:QC yj where
 anti x y:=by unfold yj;(repeat' split)<;>omega
 trans x y z h1 h2:=by
  have e:∀a b:Int,yj a b≤0↔a≤b:=fun a b=>by unfold yj;(repeat' split)<;>omega
  rw[e] at *;omega
theorem zay (x y:Int) (h:yj x y=0):x=y:=by unfold yj at h;(repeat' split at h)<;>omega
theorem zJu:∀a b:List Trm,zAy a b=zGQ zN a b
 | [],[]=>rfl
 | [],_::_=>rfl
 |_::_,[]=>rfl
 |x::xs,y::ys=>by
  simp only[zAy,zGQ,zMw,zJu xs ys];by_cases h:zN x y=0<;>simp[h]
theorem zBH (a b:List Trm):zD8 a b=zMw (yj a.length b.length) (zGQ zN a b):=by
 unfold zD8 zMw;simp only[orL,zJu];split
 ·split
  ·rename_i q;exact q.symm
  ·rfl
 ·rfl
theorem zIM:QC zD8:=by
 have:=(zIL.key (γ:=List Trm) (fun a=>(a.length:Int))).lex zDM.list;exact⟨fun x y=>by rw[zBH,zBH];exact this.anti x y,fun x y z=>by rw[zBH,zBH,zBH];exact this.trans x y z⟩
theorem zM1 (x y:List Trm) (h:zD8 x y=0):x=y:=by
 rw[zBH,zMw] at h;split at h
 ·exact zK9 zFJ _ _ h
 ·rename_i q;exact absurd h q
theorem zLE (l:List (List Trm)):(yO (l.map mkA)).flatten=l.map fun ts=>(mkA ts).d:=by rw[zUr,List.map_map];rfl
theorem zaz {l:List (List Trm)} {id:Nat} {g:Heap} (h0:l≠[]) (hl:l.length≤1048576) (hle:∀ts∈l,ts.length≤1048576) (hrow:g.at' id=some (.row (yO (l.map mkA)).flatten)):
  zA Tryz.prog 178 [.rs id 1 0 l.length, .fn (.func 179) [] []] g fun r h'=>r= .tuple []∧h'=g.set id (.row (yO ((srt zD8 l).map mkA)).flatten):=by
 have:=zA.of_sort1 (P:=Tryz.prog) (f:=178) (cmp:=179) (dd:=fun ts=>(mkA ts).d) (xs:=l) (id:=id) (pre:=[]) (post:=[]) (h:=g) (cf:=zD8) h0 (by kernel_rfl) (enters_of Tryz.func179 (by kernel_rfl) rfl) (by simpa [zLE] using hrow) zIM.swo (by omega)
  (fun x hx y hy H=>zMv (zf.mk .no) (zf.mk .no) (hle x hx) (hle y hy) H) (fun α _ enc h1 cf hO g cb blk off cap d w hg hc hH hb hs=>Any.slices_SortFunc Tryz.sortAlt enc h1 cf hO g cb blk off cap d w hg hc hH hb hs)
 refine this.mono fun r h' ⟨e1,ys,hp,hs,e2⟩=>⟨e1,?_⟩;rw[e2,zQX zIM zM1 hp hs,zLE];simp
open Go.Proofs
def zAt (ts:List Trm):List Trm:=cpt zN (srt zN ts)
def zDP (out:List (List Trm)) (a:List Trm):List (List Trm):=if(out.any fun b=>zFG a b)=true then out else out++ [a]
def zCj (l:List (List Trm)):Nat→List (List Trm)
 |0=>[]
 |n+1=>match l[n]? with
  |none=>zCj l n
  |some a=>zDP (zCj l n) a
def wW (l:List (List Trm)):List (List Trm):=srt zD8 (l.map zAt)
def yP (l:List (List Trm)):List (List Trm):=zCj (wW l) (wW l).length
theorem zQa {ts:List Trm} (h:ts≠[]):zAt ts≠[]:=fun e=>by
 have h1:0<(srt zN ts).length:=by rw[(qR ts).length_eq];exact List.length_pos_iff.2 h
 have:=zLA (c:=zN) h1 _ (Nat.le_refl _) h1;rw[show yk zN (srt zN ts) (srt zN ts).length=zAt ts from rfl,e] at this
 exact absurd this (Nat.lt_irrefl _)
theorem zM2 (ts:List Trm):(zAt ts).length≤ts.length:=by
 have:=zBo (c:=zN) (l:=srt zN ts) (srt zN ts).length;rw[(qR ts).length_eq] at this;exact(by rw[←(qR (c:=zN) ts).length_eq];exact zBo _)
theorem zQb {ts:List Trm} (h:ts≠[]) (hl:ts.length≤4096):(mkA ts).Ok:=⟨zf.mk .no,h,hl⟩
theorem zDQ {l:List (List Trm)} :∀n,∀x∈zCj l n,x∈l
 |0,x,h=>by cases h
 |n+1,x,h=>by
  rw[zCj] at h;split at h
  ·exact zDQ n x h
  ·rename_i a e;unfold zDP at h;split at h
   ·exact zDQ n x h
   ·rcases List.mem_append.1 h with h|h
    ·exact zDQ n x h
    ·cases List.mem_singleton.1 h;exact List.mem_of_getElem? e
theorem zIN {l:List (List Trm)} :∀n,(zCj l n).length≤n
 |0=>Nat.le_refl _
 |n+1=>by
  have ih:=zIN (l:=l) n;rw[zCj];split
  ·omega
  ·unfold zDP;split
   ·omega
   ·rw[List.length_append];simp only[List.length_cons,List.length_nil];omega
theorem zM3 {l:List (List Trm)} {x:List Trm} (h:x∈yP l):∃y∈l,x=zAt y:=by
 have:=zII.1 (zDQ _ x h);obtain⟨y,hy,rfl⟩:=List.mem_map.1 this;exact⟨y,hy,rfl⟩
theorem zFx (d:D) (nid:Nat) (h:Heap) (h1:d.cells= [d]) (h2:d.notTuple=true) (h3:d.flat=true):zK Tryz.prog false nid 39 1 [(0,d)] h=some (.sl 1 [[d]] .full,h):=by
 have:=yU (P:=Tryz.prog) (nid:=nid) (h:=h) (x:=d) wi zKe zBV rfl rfl (by omega) (by omega) h2 (by rw[h1];rfl);rw[h1] at this;exact this
set_option maxHeartbeats 4000000 in
theorem zIO {l:List Alt} {d:D} (hd:zf 1 (yO l) d) (h0:l≠[]) (hl:l.length≤1048576) (hok:∀a∈l,a.Ok) (g:Heap):
  zA Tryz.prog 124 [d] g fun r h'=>h'=g∧Fin 1 (yO ((yP (l.map Alt.ts)).map mkA)) r:=by
 refine zA.pure (by kernel_rfl) fun hok'=>zA.strip ?_;have hlen:=zCi hd;refine zA.post fun Q hQ=> ?_;have hE0:=Own.start (Ext.refl g) 1;refine zA.of_fn (g:=zTR) mix Tryz.func124 zhx rfl rfl ?_;simp only[Tryz.f124,gJ]
 repeat' first|simp only[go_sem,zGa, *]|apply bc<;>intro hc
 refine zG (fun i fr h=>∃s,fr 10=d∧fr 11= .int .i64 (l.length:Int)∧fr 12= .int .i64 (i:Int)∧fr 3=s∧zNb g h 1 (yO (((l.take i).map fun a=>zAt a.ts).map mkA)) s) l.length (by omega) ?_ ?_ ?_
 ·have hs:=zNb.start (Ext.refl g) 1;simp only[go_sem,zGa,true_and,and_true,Int.ofNat_zero];exact⟨_,rfl,hs⟩
 ·rintro i fr h hlt e1 ew ⟨s,f10,f11,f12,f3,ho⟩;have a1:=zDN hd hlt;obtain⟨o1,o2,o3⟩:=hok _ (List.getElem_mem hlt);have htk:(l.take (i+1)).map (fun a=>zAt a.ts)=(l.take i).map (fun a=>zAt a.ts)++ [zAt l[i].ts]:=by rw[List.take_succ_eq_append_getElem hlt,List.map_append];rfl
  have hli:((l.take i).map fun a=>zAt a.ts).length=i:=by rw[List.length_map,List.length_take];omega
  rw[htk];clear htk;generalize l[i]=a at *
  generalize(l.take i).map (fun a=>zAt a.ts)=pre at *
  obtain⟨k1,k2,k3⟩:=zM o1;have hcl:=fun h=>zUp o1 o2 (by omega) h;have hso:=fun(H:Heap) (hr:H.at' h.next=some (.row (qN a.ts).flatten))=>zax (id:=h.next) o2 (by omega) hr;have hn0:srt zN a.ts≠[]:=fun e=>o2 (List.length_eq_zero_iff.1 (by rw[←(qR (c:=zN) a.ts).length_eq,e];rfl));have hnl:(srt zN a.ts).length=a.ts.length:=(qR a.ts).length_eq;have hco:=fun(H:Heap) (hr:H.at' h.next=some (.row (qN (srt zN a.ts)).flatten))=>zOl (id:=h.next) hn0 (by omega) hr;rw[hnl] at hco;have hnd:D.sl 2 (qN (cpt zN (srt zN a.ts))) .no=(mkA (zAt a.ts)).d:=rfl;clear hd hok hlen
  repeat' first|simp only[go_sem,zGa, *]|apply bc<;>intro hc|(refine zA.mono (hcl _) ?_;rintro r h ⟨rfl,rfl⟩)
  refine(hso _ (zJ _ _ _)).mono ?_;rintro r h2 ⟨rfl,rfl⟩
  repeat' first|simp only[go_sem,zGa, *]|apply bc<;>intro hc
  refine(hco _ (zC _ _ _)).mono ?_;rintro r h2 ⟨rfl,rfl⟩;have hE:Ext h (((h.new h.next (.row (qN a.ts).flatten)).set h.next (.row (qN (srt zN a.ts)).flatten)).del h.next):=(((Ext.refl h).new (Nat.le_refl _) _).set (Nat.le_refl _) _).del (Nat.le_refl _);generalize((h.new h.next (.row (qN a.ts).flatten)).set h.next (.row (qN (srt zN a.ts)).flatten)).del h.next=H at *
  have hoH:=ho.ext hE;obtain⟨d',G,hap,hoG,htr⟩:=hoH.app (P:=Tryz.prog) (ys:=yO [mkA (zAt a.ts)]) (tk:= .full) wi zFi zBV (by omega) (fun cs=>zUm Tryz.underlying62) (zDk _) (zDk _) (by simp[yO]) (by rw[yK,List.length_map,hli,zB7];unfold lim;simp[yO];omega) (by rw[yK,List.length_map,hli];unfold lim;simp[yO];omega);have hone:=zFx (mkA (zAt a.ts)).d H.next H rfl rfl rfl;have hal:yO [mkA (zAt a.ts)]= [[(mkA (zAt a.ts)).d]]:=rfl;rw[hal] at hap htr;have hfin:zNb g G 1 (yO ((pre++ [zAt a.ts]).map mkA)) d':=by
   rw[List.map_append]
   have:yO (pre.map mkA++List.map mkA [zAt a.ts])=yO (pre.map mkA)++yO [mkA (zAt a.ts)]:=by simp[yO]
   rw[this];exact hoG
  clear ho hoH hoG hso hco hcl hal
  repeat' first|simp only[go_sem,zGa, *]|apply bc<;>intro hc
  exact⟨_,rfl,hfin⟩
 ·rintro fr h e1 ⟨s,f10,f11,f12,f3,ho⟩;rw[List.take_length] at ho;have hS:srt zD8 (l.map fun a=>zAt a.ts)=wW (l.map Alt.ts):=by rw[wW,List.map_map];rfl
  have hSl:(wW (l.map Alt.ts)).length=l.length:=by rw[←hS,(qR _).length_eq,List.length_map]
  have hm0:l.map (fun a=>zAt a.ts)≠[]:=by simp[h0]
  have hml:(l.map fun a=>zAt a.ts).length=l.length:=List.length_map ..;have hmok:∀ts∈wW (l.map Alt.ts),ts≠[]∧ts.length≤4096:=fun ts h=>by
   rw[←hS] at h;obtain⟨a,ha,rfl⟩:=List.mem_map.1 (zII.1 h);exact⟨zQa (hok a ha).ne,Nat.le_trans (zM2 _) (hok a ha).len⟩
  have hle:∀ts∈l.map (fun a=>zAt a.ts),ts.length≤1048576:=fun ts h=>by
   have:=(hmok ts (by rw[←hS];exact zII.2 h)).2;omega
  obtain⟨hx,hc⟩:=ho;rcases hc with⟨_,e⟩ | ⟨id,rfl,hrow,hid,hidn,_⟩
  ·exact absurd (by simpa [yO] using e) h0
  have hal:(yO ((l.map fun a=>zAt a.ts).map mkA)).length=l.length:=by rw[yK,List.length_map,hml]
  rw[hal] at f3;have hso:=zaz hm0 (by omega) hle hrow;have hmin:yP (l.map Alt.ts)=zCj (wW (l.map Alt.ts)) (wW (l.map Alt.ts)).length:=rfl;rw[hmin] at hQ;clear hmin;rw[hml,hS] at hso;generalize wW (l.map Alt.ts)=L at *
  have E0:Ext g (h.set id (.row (yO (L.map mkA)).flatten)):=hx.set hid _;have hQ2:∀r h',Ext g h'→below g.next (yE r)→Fin 1 (yO ((zCj L L.length).map mkA)) (yE r)→Q r h':=fun r h' q1 q2 q3=>hQ r h' ⟨q1,q2,q3⟩;clear hQ hd hlen hS hm0 hml hle hal
  repeat' first|simp only[go_sem,zGa, *]|apply bc<;>intro hc|(refine zA.mono hso ?_;rintro r h ⟨rfl,rfl⟩)
  have r0:(h.set id (.row (yO (L.map mkA)).flatten)).at' id=some (.row (yO (L.map mkA)).flatten):=zC _ _ _;have hidn2:id<(h.set id (.row (yO (L.map mkA)).flatten)).next:=hidn;generalize h.set id (.row (yO (L.map mkA)).flatten)=H at *
  have hvl:=fun(h:Heap)=>zCU (P:=Tryz.prog) (t:=39) (sz:=1) (id:=id) (off:=0) (len:=l.length) (h:=h) Tryz.underlying39
  repeat' first|simp only[go_sem,zGa, *]|apply bc<;>intro hc
  refine zG (fun i fr h=>∃o,fr 28= .rs id 1 0 l.length∧fr 29= .int .i64 (l.length:Int)∧fr 30= .int .i64 (i:Int)∧fr 7=o∧Own H h 1 (yO ((zCj L i).map mkA)) o) l.length (by omega) ?_ ?_ ?_
  ·have hs:=Own.start (Ext.refl H) 1;simp only[go_sem,zGa,true_and,and_true,Int.ofNat_zero];exact⟨_,rfl,hs⟩
  ·rintro i fr h2 hlt ec ew ⟨o,f28,f29,f30,f7,ho⟩;have hlt':i<L.length:=by omega
   have a1:=zt (P:=Tryz.prog) (sz:=1) (id:=id) wi zBV (k:= .i64) hlt;have hrow2:h2.at' id=some (.row (yO (L.map mkA)).flatten):=by rw[ho.1.2 _ hidn2];exact r0
   have hLi:(yO (L.map mkA)).flatten[i*1]? =some (mkA L[i]).d:=by rw[zLE,Nat.mul_one,List.getElem?_map,List.getElem?_eq_getElem hlt'];rfl
   obtain⟨m1,m2⟩:=hmok L[i] (List.getElem_mem hlt');have hmi:zCj L (i+1)=zDP (zCj L i) L[i]:=by rw[zCj,List.getElem?_eq_getElem hlt']
   have hsub:∀x∈zCj L i,x≠[]∧x.length≤4096:=fun x hx=>hmok x (zDQ i x hx);have hml:=zIN (l:=L) i;rw[hmi];clear hmi;generalize L[i]=a at *
   generalize zCj L i=out at *
   have hnx:h2.next<(h2.new h2.next (.row [(mkA a).d])).next:=by rw[zD];omega
   have hrn:(h2.new h2.next (.row [(mkA a).d])).at' h2.next=some (.row [(mkA a).d]):=zJ _ _ _;have hstn:zQ Tryz.prog 62 (.ptr h2.next 0) (mkA a).d (h2.new h2.next (.row [.nilsl]))=some (h2.new h2.next (.row [(mkA a).d])):=by
    rw[zV (zJ _ _ _) zBV (by simp) rfl rfl,zCW];rfl
   have hoN:=ho.ext ((Ext.refl h2).new (Nat.le_refl _) (.row [(mkA a).d]));have hcf:=zDO (l:=out.map mkA) (d:=o) hoN.isSl (by rw[List.length_map];omega) (f:=180) (cap:=[.ptr h2.next 0]) (p:=fun b=>zFG a b.ts) (g:=h2.new h2.next (.row [(mkA a).d])) (fun s hs=>by
    obtain⟨y,hy,rfl⟩:=List.mem_map.1 hs;obtain⟨n1,n2⟩:=hsub y hy;exact⟨(zQb n1 n2).sl,zfh (zQb m1 m2) (zQb n1 n2) hrn⟩)
   have hany:(out.map mkA).any (fun b=>zFG a b.ts)=out.any fun b=>zFG a b:=by rw[List.any_map];rfl
   rw[hany] at hcf;have hck:(mkA a).d.cells= [(mkA a).d]∧(mkA a).d.notTuple=true:=⟨rfl,rfl⟩;obtain⟨k1,k2⟩:=hck;cases hb:(out.any fun b=>zFG a b) with
   |true=>
    have hst:zDP out a=out:=if_pos hb;rw[hst];rw[hb] at hcf;clear hmok hsub hany hst hb hQ2 ho;generalize h2.new h2.next (.row [(mkA a).d])=h3 at *
    repeat' first|simp only[go_sem,zGa, *]|apply bc<;>intro hc|(refine zA.mono hcf ?_;rintro r h ⟨rfl,rfl⟩)
    exact⟨_,rfl,hoN⟩
   |false=>
    have hst:zDP out a=out++ [a]:=if_neg (by rw[hb];exact Bool.false_ne_true);rw[hst];rw[hb] at hcf;have hone:=fun nid h=>zFx (mkA a).d nid h rfl rfl rfl;clear hmok hsub hany hst hb hQ2 ho;have hld:zA0 Tryz.prog 62 (.ptr h2.next 0) (h2.new h2.next (.row [(mkA a).d]))=some (mkA a).d:=by
     simp only[go_sem,hrn]
    generalize h2.new h2.next (.row [(mkA a).d])=h3 at *
    repeat' first|simp only[go_sem,zGa, *]|apply bc<;>intro hc|(refine zA.mono hcf ?_;rintro r h ⟨rfl,rfl⟩)
    refine hoN.appH (ys:=yO [mkA a]) wi zFi zBV (by omega) (zDk _) (by simp[yO]) (by rw[yK,List.length_map,zB7];unfold lim;simp[yO];omega) (by rw[yK,List.length_map];unfold lim;simp[yO];omega) fun d' h' ho'=> ?_;have ho2:Own H h' 1 (yO ((out++ [a]).map mkA)) d':=by
     rw[List.map_append]
     have:yO (out.map mkA++List.map mkA [a])=yO (out.map mkA)++yO [mkA a]:=by simp[yO]
     rw[this];exact ho'
    clear hoN ho'
    repeat' first|simp only[go_sem,zGa, *]|apply bc<;>intro hc
    exact⟨_,rfl,ho2⟩
  ·rintro fr h2 ec ⟨o,f28,f29,f30,f7,ho⟩;have hfin:=ho.2.1.fin (fun x hx=>by
    obtain⟨y,hy,rfl⟩:=List.mem_map.1 hx;obtain⟨z,_,rfl⟩:=List.mem_map.1 hy;exact zIJ z)
   have hq:=hQ2 o h2 (E0.trans ho.1) (zz (Nat.zero_le _) _ hfin.1) (by rw[hSl];exact hfin.2);clear hQ2 hfin hmok ho
   repeat' first|simp only[go_sem,zGa, *]|apply bc<;>intro hc
noncomputable def za0:Cfg:=⟨fun t=>List.contains (α:=Nat) [22] t,fun i=>(zKX (α:=List (Nat×Fl)) [] i).getD []⟩
theorem zl4 (t:Tmp):za0.mu t=List.contains (α:=Nat) [22] t:=(rfl)
theorem zl5:zd Tryz.prog za0 Tryz.f239=true:=by kernel_rfl
noncomputable def za1:Cfg:=⟨fun t=>List.contains (α:=Nat) [33] t,fun i=>(zKX (α:=List (Nat×Fl)) [] i).getD []⟩
theorem zYs (t:Tmp):za1.mu t=List.contains (α:=Nat) [33] t:=(rfl)
theorem zl6:zd Tryz.prog za1 Tryz.f184=true:=by kernel_rfl
theorem za2 {n:Nat} (h0:0<n) (hn:n≤1048576) (h:Heap):
  zA Tryz.prog 239 [.nilsl, .int .i64 n] h fun r h'=>∃xs:List D,xs.length=n*2∧r= .rs h.next 2 0 0∧h'=h.new h.next (.row xs):=by
 have e1:decide ((n:Int)<0)=false:=decide_eq_false (by omega);have e2:IntKind.i64.wrap (0-0)=0:=rfl;have e3:IntKind.i64.wrap ((n:Int)-0)=n:=by rw[zZ (by omega) (by omega)];omega
 have e4:decide ((n:Int)>0)=true:=decide_eq_true (by omega);have e5:yY Tryz.prog 62 .nilsl none (some (.int .i64 0)) none h=some .nilsl:=by
  simp[yY,zHh,zC0,yu,qz,qx,zI6,zLf]
 have e6:zA2 Tryz.prog true h.next 62 3 .nilsl (.int .i64 n) h=some (.rs h.next 2 0 n,h.new h.next (.row (zBC n [.str [], .str []]))):=by
  have hb:n*32≤lim:=by unfold lim;omega
  have hb2:n≤lim:=by unfold lim;omega
  simp only[zA2,Tryz.underlying3,yu,zBm,qz,zEt,Int.toNat_natCast,D.notTuple,D.cells];rw[if_pos (by simp[hb,hb2,h0]),zA6 Tryz.underlying79]
 have e7:yY Tryz.prog 62 (.rs h.next 2 0 n) none (some (.int .i64 0)) none (h.new h.next (.row (zBC n [.str [], .str []])))=some (.rs h.next 2 0 0):=
  zAn (n:=0) zHh yu qz (by omega)
 have e8:∀h:Heap,zCr Tryz.prog 62 .nilsl h=some (.int .i64 0):=fun h=>yo (sz:=2) zf.nil Tryz.underlying62;refine zA.of_fn (g:=za0) mix Tryz.func239 zl5 rfl rfl ?_;simp only[Tryz.f239,gJ];simp only[go_sem,zl4,e1,e2,e3,e4,zWw Tryz.underlying62,e8,e5,e6,e7,Option.map_none,Option.map_some,List.length_nil,Int.natCast_zero,Int.ofNat_zero];refine⟨zBC n [.str [], .str []],?_,rfl⟩
 have:∀m,(zBC m [D.str [],D.str []]).length=m*2:=fun m=>by
  induction m with
  |zero=>rfl
  |succ m ih=>
   change (List.replicate m [D.str [],D.str []]).flatten.length=_ at ih;change (List.replicate (m+1) [D.str [],D.str []]).flatten.length=_;rw[List.replicate_succ,List.flatten_cons,List.length_append,ih];simp;omega
 exact this n
def zfi (h0 h:Heap) (l:List Trm) (d:D):Prop:=Ext h0 h∧∃id xs,d= .rs id 2 0 l.length∧h.at' id=some (.row xs)∧h0.next≤id∧id<h.next∧l.length*2≤xs.length∧xs.take (l.length*2)=(qN l).flatten
theorem zUs (l:List Trm):(qN l).flatten.length=l.length*2:=by rw[yv (zAF l),yc]
theorem zXI {l l2:List Trm} {d d2:D} {h0 h:Heap} (hc:zfi h0 h l d) (hd:zf 2 (qN l2) d2) (hl:l.length≤1048576) (hl2:l2.length≤1048576):
  ∃d' h',z8 Tryz.prog true h.next 62 d d2 (qi d d2 h)=some (d',h')∧zfi h0 h' (l++l2) d':=by
 obtain⟨he,id,xs,rfl,hid,hg,hlt,hle,ht⟩:=hc;have hb:(l.length+l2.length)*32≤lim:=by unfold lim;omega
 have hb2:l.length+l2.length≤lim:=by unfold lim;omega
 have hv:∀h2:Heap,zSJ 2 d2 h2=some (qN l2).flatten:=fun h2=>by
  rcases hd with⟨rfl,hs⟩ | ⟨tk,rfl⟩
  ·have:l2= []:=List.map_eq_nil_iff.1 hs;subst this;rfl
  ·simp only[zSJ,if_true]
 have hlt2:(xs.take (l.length*2)).length=l.length*2:=by rw[List.length_take];omega
 have hfl2:=zUs l2;have key:∀h2:Heap,h2.at' id=some (.row (xs.take (l.length*2)))→z8 Tryz.prog true h.next 62 (.rs id 2 0 l.length) d2 h2=some (.rs h.next 2 0 (l.length+l2.length),(h2.del id).new h.next (.row (xs.take (l.length*2)++(qN l2).flatten))):=fun h2 e=>by
  simp only[z8,yu,zN8,qz,if_true,hv,hfl2,Nat.mul_div_cancel _ (show 0<2 by omega),qO,zEt,Bool.true_and];rw[if_pos (by simp[hb,hb2]),e];simp only[];rw[if_pos (by rw[hlt2])]
 obtain⟨h2,e1,e2,e3,e4⟩:∃h2,qi (.rs id 2 0 l.length) d2 h=h2∧h2.next=h.next∧(∀j,j≠id→h2.at' j=h.at' j)∧h2.at' id=some (.row (xs.take (l.length*2))):=by
  by_cases hq:l.length*2<xs.length
  ·refine⟨h.set id (.row (xs.take (l.length*2))),?_,rfl,fun j hj=>by simp[Heap.set,hj],zC _ _ _⟩;rcases hd with⟨rfl,hs⟩ | ⟨tk,rfl⟩ <;>simp[qi,hid,hq]
  ·have ht:xs.take (l.length*2)=xs:=List.take_of_length_le (by omega);refine⟨h,?_,rfl,fun _ _=>rfl,by rw[ht];exact hid⟩;rcases hd with⟨rfl,hs⟩ | ⟨tk,rfl⟩ <;>simp[qi,hid,hq]
 have he2:Ext h0 h2:=⟨by rw[e2];exact he.1,fun i hi=>by rw[e3 i (by omega)];exact he.2 i hi⟩;rw[e1,key h2 e4];refine⟨_,_,rfl,(he2.del hg).new he.1 _,h.next,_,by rw[List.length_append],zJ _ _ _,he.1,?_,?_,?_⟩
 ·have:(h2.del id).next=h2.next:=rfl;simp only[Heap.new,this,e2];omega
 ·rw[List.length_append,List.length_append,hlt2,hfl2];omega
 ·rw[ht,zXE,List.take_of_length_le (by rw[List.length_append,List.length_append,zUs,hfl2];omega)]
set_option maxHeartbeats 2000000 in
theorem zUt {a b:Alt} (ha:a.Ok) (hb:b.Ok) (g:Heap):
  zA Tryz.prog 184 [.sl 1 [[a.d],[b.d]] .full] g fun r h'=>h'=g∧r=(mkA (a.ts++b.ts)).d:=by
 obtain⟨a1,a2,a3⟩:=ha;obtain⟨b1,b2,b3⟩:=hb;have hpa:0<a.ts.length:=List.length_pos_iff.2 a2;refine zA.pure (by kernel_rfl) fun hok=> ?_
 suffices hh:zA Tryz.prog 184 [.sl 1 [[a.d],[b.d]] .full] g fun r h'=>zfi g h' (a.ts++b.ts) r by
  refine zA.freezeD (hh.mono ?_);rintro r h' ⟨hE,id,xs,rfl,hid,hg,hlt,hle,ht⟩;refine⟨id,xs,hid,hE.del hg,?_⟩;rw[zLC (xs:=qN (a.ts++b.ts)) (rest:=xs.drop ((a.ts++b.ts).length*2)) (zAF _) (yc _) (by rw[←ht,List.take_append_drop])];exact⟨zXF _ _,rfl⟩
 obtain⟨M,hM0,hM1,hM2⟩:∃M:Nat→Nat,M 0=0∧M 1=a.ts.length∧M 2=a.ts.length+b.ts.length:=⟨fun i=>if i=0 then 0 else if i=1 then a.ts.length else a.ts.length+b.ts.length,rfl,rfl,rfl⟩
 obtain⟨L,hL0,hL1,hL2⟩:∃L:Nat→List Trm,L 0= []∧L 1=a.ts∧L 2=a.ts++b.ts:=⟨fun i=>if i=0 then [] else if i=1 then a.ts else a.ts++b.ts,rfl,rfl,rfl⟩
 obtain⟨pt,hp0,hp1⟩:∃pt:Nat→Alt,pt 0=a∧pt 1=b:=⟨fun i=>if i=0 then a else b,rfl,rfl⟩
 have hll:∀h:Heap,zCr Tryz.prog 39 (.sl 1 [[a.d],[b.d]] .full) h=some (.int .i64 2):=fun h=>yo (zf.mk .full) Tryz.underlying39;have hx:∀i:Nat,i<2→zT Tryz.prog 39 (.sl 1 [[a.d],[b.d]] .full) (.int .i64 (i:Int))=some (.iptr [(pt i).d] 0)∧zf 2 (qN (pt i).ts) (pt i).d∧M (i+1)=M i+(pt i).ts.length∧L (i+1)=L i++(pt i).ts∧(L i).length≤8192∧(pt i).ts.length≤8192∧M i≤8192:=fun i hi=>by
  rcases i with _|_|i
  ·refine⟨zY (zf.mk .full) wi zBV (by rw[hp0];rfl),by rw[hp0];exact a1,by rw[hM0,hp0,hM1];omega,by rw[hL0,hL1,hp0];rfl,by rw[hL0];simp,by rw[hp0];omega,by omega⟩
  ·refine⟨zY (zf.mk .full) wi zBV (by rw[hp1];rfl),by rw[hp1];exact b1,by rw[hM1,hp1,hM2],by rw[hL1,hL2,hp1],by rw[hL1];omega,by rw[hp1];omega,by show M 1≤8192;omega⟩
  ·omega
 clear hp0 hp1;refine zA.of_fn (g:=za1) mix Tryz.func184 zl6 rfl rfl ?_;simp only[Tryz.f184,gJ]
 repeat' first|simp only[go_sem,zYs, *]|apply bc<;>intro hc
 refine zG (fun i fr h=>fr 0= .sl 1 [[a.d],[b.d]] .full∧fr 9= .sl 1 [[a.d],[b.d]] .full∧fr 10= .int .i64 2∧fr 11= .int .i64 (i:Int)∧fr 3= .int .i64 ((M i:Nat):Int)∧h=g) 2 (by omega) ?_ ?_ ?_
 ·simp only[go_sem,true_and,and_true,Int.ofNat_zero,zYs,hM0]
 ·rintro i fr h hlt e1 ew ⟨f0,f9,f10,f11,f3,rfl⟩;obtain⟨x1,x2,x3,x4,x5,x6,x7⟩:=hx i hlt;have hlen:=ql x2;have hw:IntKind.i64.wrap (((M i:Nat):Int)+(((pt i).ts.length:Nat):Int))=((M (i+1):Nat):Int):=by rw[x3,zZ (by omega) (by omega)];omega
  have hneg:decide (((M (i+1):Nat):Int)<0)=false:=decide_eq_false (by omega);have e2:decide ((i:Int)<2)=true:=e1;clear x3 x4 hx hM0 hM1 hM2
  repeat' first|simp only[go_sem,zYs, *]|apply bc<;>intro hc
 ·rintro fr h e1 ⟨f0,f9,f10,f11,f3,rfl⟩;have e2:decide ((((2:Nat):Int))<2)=false:=rfl;have hgr:=za2 (n:=M 2) (by omega) (by omega) h;have f11':fr 11= .int .i64 2:=f11;clear e1 f11 hM0 hM1 hM2
  repeat' first|simp only[go_sem,zYs, *]|apply bc<;>intro hc
  refine hgr.mono ?_;rintro r h2 ⟨xs,hxs,rfl,rfl⟩;have hc0:zfi h (h.new h.next (.row xs)) (L 0) (.rs h.next 2 0 0):=⟨(Ext.refl h).new (Nat.le_refl _) _,h.next,xs,by rw[hL0];rfl,zJ _ _ _,Nat.le_refl _,by rw[zD];omega,by rw[hL0];simp,by rw[hL0];rfl⟩;generalize h.new h.next (.row xs)=h2 at *
  clear hgr
  repeat' first|simp only[go_sem,zYs, *]|apply bc<;>intro hc
  refine zG (fun i fr h4=>fr 25= .sl 1 [[a.d],[b.d]] .full∧fr 26= .int .i64 2∧fr 27= .int .i64 (i:Int)∧zfi h h4 (L i) (fr 6)) 2 (by omega) ?_ ?_ ?_
  ·simp only[go_sem,true_and,and_true,Int.ofNat_zero,zYs];exact hc0
  ·rintro i fr2 h4 hlt e1 ew ⟨g25,g26,g27,gC⟩;obtain⟨d,g6⟩:∃x,fr2 6=x:=⟨_,rfl⟩;rw[g6] at gC;obtain⟨x1,x2,x3,x4,x5,x6,x7⟩:=hx i hlt;obtain⟨d',h5,k1,k2⟩:=zXI gC x2 (by omega) (by omega);rw[←x4] at k2;have e2:decide ((i:Int)<2)=true:=e1;obtain⟨q1,q2,q3⟩:=zM x2;clear x3 x4 hx hL0 hL1 hL2 gC hc0
   repeat' first|simp only[go_sem,zYs, *]|apply bc<;>intro hc
  ·rintro fr2 h4 e1 ⟨g25,g26,g27,gC⟩;have e2:decide ((((2:Nat):Int))<2)=false:=rfl;have g27':fr2 27= .int .i64 2:=g27;rw[hL2] at gC;obtain⟨d,g6⟩:∃x,fr2 6=x:=⟨_,rfl⟩;rw[g6] at gC;clear e1 g27 hx hL0 hL1 hL2
   repeat' first|simp only[go_sem,zYs, *]|apply bc<;>intro hc
def zGR (a b:List Alt) (k:Nat):List Trm:=(a.getD (k/b.length) (mkA [])).ts++(b.getD (k%b.length) (mkA [])).ts
def zEA (a b:List Alt):List (List Trm):=(List.range (a.length*b.length)).map (zGR a b)
theorem zUu {a b:List Alt} {i j:Nat} (hi:i<a.length) (hj:j<b.length):zGR a b (i*b.length+j)=a[i].ts++b[j].ts:=by
 unfold zGR;rw[show(i*b.length+j)/b.length=i by rw[Nat.mul_comm,Nat.mul_add_div (by omega),Nat.div_eq_of_lt hj];rfl,show(i*b.length+j)%b.length=j by rw[Nat.mul_comm,Nat.mul_add_mod,Nat.mod_eq_of_lt hj]];simp[hi,hj]
theorem zJv (a b:List Alt):(zEA a b).length=a.length*b.length:=by simp[zEA]
theorem za3 {a b:List Alt} {x y:D} (hx:zf 1 (yO a) x) (hy:zf 1 (yO b) y) (g:Heap):zA Tryz.prog 126 [x,y] g fun r h'=>h'=g∧r= .fn (.func 183) [] [.iptr [x] 0, .iptr [y] 0]:=by
 refine zA.of_fn (g:=zTm) mix Tryz.func126 ziR rfl rfl ?_;simp only[Tryz.f126,gJ];rcases hx with⟨rfl,_⟩ | ⟨_,rfl⟩
 ·rcases hy with⟨rfl,_⟩ | ⟨_,rfl⟩
  ·repeat' first|simp only[go_sem,zWa, *]|apply bc<;>intro hc
  ·repeat' first|simp only[go_sem,zWa, *]|apply bc<;>intro hc
 ·rcases hy with⟨rfl,_⟩ | ⟨_,rfl⟩
  ·repeat' first|simp only[go_sem,zWa, *]|apply bc<;>intro hc
  ·repeat' first|simp only[go_sem,zWa, *]|apply bc<;>intro hc
set_option maxHeartbeats 2000000 in
theorem zXJ {a b:List Alt} {x y:D} (hx:zf 1 (yO a) x) (hy:zf 1 (yO b) y) (ha:∀q∈a,q.Ok) (hb:∀q∈b,q.Ok) (hla:a.length≤4096) (hlb:b.length≤4096)
  {id:Nat} {Y:Nat→(Nat→Prop)→Heap→Prop} (yl:Yld Tryz.prog id (a.length*b.length) (fun k=>[(mkA (zGR a b k)).d]) Y fun _ _=>False) {S:Nat→Prop} {w:Heap} (hY:Y 0 S w):
  zA Tryz.prog 183 [.yld id, .iptr [x] 0, .iptr [y] 0] w fun _ h'=>∃S',But S w h'∧Y (a.length*b.length) S' h':=by
 have hl1:=zCi hx;have hl2:=zCi hy;obtain⟨x1,x2,_⟩:=zM hx;obtain⟨y1,y2,_⟩:=zM hy;refine zA.of_fn (g:=zTy) mix Tryz.func183 zim rfl rfl ?_;simp only[Tryz.f183,gJ]
 repeat' first|simp only[go_sem,zMV, *]|apply bc<;>intro hc
 refine zG (fun i fr h'=>fr 0= .yld id∧fr 2= .iptr [y] 0∧fr 8=x∧fr 9= .int .i64 (a.length:Int)∧fr 10= .int .i64 (i:Int)∧∃S',(∀j,S' j→S j∨w.next≤j)∧But S w h'∧Y (i*b.length) S' h') a.length (by omega) ?_ ?_ ?_
 ·have hst:∃S',(∀j,S' j→S j∨w.next≤j)∧But S w w∧Y (0*b.length) S' w:=⟨S,fun j hj=> .inl hj,But.refl S w,by rw[Nat.zero_mul];exact hY⟩;simp only[go_sem,zMV,true_and,and_true,Int.ofNat_zero];exact hst
 ·rintro i fr h1 hlt e1 ew ⟨f0,f2,f8,f9,f10,hS⟩;have a1:=zDN hx hlt;have oka:=ha _ (List.getElem_mem hlt);have hpr:=fun j (hj:j<b.length)=>zUu hlt hj;generalize a[i]=p at *
  obtain⟨p1,p2,_⟩:=zM oka.sl
  repeat' first|simp only[go_sem,zMV, *]|apply bc<;>intro hc
  refine zy (fun j fr h'=>fr 0= .yld id∧fr 2= .iptr [y] 0∧fr 8=x∧fr 9= .int .i64 (a.length:Int)∧fr 10= .int .i64 (i:Int)∧fr 5=p.d∧fr 14=y∧fr 15= .int .i64 (b.length:Int)∧fr 16= .int .i64 (j:Int)∧∃S',(∀j,S' j→S j∨w.next≤j)∧But S w h'∧Y (i*b.length+j) S' h') b.length ?_ ?_
  ·simp only[go_sem,zMV,true_and,and_true,Int.ofNat_zero];exact⟨f0,f2,f8,f9,f10,hS⟩
  clear hS;rintro j fr2 h2 hj ⟨g0,g2,g8,g9,g10,g5,g14,g15,g16,S',hS1,hS2,hS3⟩;by_cases hlt2:j<b.length
  ·have e2:decide ((j:Int)<(b.length:Int))=true:=decide_eq_true (by omega);have ew2:IntKind.i64.wrap ((j:Int)+1)=((j+1:Nat):Int):=zh (by unfold lim;omega);have b1:=zDN hy hlt2;have okb:=hb _ (List.getElem_mem hlt2);have hpij:=hpr j hlt2;have hk:i*b.length+j<a.length*b.length:=by
    have:i*b.length+b.length≤a.length*b.length:=by rw[←Nat.succ_mul];exact Nat.mul_le_mul_right _ hlt
    omega
   have hgo:=yl.go (i*b.length+j) S' h2 hk hS3;simp only[hpij] at hgo;generalize b[j]=q at *
   obtain⟨q1,q2,_⟩:=zM okb.sl;have hcc:=zUt oka okb h2;have hbs:∀nid:Nat,zK Tryz.prog false nid 39 2 [(0,p.d),(1,q.d)] h2=some (.sl 1 [[p.d],[q.d]] .full,h2):=fun nid=>by
    have:=zH3 (P:=Tryz.prog) (nid:=nid) (h:=h2) (x:=p.d) (y:=q.d) wi zKe zBV rfl rfl (by omega) (by omega) p2 (by rw[p1];rfl) q2 (by rw[q1];rfl);rw[p1,q1] at this;exact this
   have hm1:(mkA (p.ts++q.ts)).d.notTuple=true:=rfl;clear oka okb hpr hpij yl hx hy ha hb
   repeat' first|simp only[go_sem,zMV, *]|apply bc<;>intro hc|(refine zA.mono hcc ?_;rintro r h ⟨hq,rfl⟩)
   subst hq;refine hgo.mono ?_;rintro r h3 ⟨S2,k1,k2,k3⟩;rcases k3 with⟨rfl,k3⟩ | ⟨rfl,k3⟩
   ·have hfin:∃S',(∀j,S' j→S j∨w.next≤j)∧But S w h3∧Y (i*b.length+(j+1)) S' h3:=⟨S2,fun i' hi'=>by
     rcases k1 i' hi' with q|q
     ·exact hS1 _ q
     ·exact .inr (by have:=hS2.1;omega),hS2.trans k2 hS1,k3⟩
    clear hS1 hS2 hS3 k1 k2 k3 hgo
    repeat' first|simp only[go_sem,zMV, *]|apply bc<;>intro hc
   ·exact k3.elim
  ·have e2:decide ((j:Int)<(b.length:Int))=false:=decide_eq_false (by omega);have hje:j=b.length:=by omega
   have hfin:∃S',(∀j,S' j→S j∨w.next≤j)∧But S w h2∧Y ((i+1)*b.length) S' h2:=⟨S',hS1,hS2,by rw[Nat.succ_mul,←hje];rw[hje] at hS3⊢;exact hS3⟩;clear hS1 hS2 hS3 yl hje
   repeat' first|simp only[go_sem,zMV, *]|apply bc<;>intro hc
 ·rintro fr h2 e1 ⟨f0,f2,f8,f9,f10,S',hS1,hS2,hS3⟩;have hfin:∃S',But S w h2∧Y (a.length*b.length) S' h2:=⟨S',hS2,hS3⟩;clear hS1 hS2 hS3 yl
  repeat' first|simp only[go_sem,zMV, *]|apply bc<;>intro hc
theorem zLF (l:List (List Trm)):∀c∈yO (l.map mkA),yr c:=fun c hc=>by
 obtain⟨y,hy,rfl⟩:=List.mem_map.1 hc;obtain⟨z,_,rfl⟩:=List.mem_map.1 hy;exact zIJ z
set_option maxHeartbeats 2000000 in
theorem zM4 {a b:List Alt} {x y:D} (hx:zf 1 (yO a) x) (hy:zf 1 (yO b) y) (ha:∀q∈a,q.Ok) (hb:∀q∈b,q.Ok) (hla:a.length≤256) (hlb:b.length≤256) (g:Heap):
  zA Tryz.prog 182 [.nilsl, .fn (.func 183) [] [.iptr [x] 0, .iptr [y] 0]] g fun r h'=>h'=g∧Fin 1 (yO ((zEA a b).map mkA)) r:=by
 refine zA.pure (by kernel_rfl) fun hok=>zA.strip ?_;refine zA.post fun Q hQ=> ?_;have hPl:(zEA a b).length=a.length*b.length:=zJv a b;have hm:a.length*b.length≤65536:=Nat.le_trans (Nat.mul_le_mul hla hlb) (by omega);obtain⟨ps,hps⟩:∃ps,yO ((zEA a b).map mkA)=ps:=⟨_,rfl⟩;have hpl:ps.length=a.length*b.length:=by rw[←hps,yK,List.length_map,hPl]
 have hpe:∀k,k<a.length*b.length→ps[k]? =some [(mkA (zGR a b k)).d]:=fun k hk=>by
  rw[←hps];simp[yO,zEA,hk]
 have hp1:∀c∈ps,yr c:=by rw[←hps];exact zLF _
 rw[hps] at hQ;clear hPl hps;refine zA.of_fn (g:=zPz) mix Tryz.func182 ziY rfl rfl ?_;simp only[Tryz.f182,gJ]
 repeat' first|simp only[go_sem,zTp, *]|apply bc<;>intro hc
 simp only[zD];generalize hL:LRec.mk _ _ _ _ _ _ _=L;have yl:Yld Tryz.prog (g.next+1) (a.length*b.length) (fun k=>[(mkA (zGR a b k)).d]) (zcS g.next 1 L ps) (fun _ _=>False):=by
  refine⟨fun k S h y=>y.here,fun k S h h' y hn hk=>y.loc hn hk,fun S h hz=>hz.elim,fun S h h' hz=>hz.elim,fun i S h3 hi hyy=> ?_⟩;have hc:=hpe i hi;generalize hmm:(mkA (zGR a b i)).d=m at *
  have hmc:m.cells= [m]∧m.notTuple=true∧m.flat=true:=by rw[←hmm];exact⟨rfl,rfl,rfl⟩
  obtain⟨m1,m2,m3⟩:=hmc;have hone:=fun nid h=>zFx m nid h m1 m2 m3;obtain⟨g1,g2,d,g3,g4,g5⟩:=hyy;subst hL;refine yT.round (g:=zPz) mix g2 rfl (by kernel_rfl) (by kernel_rfl) (by kernel_rfl) ?_;simp only[go_sem,zTp];refine⟨g2,?_⟩;generalize hB:LRec.mk .busy _ _ _ _ _ _=B;generalize h5e:Heap.set h3 (g.next+1) (.loop B)=h5;have a1:h5.at' g.next=some (.row [d]):=by rw[←h5e,zE (by omega)];exact g3
  have a3:h5.at' (g.next+1)=some (.loop B):=by rw[←h5e];simp[Heap.set]
  have a4:h5.next=h3.next:=by rw[←h5e,ze]
  have a5:wD h5 1 (ps.take i) d:=g4.loc (by omega) fun j hj=>by
   have:=g4.tok hj;rw[←h5e,zE (fun e=>by subst e;rw[g2] at this;cases this.2)]
  simp only[go_sem,zTp,a1,hone];have htl:(ps.take i).length=i:=by rw[List.length_take];omega
  refine a5.app2 wi zFi zBV (by omega) (by simp) (by simp) (by rw[htl,zB7];unfold lim;simp;omega) (by rw[htl];unfold lim;simp;omega) ?_;intro d' h6 b1 b2 b3 b4 b5 b6;have c1:h6.at' g.next=some (.row [d]):=by
   rw[b3 _ (by omega) fun ht=> ?_]
   ·exact a1
   ·have:=(a5.tok ht).2;rw[a1] at this;cases this
  have hst:=zV (P:=Tryz.prog) (off:=0) c1 zMJ (by simp) b5 b6;simp only[go_sem,zTp,hst,List.set_cons_zero];have c2:(h6.set g.next (.row [d'])).at' (g.next+1)=some (.loop B):=by
   rw[zE (by omega),b3 _ (by omega) fun ht=> ?_]
   ·exact a3
   ·have:=(a5.tok ht).2;rw[a3] at this;cases this
  refine qk c2 ⟨fun j=>j=g.next∨j=g.next+1∨wo d' j,fun j hj=> ?_,⟨by simp only[go_sem];omega,fun j hj hS=> ?_⟩, .inl ⟨rfl,by simp only[go_sem];omega,?_,d',?_,?_,fun j=>Iff.rfl⟩⟩
  ·rcases hj with rfl|rfl|hj
   ·exact .inl ((g5 _).2 (.inl rfl))
   ·exact .inl ((g5 _).2 (.inr (.inl rfl)))
   ·exact .inr (by have:=b4 j hj;omega)
  ·have n1:j≠g.next:=fun e=>hS ((g5 j).2 (.inl e));have n2:j≠g.next+1:=fun e=>hS ((g5 j).2 (.inr (.inl e)));rw[zE n2,zE n1,b3 j (by omega) (fun ht=>hS ((g5 j).2 (.inr (.inr ht)))),←h5e,zE n2]
  ·rw[zC,←hB]
  ·rw[zE (by omega),zC]
  ·have:ps.take (i+1)=ps.take i++ [[m]]:=by rw[List.take_add_one,hc];rfl
   rw[this];refine b1.loc (Nat.le_refl _) fun j hj=> ?_;have:=b4 j hj;rw[zE (by omega),zE (by omega)]
 refine(zXJ hx hy ha hb (by omega) (by omega) yl (S:=fun i=>i=g.next∨i=g.next+1) (w:=(g.new g.next (.row [.nilsl])).new (g.next+1) (.loop L)) ?_).mono ?_
 ·refine⟨?_,zJ _ _ _, .nilsl,by rw[zF (by omega),zJ], .inl ⟨rfl,rfl⟩,fun j=>by simp[wo]⟩;rw[zb _ (by rw[zD];exact Nat.le_refl _)];omega
 rintro r h2 ⟨S',hb2,hYY⟩;obtain⟨g1,g2,d,g3,g4,g5⟩:=hYY;rw[←hpl,List.take_length] at g4;refine⟨L,g2,?_,?_⟩
 ·rw[←hL];intro e;cases e
 have hp:L.pending=none:=by rw[←hL]
 rw[hp,zBF];have k1:(h2.del (g.next+1)).at' g.next=some (.row [d]):=by rw[yV (by omega)];exact g3
 have hfin:=g4.fin hp1;have hq:=hQ d (h2.del (g.next+1)) ⟨Ext.del (Ext.of_but (((Ext.refl g).new (Nat.le_refl _) _).new (by omega) _) hb2 fun j hj=>by rcases hj with rfl|rfl<;>omega) (by omega),zz (Nat.zero_le _) _ hfin.1,hfin.2⟩;clear hQ hfin g4 g5 hb2 yl hpe hp1
 repeat' first|simp only[go_sem,zTp, *]|apply bc<;>intro hc
theorem zRl {a b:List Alt} {x y:D} (hx:zf 1 (yO a) x) (hy:zf 1 (yO b) y) (ha:∀q∈a,q.Ok) (hb:∀q∈b,q.Ok) (hla:a.length≤256) (hlb:b.length≤256) (g:Heap):
  zA Tryz.prog 125 [.fn (.func 183) [] [.iptr [x] 0, .iptr [y] 0]] g fun r h'=>h'=g∧Fin 1 (yO ((zEA a b).map mkA)) r:=by
 have h1:=zM4 hx hy ha hb hla hlb;refine zA.post fun Q hQ=> ?_;refine zA.of_fn (g:=zTc) mix Tryz.func125 ziC rfl rfl ?_;simp only[Tryz.f125,gJ]
 repeat' first|simp only[go_sem,zd7, *]|apply bc<;>intro hc
 refine(h1 _).mono ?_;rintro r h ⟨hq,hf⟩;subst hq;have:=hQ r h ⟨rfl,hf⟩;clear hQ hf
 repeat' first|simp only[go_sem,zd7, *]|apply bc<;>intro hc
def zM5 (l:List (List Trm)):D:= .tuple (if l.length>64 then [.nilsl, .int .i64 10] else [.sl 1 (yO (l.map mkA)) .no, .int .i64 0])
theorem zOm {l:List (List Trm)} (hl:l.length≤1048576) (g:Heap):
  zA Tryz.prog 123 [.sl 1 (yO (l.map mkA)) .no] g fun r h'=>h'=g∧r=zM5 l:=by
 have hlen:=zCi (l:=l.map mkA) (zf.mk .no);rw[List.length_map] at hlen;refine zA.post fun Q hQ=> ?_;have h2:=hQ (zM5 l) g ⟨rfl,rfl⟩;unfold zM5 at h2;clear hQ;refine zA.of_fn (g:=zTE) mix Tryz.func123 zhf rfl rfl ?_;simp only[Tryz.f123,gJ];by_cases hb:l.length>64
 ·rw[if_pos hb] at h2;have e1:decide ((l.length:Int)>64)=true:=decide_eq_true (by omega)
  repeat' first|simp only[go_sem,zdd, *]|apply bc<;>intro hc
 ·rw[if_neg hb] at h2;have e1:decide ((l.length:Int)>64)=false:=decide_eq_false (by omega)
  repeat' first|simp only[go_sem,zdd, *]|apply bc<;>intro hc
theorem zIP (l:List Lic):∀x∈zCc l,x.length=4:=fun x hx=>by
 obtain⟨y,_,rfl⟩:=List.mem_map.1 hx;rfl
theorem zXK (x y:Lic) (g:Heap):zA Tryz.prog 174 [.agg x.cells, .agg y.cells] g fun r h'=>h'=g∧r= .int .i64 (yj x.ver y.ver):=by
 have h1:=zH5 x.ver y.ver;refine zA.of_fn (g:=zTW) mix Tryz.func174 zh3 rfl rfl ?_;simp only[Tryz.f174,gJ];simp only[Lic.cells]
 repeat' first|simp only[go_sem,zh2, *]|apply bc<;>intro hc|(refine zA.mono (h1 _) ?_;rintro r h ⟨rfl,rfl⟩)
theorem za4 {l:List Lic} {id:Nat} {g:Heap} (h0:l≠[]) (hl:l.length≤1048576) (hrow:g.at' id=some (.row (zCc l).flatten)):
  zA Tryz.prog 173 [.rs id 4 0 l.length, .fn (.func 174) [] []] g fun r h'=>r= .tuple []∧∃ys:List Lic,ys.Perm l∧h'=g.set id (.row (zCc ys).flatten):=by
 have:=zA.of_sortK (P:=Tryz.prog) (f:=173) (cmp:=174) (k:=4) (cells:=Lic.cells) (xs:=l) (id:=id) (pre:=[]) (post:=[]) (h:=g) (cf:=fun x y=>yj x.ver y.ver) (mid:=[]) (midV:=[]) (fun M ρ vs h=>by simpa [zu] using h) h0 (by omega) (fun _ _=>rfl) (by kernel_rfl) (enters_of Tryz.func174 (by kernel_rfl) rfl) (by simpa [zCc] using hrow) (zIL.key Lic.ver).swo (by omega)
  (fun x _ y _ H=>zXK x y H) (fun α _ enc h1 h2 cf hO g cb blk off cap d w hg hc hH hb hs hd=>AnyQ.slices_SortFunc Tryz.sortLic 4 (Tryz.isAgg124) (Tryz.sizeOf124) enc h1 h2 cf hO g cb blk off cap d w hg hc hH hb hs)
 refine this.mono fun r h' ⟨e1,ys,hp,hs,e2⟩=>⟨e1,ys,hp,?_⟩;rw[e2];simp[zCc]
def zAG (x y:Lic):Bool:=y.fam==x.fam&&decide (y.ver≥x.ver)
def zDR (c:Cat) (x:Lic):List (List UInt8):=(c.ls.filter (zAG x)).map Lic.name
theorem zM6 {c:Cat} {k:List UInt8} {x:Lic} (h:zBu c k=some x):x∈c.ls:=by
 unfold zBu at h;split at h
 ·cases h
 ·split at h
  ·exact List.mem_of_getElem? h
  ·cases h
theorem zM7 {c:Cat} {x:Lic} (h:x∈c.ls):c.ls.filter (zAG x)≠[]:=fun e=>by
 have:x∈c.ls.filter (zAG x):=List.mem_filter.2 ⟨h,by simp[zAG]⟩;rw[e] at this;cases this
theorem za5 (x:Lic) (nid:Nat) (h:Heap):zK Tryz.prog false nid 22 1 [(0, .agg [.str x.name, .str x.fam, .int .i64 x.ver, .str x.text])] h=some (.sl 4 [x.cells] .full,h):=
 yU (P:=Tryz.prog) (x:= .agg [.str x.name, .str x.fam, .int .i64 x.ver, .str x.text]) zEr zHi zCS rfl rfl (by omega) (by omega) rfl rfl
set_option maxHeartbeats 4000000 in
theorem za6 {c:Cat} {d:D} (hc:qW c d) (hs:c.Sm) {k:List UInt8} {x:Lic} (hf:zBu c k=some x) (g:Heap):
  zA Tryz.prog 122 [d, .str k] g fun r h'=>h'=g∧∃ns,ns.Perm (zDR c x)∧r= .tuple [.sl 1 (yW ns) .no, .int .i64 0]:=by
 have hfi:=zUW hc hs k;have hfd:zDI c k= .tuple [.agg [.str x.name, .str x.fam, .int .i64 x.ver, .str x.text], .bool true]:=by unfold zDI;rw[hf]
 rw[hfd] at hfi;clear hfd;refine zA.pure (by kernel_rfl) fun hok'=>zA.strip ?_;refine zA.post fun Q hQ=> ?_;have hxm:=zM6 hf;have s1:=hs.ls.1;obtain⟨a,b,e,p,rfl,ha,hb,he,hp⟩:=hc;have hlen:=wl ha;have hv4:∀a b c e:D,zO true 4 [a,b,c,e] 0=some (.agg [a,b,c,e]):=fun a b c e=>zB rfl (by omega);have hst0:=zDF x;obtain⟨G0,hG0,r0,E0,n0⟩:∃G,g.new g.next (.row [.str x.name, .str x.fam, .int .i64 x.ver, .str x.text])=G∧G.at' g.next=some (.row [.str x.name, .str x.fam, .int .i64 x.ver, .str x.text])∧Ext g G∧g.next<G.next:=⟨_,rfl,zJ _ _ _,(Ext.refl g).new (Nat.le_refl _) _,by rw[zD];omega⟩
 refine zA.of_fn (g:=zT6) mix Tryz.func122 zix rfl rfl ?_;simp only[Tryz.f122,gJ]
 repeat' first|simp only[go_sem,zHq, *]|apply bc<;>intro hc|(refine zA.mono (hfi _) ?_;rintro r h ⟨hq,rfl⟩)
 clear hst0 hfi hb he hp;refine zG (fun i fr h=>∃s,fr 6= .ptr g.next 0∧fr 23=a∧fr 24= .int .i64 (c.ls.length:Int)∧fr 25= .int .i64 (i:Int)∧fr 8=s∧zNb G0 h 4 (zCc ((c.ls.take i).filter (zAG x))) s) c.ls.length (by omega) ?_ ?_ ?_
 ·have hs0:=zNb.start (Ext.refl G0) 4;simp only[go_sem,zHq,true_and,and_true,Int.ofNat_zero];exact⟨_,rfl,hs0⟩
 ·rintro i fr h2 hlt ec ew ⟨s,f6,f23,f24,f25,f8,ho⟩;have a1:=wp ha hlt;have htk:(c.ls.take (i+1)).filter (zAG x)=(c.ls.take i).filter (zAG x)++ [c.ls[i]].filter (zAG x):=by rw[List.take_succ_eq_append_getElem hlt,List.filter_append]
  have hli:((c.ls.take i).filter (zAG x)).length≤i:=Nat.le_trans (List.length_filter_le _ _) (by rw[List.length_take];omega);rw[htk];clear htk;generalize c.ls[i]=y at *
  generalize(c.ls.take i).filter (zAG x)=pre at *
  have hst:=zDF y h2 h2.next;have r1:(h2.new h2.next (.row [.str y.name, .str y.fam, .int .i64 y.ver, .str y.text])).at' g.next=some (.row [.str x.name, .str x.fam, .int .i64 x.ver, .str x.text]):=by
   rw[zF (by have:=ho.1.1;omega),ho.1.2 _ n0];exact r0
  have r2:(h2.new h2.next (.row [.str y.name, .str y.fam, .int .i64 y.ver, .str y.text])).at' h2.next=some (.row [.str y.name, .str y.fam, .int .i64 y.ver, .str y.text]):=zJ _ _ _;have hoN:=ho.ext ((Ext.refl h2).new (Nat.le_refl _) (.row [.str y.name, .str y.fam, .int .i64 y.ver, .str y.text]));simp only[Lic.cells] at a1;have hone:=za5 y;generalize h2.new h2.next (.row [.str y.name, .str y.fam, .int .i64 y.ver, .str y.text])=H at *
  obtain⟨d',G,hap,hoG,htr⟩:=hoN.app (P:=Tryz.prog) (ys:=zCc [y]) (tk:= .full) zEr zV8 zCS (by omega) (fun cs=>zA6 Tryz.underlying124) (zIP _) (zIP _) (by simp[zCc]) (by rw[zBa,zRM];unfold lim;simp[zCc];omega) (by rw[zBa];unfold lim;simp[zCc];omega);have hal:zCc [y]= [y.cells]:=rfl;rw[hal] at hap htr hoG;have hla:zCc (pre++ [y])=zCc pre++ [y.cells]:=by simp[zCc]
  rw[←hla] at hoG;clear ho hla hal hQ hlen ha E0 hG0 r0;cases q1:(y.fam==x.fam) with
  |false=>
   have hfl:pre++ [y].filter (zAG x)=pre:=by simp[zAG,q1]
   rw[hfl];clear hfl hap htr hoG
   repeat' first|simp only[go_sem,zHq, *]|apply bc<;>intro hc
   exact⟨_,rfl,hoN⟩
  |true=>
   cases q2:decide (y.ver≥x.ver) with
   |false=>
    have hfl:pre++ [y].filter (zAG x)=pre:=by simp only[List.filter_cons,zAG,q1,q2];simp
    rw[hfl];clear hfl hap htr hoG
    repeat' first|simp only[go_sem,zHq, *]|apply bc<;>intro hc
    exact⟨_,rfl,hoN⟩
   |true=>
    have hfl:pre++ [y].filter (zAG x)=pre++ [y]:=by simp only[List.filter_cons,zAG,q1,q2];simp
    rw[hfl];clear hfl hoN
    repeat' first|simp only[go_sem,zHq, *]|apply bc<;>intro hc
    exact⟨_,rfl,hoG⟩
 ·rintro fr h2 ec ⟨s,f6,f23,f24,f25,f8,ho⟩;rw[List.take_length] at ho;have hne:=zM7 hxm;have hnl:(c.ls.filter (zAG x)).length≤1048576:=Nat.le_trans (List.length_filter_le _ _) s1;have hS:zDR c x=(c.ls.filter (zAG x)).map Lic.name:=rfl;rw[hS] at hQ;clear hS;generalize c.ls.filter (zAG x)=L at *
  obtain⟨hx,hc⟩:=ho;rcases hc with⟨_,e⟩ | ⟨id,rfl,hrow,hid,hidn,_⟩
  ·exact absurd (by simpa [zCc] using e) hne
  rw[zBa] at f8;have hso:=za4 hne hnl hrow;have hQ2:∀ (ys:List Lic) r h',ys.Perm L→Ext g h'→below g.next (yE r)→Fin 1 (yW (ys.map Lic.name)) (yE r)→Q (.tuple [r, .int .i64 0]) h':=fun ys r h' q0 q1 q2 q3=>by
   refine hQ _ _ ⟨q1,?_,?_⟩
   ·simp only[yE,z7,below,zg];exact⟨q2,trivial,trivial⟩
   ·refine⟨ys.map Lic.name,q0.map _,?_⟩;rcases q3 with⟨_,e⟩ |e
    ·have:ys= []:=by simpa [yW] using e
     subst this;exact absurd (List.nil_perm.1 q0) hne
    ·simp only[yE,z7,e]
  clear hQ hxm hlen ha;have hxid:g.next≤id:=Nat.le_trans E0.1 hid
  repeat' first|simp only[go_sem,zHq, *]|apply bc<;>intro hc
  refine hso.mono ?_;rintro r h3 ⟨rfl,ys,hp,rfl⟩;have hyl:=hp.length_eq;have r1:(h2.set id (.row (zCc ys).flatten)).at' id=some (.row (zCc ys).flatten):=zC _ _ _;have hE1:Ext g (h2.set id (.row (zCc ys).flatten)):=(E0.trans hx).set hxid _;have hidn2:id<(h2.set id (.row (zCc ys).flatten)).next:=hidn;generalize h2.set id (.row (zCc ys).flatten)=H at *
  have hvl:=fun(h:Heap)=>zCU (P:=Tryz.prog) (t:=22) (sz:=4) (id:=id) (off:=0) (len:=L.length) (h:=h) Tryz.underlying22;have hQ3:=fun r h'=>hQ2 ys r h' hp;clear hQ2 hso hrow hx E0 hG0 r0
  repeat' first|simp only[go_sem,zHq, *]|apply bc<;>intro hc
  refine zG (fun i fr h=>∃o,fr 48= .rs id 4 0 L.length∧fr 49= .int .i64 (L.length:Int)∧fr 50= .int .i64 (i:Int)∧fr 11=o∧Own H h 1 (yW ((ys.take i).map Lic.name)) o) L.length (by omega) ?_ ?_ ?_
  ·have hs:=Own.start (Ext.refl H) 1;simp only[go_sem,zHq,true_and,and_true,Int.ofNat_zero];exact⟨_,rfl,hs⟩
  ·rintro i fr h3 hlt ec ew ⟨o,f48,f49,f50,f11,ho⟩;have hlt':i<ys.length:=by omega
   have a1:=zt (P:=Tryz.prog) (sz:=4) (id:=id) zEr zCS (k:= .i64) hlt;have hrow2:h3.at' id=some (.row (zCc ys).flatten):=by rw[ho.1.2 _ hidn2];exact r1
   have p1:=zBG (zIP ys) (by omega) (zQR hlt');have htk:(ys.take (i+1)).map Lic.name=(ys.take i).map Lic.name++ [ys[i].name]:=by rw[List.take_succ_eq_append_getElem hlt',List.map_append];rfl
   have hli:((ys.take i).map Lic.name).length=i:=by rw[List.length_map,List.length_take];omega
   rw[htk];clear htk;generalize ys[i]=y at *
   generalize(ys.take i).map Lic.name=pre at *
   simp only[Lic.cells] at p1;have hst:=zDF y h3 h3.next;have hoN:=ho.ext ((Ext.refl h3).new (Nat.le_refl _) (.row [.str y.name, .str y.fam, .int .i64 y.ver, .str y.text]));have r2:(h3.new h3.next (.row [.str y.name, .str y.fam, .int .i64 y.ver, .str y.text])).at' h3.next=some (.row [.str y.name, .str y.fam, .int .i64 y.ver, .str y.text]):=zJ _ _ _;have hone:=zEL y.name;generalize h3.new h3.next (.row [.str y.name, .str y.fam, .int .i64 y.ver, .str y.text])=h4 at *
   clear hQ3 ho r1 hE1 hidn2
   repeat' first|simp only[go_sem,zHq, *]|apply bc<;>intro hc
   refine hoN.appH (ys:=yW [y.name]) qQ zJV zBg (by omega) zGz (by simp[yW]) (by rw[z6,zCR,hli];unfold lim;simp[yW];omega) (by rw[z6,hli];unfold lim;simp[yW];omega) fun d' h' ho'=> ?_;have ho2:Own H h' 1 (yW (pre++ [y.name])) d':=by
    have:yW (pre++ [y.name])=yW pre++yW [y.name]:=by simp[yW]
    rw[this];exact ho'
   clear hoN ho'
   repeat' first|simp only[go_sem,zHq, *]|apply bc<;>intro hc
   exact⟨_,rfl,ho2⟩
  ·rintro fr h3 ec ⟨o,f48,f49,f50,f11,ho⟩;rw[←hyl,List.take_length] at ho;have hfin:=ho.2.1.fin qe;have hq:=hQ3 o h3 (hE1.trans ho.1) (zz (Nat.zero_le _) _ hfin.1) hfin.2;clear hQ3 hfin ho
   repeat' first|simp only[go_sem,zHq, *]|apply bc<;>intro hc
def szd (l:List (List Trm)):Option (List (List Trm)):=if l.length>64 then none else some l
def zDS (a b:List (List Trm)):List (List Trm):=zEA (a.map mkA) (b.map mkA)
mutual
def zFK (c:Cat):Ex→Option (List (List Trm))
 | .mk k n x l _=>if(k==0)=true then some [[⟨n,x⟩]] else if(k==1)=true then(match zBu c n with
   |none=>none
   |some y=>szd (yP ((zDR c y).map fun s=>[⟨s,[]⟩])))
  else match zEP c k l true [] with
   |none=>none
   |some out=>szd (yP out)
def zEP (c:Cat) (k:Int):List Ex→Bool→List (List Trm)→Option (List (List Trm))
 | [],_,out=>some out
 |e::es,first,out=>match zFK c e with
  |none=>none
  |some l=>if(k==3)=true then zEP c k es false (out++l) else if first=true then zEP c k es false l else match szd (yP (zDS out l)) with
   |none=>none
   |some o=>zEP c k es false o
end
def Ex.Fit (c:Cat) (e:Ex):Prop:=∀x∈e.pre,x.err=0∧zUd c x=0
theorem zQc:∀ {l:List Ex} {e x:Ex},e∈l→x∈e.pre→x∈zG3 l
 |a::l,e,x,h,hx=>by
  simp only[zG3];rcases List.mem_cons.1 h with rfl|h
  ·exact List.mem_append_left _ hx
  ·exact List.mem_append_right _ (zQc h hx)
theorem Ex.Fit.kid {c:Cat} {e k:Ex} (h:e.Fit c) (hk:k∈e.kids):k.Fit c:=fun x hx=>by
 obtain⟨kd,n,ex,l,d⟩:=e;exact h x (by simp only[Ex.pre];exact List.mem_cons_of_mem _ (zQc hk hx))
theorem Ex.Fit.self {c:Cat} {e:Ex} (h:e.Fit c):e.err=0∧zUd c e=0:=by
 obtain⟨kd,n,ex,l,d⟩:=e;exact h _ (by simp only[Ex.pre];exact List.mem_cons_self)
theorem zCk {f:Nat→Int} :∀ {n:Nat},zDH f n=0→∀i,i<n→f i=0
 |n+1,h,i,hi=>by
  simp only[zDH] at h;split at h
  ·rename_i q;rcases Nat.lt_succ_iff_lt_or_eq.1 hi with g|rfl
   ·exact zCk (by simpa using q) i g
   ·exact h
  ·rename_i q;exact absurd (by simpa using h) q
theorem zUv {c:Cat} {e:Ex} (h:zAd c e=0):wb c=0∧e.size≤64∧e.Fit c:=by
 unfold zAd at h;split at h
 ·exact absurd h (by decide)
 rename_i q1;split at h
 ·rename_i q;rw[h] at q;exact absurd q (by decide)
 rename_i q2;have f0:zDL e=0:=by simpa using q2
 unfold zDL at f0;split at f0
 ·exact absurd f0 (by decide)
 rename_i q3;split at f0
 ·exact absurd f0 (by decide)
 refine⟨by simpa using q1,by simp at q3;omega,fun x hx=> ?_⟩;obtain⟨i,hi,rfl⟩:=List.mem_iff_getElem.1 hx;rw[e.pre_len] at hi;have h1:=zCk f0 i hi;have h2:=zCk h i hi;have hg:e.pre.getD i e=e.pre[i]'(by rw[e.pre_len];exact hi):=by rw[List.getD_eq_getElem?_getD,List.getElem?_eq_getElem];rfl
 unfold Ex.errAt at h1;unfold Ex.unk at h2;rw[hg] at h1 h2;exact⟨h1,h2⟩
theorem zQd {c:Cat} {k:Int} {n x:List UInt8} {l:List Ex} {d:D} (h:(Ex.mk k n x l d).Fit c):((k=0∨k=1)∧l= []∧(k=1→x= [])∧∃y,zBu c n=some y)∨((k=2∨k=3)∧2≤l.length):=by
 obtain⟨h1,h2⟩:=h.self;replace h1:zID k n x l.length=0:=h1;unfold zID at h1;by_cases q:((k==0)||(k==1))=true
 ·left;rw[if_pos q] at h1;by_cases q1:(decide ((l.length:Int)>0)||((k==1)&& !(x== [])))=true
  ·rw[if_pos q1] at h1;exact absurd h1 (by decide)
  rw[if_neg q1] at h1;by_cases q2:(!zAs n||(!(x== [])&& !zAs x))=true
  ·rw[if_pos q2] at h1;exact absurd h1 (by decide)
  simp only[Bool.or_eq_true,beq_iff_eq,decide_eq_true_eq,Bool.and_eq_true,Bool.not_eq_true',not_or,not_and,Bool.not_eq_false,beq_eq_false_iff_ne] at q q1 q2;refine⟨q,List.length_eq_zero_iff.1 (by omega),fun e=>by simpa using q1.2 e,?_⟩;replace h2:(if(!(n== [])&& !zIy c n x)=true then(7:Int) else 0)=0:=h2
  by_cases q3:(!(n== [])&& !zIy c n x)=true
  ·rw[if_pos q3] at h2;exact absurd h2 (by decide)
  have hn:¬(n== [])=true:=fun e=>by
   have:n= []:=by simpa using e
   subst this;exact absurd q2.1 (by decide)
  have hk:zIy c n x=true:=by
   cases hh:zIy c n x with
   |true=>rfl
   |false=>exact absurd (by simp[hh,hn]) q3
  unfold zIy at hk;simp only[Bool.and_eq_true] at hk;exact Option.isSome_iff_exists.1 hk.1
 ·rw[if_neg q] at h1;by_cases q1:((k==2)||(k==3))=true
  ·rw[if_pos q1] at h1;right;by_cases q2:(decide ((l.length:Int)<2)|| !(n== [])|| !(x== []))=true
   ·rw[if_pos q2] at h1;exact absurd h1 (by decide)
   simp only[Bool.or_eq_true,beq_iff_eq,decide_eq_true_eq,Bool.not_eq_true',not_or] at q1 q2;exact⟨q1,by omega⟩
  ·rw[if_neg q1] at h1;exact absurd h1 (by decide)
theorem zQe {l:List (List Trm)} (h:l≠[]):∀n,0<n→n≤l.length→zCj l n≠[]
 |1,_,hn=>by
  rw[zCj,List.getElem?_eq_getElem (by omega)];simp[zCj,zDP]
 |n+2,_,hn=>by
  have ih:=zQe h (n+1) (by omega) (by omega);rw[zCj,List.getElem?_eq_getElem (by omega)];simp only[zDP];split
  ·exact ih
  ·simp
theorem zIQ {l:List (List Trm)} (h:l≠[]):yP l≠[]:=by
 have hl:(wW l).length=l.length:=by rw[wW,(qR _).length_eq,List.length_map]
 have hp:0<l.length:=List.length_pos_iff.2 h;exact zQe (fun e=>by rw[e] at hl;simp at hl;omega) _ (by omega) (Nat.le_refl _)
theorem zDT (l:List (List Trm)):(yP l).length≤l.length:=by
 have hl:(wW l).length=l.length:=by rw[wW,(qR _).length_eq,List.length_map]
 have:=zIN (l:=wW l) (wW l).length;rw[hl] at this;unfold yP;rw[hl];exact this
theorem zLG {l m:List (List Trm)} (h:l.Perm m):yP l=yP m:=by
 unfold yP wW;rw[zUo zIM zM1 (h.map zAt)]
theorem zG5 {l m:List (List Trm)} (h:szd l=some m):m=l∧l.length≤64:=by
 unfold szd at h;split at h
 ·cases h
 ·cases h;exact⟨rfl,by omega⟩
structure AltsOk (n:Nat) (l:List (List Trm)):Prop where
 ne:l≠[]
 ts:∀t∈l,t≠[]∧t.length≤n
theorem AltsOk.mono {n m:Nat} {l:List (List Trm)} (h:AltsOk n l) (hn:n≤m):AltsOk m l:=⟨h.ne,fun t ht=>⟨(h.ts t ht).1,Nat.le_trans (h.ts t ht).2 hn⟩⟩
theorem AltsOk.min {n:Nat} {l:List (List Trm)} (h:AltsOk n l):AltsOk n (yP l):=⟨zIQ h.ne,fun t ht=>by
 obtain⟨y,hy,rfl⟩:=zM3 ht;obtain⟨h1,h2⟩:=h.ts y hy;exact⟨zQa h1,Nat.le_trans (zM2 _) h2⟩⟩
theorem AltsOk.app {n:Nat} {l m:List (List Trm)} (h:∀t∈l,t≠[]∧t.length≤n) (k:AltsOk n m):AltsOk n (l++m):=⟨fun e=>k.ne (List.append_eq_nil_iff.1 e).2,fun t ht=>by
 rcases List.mem_append.1 ht with q|q
 ·exact h t q
 ·exact k.ts t q⟩
theorem zRm {a b:List (List Trm)} {t:List Trm} (h:t∈zDS a b):∃x∈a,∃y∈b,t=x++y:=by
 unfold zDS zEA at h;obtain⟨k,hk,rfl⟩:=List.mem_map.1 h;rw[List.mem_range,List.length_map,List.length_map] at hk;have hb:0<b.length:=by
  rcases Nat.eq_zero_or_pos b.length with e|e
  ·rw[e,Nat.mul_zero] at hk;omega
  ·exact e
 have h1:k/b.length<a.length:=by rw[Nat.div_lt_iff_lt_mul hb];exact hk
 have h2:k%b.length<b.length:=Nat.mod_lt _ hb;refine⟨a[k/b.length],List.getElem_mem _,b[k%b.length],List.getElem_mem _,?_⟩;simp[zGR,h1,h2,mkA]
theorem zJw (a b:List (List Trm)):(zDS a b).length=a.length*b.length:=by rw[zDS,zJv,List.length_map,List.length_map]
theorem AltsOk.pairs {n m:Nat} {a b:List (List Trm)} (h:AltsOk n a) (k:AltsOk m b):AltsOk (n+m) (zDS a b):=by
 refine⟨fun e=> ?_,fun t ht=> ?_⟩
 ·have:=zJw a b;rw[e] at this;have h1:0<a.length:=List.length_pos_iff.2 h.ne;have h2:0<b.length:=List.length_pos_iff.2 k.ne;have:=Nat.mul_pos h1 h2;simp at *;omega
 ·obtain⟨x,hx,y,hy,rfl⟩:=zRm ht;have h1:=h.ts x hx;have h2:=k.ts y hy;exact⟨fun e=>h1.1 (List.append_eq_nil_iff.1 e).1,by rw[List.length_append];omega⟩
theorem zIR {c:Cat} {n:List UInt8} {y:Lic} (h:zBu c n=some y):zDR c y≠[]:=fun e=>zM7 (zM6 h) (List.map_eq_nil_iff.1 e)
theorem zOn {c:Cat} :∀n:Nat,(∀e:Ex,e.size≤n→e.Fit c→∀l,zFK c e=some l→l.length≤64∧AltsOk e.size l)∧
  ∀ (k:Int) (es:List Ex),zp es≤n→(∀e∈es,e.Fit c)→∀ (m:Nat) (first:Bool) (out R:List (List Trm)),(∀t∈out,t≠[]∧t.length≤m)→(first=false→out≠[])→(es= []→out≠[])→zEP c k es first out=some R→AltsOk (m+zp es) R∧R.length≤out.length+64*es.length:=by
 intro n
 induction n with
 |zero=>
  refine⟨fun e h=> ?_,fun k es h hf m first out R h1 h2 h3 hR=> ?_⟩
  ·cases e;simp only[Ex.size] at h;omega
  ·cases es with
   |nil=>simp only[zEP] at hR;cases hR;exact⟨⟨h3 rfl,by simpa [zp] using h1⟩,by simp⟩
   |cons e l=>cases e;simp only[zp,Ex.size] at h;omega
 |succ n ih=>
  have key:∀e:Ex,e.size≤n+1→e.Fit c→∀l,zFK c e=some l→l.length≤64∧AltsOk e.size l:=fun e h hf l hl=>by
   obtain⟨k,nm,x,es,d⟩:=e;simp only[Ex.size] at h⊢;have hk:=zQd hf;rw[zFK] at hl;split at hl
   ·cases hl;exact⟨by simp,by simp,fun t ht=>by cases List.mem_singleton.1 ht;exact⟨by simp,by simp⟩⟩
   split at hl
   ·split at hl
    ·cases hl
    ·rename_i y hy;obtain⟨rfl,h64⟩:=zG5 hl;refine⟨h64,AltsOk.min ⟨by simpa using zIR hy,fun t ht=> ?_⟩⟩;obtain⟨s,_,rfl⟩:=List.mem_map.1 ht;exact⟨by simp,by simp⟩
   ·rename_i q0 q1;split at hl
    ·cases hl
    ·rename_i out hout;obtain⟨rfl,h64⟩:=zG5 hl;have hk2:2≤es.length:=by
      rcases hk with⟨q,_⟩ | ⟨_,q⟩
      ·rcases q with rfl|rfl
       ·exact absurd rfl q0
       ·exact absurd rfl q1
      ·exact q
     have:=ih.2 k es (by omega) (fun e he=>hf.kid he) 0 true [] out (fun t ht=>by cases ht) (by simp) (fun e=>by subst e;simp at hk2) hout;exact⟨h64,this.1.min.mono (by omega)⟩
  refine⟨key,fun k es h hf m first out R h1 h2 h3 hR=> ?_⟩
  cases es with
  |nil=>simp only[zEP] at hR;cases hR;exact⟨⟨h3 rfl,by simpa [zp] using h1⟩,by simp⟩
  |cons e es=>
   have hesz:0<e.size:=by cases e;simp only[Ex.size];omega
   simp only[zp] at h⊢;rw[zEP] at hR;split at hR
   ·cases hR
   ·rename_i l hl;obtain⟨hl64,hlok⟩:=key e (by omega) (hf e (by simp)) l hl;have hfs:∀e∈es,e.Fit c:=fun x hx=>hf x (List.mem_cons_of_mem _ hx);split at hR
    ·have hq:=AltsOk.app (n:=m+e.size) (fun t ht=>⟨(h1 t ht).1,Nat.le_trans (h1 t ht).2 (by omega)⟩) (hlok.mono (show e.size≤m+e.size by omega));have:=ih.2 k es (by omega) hfs (m+e.size) false (out++l) R hq.ts (fun _=>hq.ne) (fun _=>hq.ne) hR;refine⟨this.1.mono (by omega),?_⟩;have q:=this.2;rw[List.length_append] at q;simp only[List.length_cons];omega
    ·split at hR
     ·have hq:=hlok.mono (show e.size≤m+e.size by omega);have:=ih.2 k es (by omega) hfs (m+e.size) false l R hq.ts (fun _=>hq.ne) (fun _=>hq.ne) hR;refine⟨this.1.mono (by omega),?_⟩;have q:=this.2;simp only[List.length_cons];omega
     ·rename_i hfirst;have hone:out≠[]:=h2 (by simpa using hfirst);split at hR
      ·cases hR
      ·rename_i o ho;obtain⟨rfl,ho64⟩:=zG5 ho;have hq:=(AltsOk.pairs ⟨hone,h1⟩ hlok).min;have:=ih.2 k es (by omega) hfs (m+e.size) false _ R hq.ts (fun _=>hq.ne) (fun _=>hq.ne) hR;refine⟨this.1.mono (by omega),?_⟩;have q:=this.2;simp only[List.length_cons];omega
def zI0:Option (List (List Trm))→D
 |some l=> .tuple [.sl 1 (yO (l.map mkA)) .no, .int .i64 0]
 |none=> .tuple [.nilsl, .int .i64 10]
theorem zFy (l:List (List Trm)):zM5 l=zI0 (szd l):=by
 unfold zM5 szd;split<;>rfl
theorem zFz (l:List (List Trm)):yE (.sl 1 (yO (l.map mkA)) .no)= .sl 1 (yO (l.map mkA)) .no∧below 0 (.sl 1 (yO (l.map mkA)) .no):=yg (zLF l) .no
theorem zCA (o:Option (List (List Trm))) (n:Nat):yE (zI0 o)=zI0 o∧below n (zI0 o):=by
 cases o with
 |none=>exact⟨rfl,by simp[zI0,below,zg]⟩
 |some l=>
  obtain⟨h1,h2⟩:=zFz l;refine⟨?_,?_⟩
  ·simp only[zI0,yE,z7] at h1⊢;rw[h1]
  ·simp only[zI0,below,zg];exact⟨zz (Nat.zero_le _) _ h2,trivial,trivial⟩
def zQf (s x:List UInt8):Alt:=⟨[⟨s,x⟩], .sl 2 [[.str s, .str x]] .full⟩
theorem za7 (s x:List UInt8):(zQf s x).Ok:=⟨zf.mk .full,by simp[zQf],by simp[zQf]⟩
theorem zfj (s x:List UInt8):yC Tryz.prog 79 [(0, .str s),(1, .str x)]=some (.agg [.str s, .str x]):=by simp[yC,zFj,zBm,qS,D.notTuple,D.cells,yX]
theorem zfk (s:List UInt8):yC Tryz.prog 79 [(0, .str s)]=some (.agg [.str s, .str []]):=by simp[yC,zFj,zBm,qS,D.notTuple,D.cells,yX]
theorem zUw (s x:List UInt8) (nid:Nat) (h:Heap):zK Tryz.prog false nid 62 1 [(0, .agg [.str s, .str x])] h=some (.sl 2 [[.str s, .str x]] .full,h):=
 yU (P:=Tryz.prog) (x:= .agg [.str s, .str x]) yu zBm qz rfl rfl (by omega) (by omega) rfl rfl
def zDq (c:Cat) (e:Ex):D:=zI0 (zFK c e)
set_option maxHeartbeats 4000000 in
theorem zRn {c:Cat} {d:D} (hc:qW c d) {n x:List UInt8} {y:D} (g:Heap):
  zA Tryz.prog 79 [d, .agg [.int .i64 0, .str n, .str x,y]] g fun r h'=>h'=g∧r=zI0 (some [[⟨n,x⟩]]):=by
 refine zA.pure (by kernel_rfl) fun hok'=>zA.strip ?_;refine zA.post fun Q hQ=> ?_;obtain⟨ca,cb,ce,cp,rfl,_,_,_,_⟩:=hc;have hv4:∀a b c e:D,zO true 4 [a,b,c,e] 0=some (.agg [a,b,c,e]):=fun a b c e=>zB rfl (by omega);have h1:=zfj n x;have h2:=zUw n x;have h3:=fun nid h=>zFx (.sl 2 [[.str n, .str x]] .full) nid h rfl rfl rfl;have hq:=hQ (.tuple [.sl 1 [[.sl 2 [[.str n, .str x]] .full]] .full, .int .i64 0]) g ⟨Ext.refl g,by
  simp[yE,z7,zCs,below,zg,zB6],by simp[yE,z7,zCs,zI0,yO,mkA,qN,Trm.cells]⟩
 clear hQ;refine zA.of_fn (g:=zRQ) mix Tryz.func79 zgd rfl rfl ?_;simp only[Tryz.f79,gJ]
 repeat' first|simp only[go_sem,zHp, *]|apply bc<;>intro hc
set_option maxHeartbeats 4000000 in
theorem zRo {c:Cat} {d:D} (hc:qW c d) (hs:c.Sm) {n x:List UInt8} {z:Lic} (hf:zBu c n=some z) {y:D} (g:Heap):
  zA Tryz.prog 79 [d, .agg [.int .i64 1, .str n, .str x,y]] g fun r h'=>h'=g∧r=zI0 (szd (yP ((zDR c z).map fun s=>[⟨s,[]⟩]))):=by
 have hla:=za6 hc hs hf;have hsl:=hs.ls.1;have hne:=zIR hf;have hll:(zDR c z).length≤c.ls.length:=by rw[zDR,List.length_map];exact List.length_filter_le _ _
 refine zA.pure (by kernel_rfl) fun hok'=>zA.strip ?_;refine zA.post fun Q hQ=> ?_;obtain⟨ca,cb,ce,cp,rfl,_,_,_,_⟩:=hc;have hv4:∀a b c e:D,zO true 4 [a,b,c,e] 0=some (.agg [a,b,c,e]):=fun a b c e=>zB rfl (by omega);have hE0:=Own.start (Ext.refl g) 1;have hle:∀ (ns:List (List UInt8)) (h:Heap),zCr Tryz.prog 40 (.sl 1 (yW ns) .no) h=some (.int .i64 ns.length):=fun ns h=>yw (zf.mk .no) h;have hat:∀ (ns:List (List UInt8)) (i:Nat) (hi:i<ns.length),zT Tryz.prog 40 (.sl 1 (yW ns) .no) (.int .i64 (i:Int))=some (.iptr [.str ns[i]] 0):=fun ns i hi=>zAb (zf.mk .no) hi
 refine zA.of_fn (g:=zRQ) mix Tryz.func79 zgd rfl rfl ?_;simp only[Tryz.f79,gJ]
 repeat' first|simp only[go_sem,zHp, *]|apply bc<;>intro hc
 refine(hla _).mono ?_;rintro r h ⟨hq,ns,hp,rfl⟩;subst hq;have hnl:ns.length≤1048576:=by rw[hp.length_eq];omega
 have hns:ns≠[]:=fun e=>by subst e;exact hne (List.nil_perm.1 hp)
 have hl1:=hle ns;clear hle hla
 repeat' first|simp only[go_sem,zHp, *]|apply bc<;>intro hc
 refine zG (fun i fr h2=>∃o,fr 35= .sl 1 (yW ns) .no∧fr 36= .int .i64 (ns.length:Int)∧fr 37= .int .i64 (i:Int)∧fr 6=o∧Own h h2 1 (yO ((ns.take i).map fun s=>zQf s [])) o) ns.length (by omega) ?_ ?_ ?_
 ·simp only[go_sem,zHp,true_and,and_true,Int.ofNat_zero];exact⟨_,rfl,hE0⟩
 ·rintro i fr h2 hlt ec ew ⟨o,f35,f36,f37,f6,ho⟩;have a1:=hat ns i hlt;have htk:(ns.take (i+1)).map (fun s=>zQf s [])=(ns.take i).map (fun s=>zQf s [])++ [zQf ns[i] []]:=by rw[List.take_succ_eq_append_getElem hlt,List.map_append];rfl
  have hli:((ns.take i).map fun s=>zQf s []).length=i:=by rw[List.length_map,List.length_take];omega
  rw[htk];clear htk hQ hat hp;generalize ns[i]=s at *
  generalize(ns.take i).map (fun s=>zQf s [])=pre at *
  have b1:=zfk s;have b2:=zUw s [];have b3:=fun nid h=>zFx (.sl 2 [[.str s, .str []]] .full) nid h rfl rfl rfl
  repeat' first|simp only[go_sem,zHp, *]|apply bc<;>intro hc
  refine ho.appH (ys:=yO [zQf s []]) wi zFi zBV (by omega) (zDk _) (by simp[yO]) (by rw[yK,zB7,hli];unfold lim;simp[yO];omega) (by rw[yK,hli];unfold lim;simp[yO];omega) fun d' h' ho'=> ?_;have ho2:Own h h' 1 (yO (pre++ [zQf s []])) d':=by
   have:yO (pre++ [zQf s []])=yO pre++yO [zQf s []]:=by simp[yO]
   rw[this];exact ho'
  clear ho ho'
  repeat' first|simp only[go_sem,zHp, *]|apply bc<;>intro hc
  exact⟨_,rfl,ho2⟩
 ·rintro fr h2 ec ⟨o,f35,f36,f37,f6,ho⟩;rw[List.take_length] at ho;have hmi:=zIO ho.isSl (by simpa using hns) (by rw[List.length_map];omega) (fun a ha=>by
   obtain⟨s,_,rfl⟩:=List.mem_map.1 ha;exact za7 s [])
  have hmm:yP ((ns.map fun s=>zQf s []).map Alt.ts)=yP ((zDR c z).map fun s=>[⟨s,[]⟩]):=by
   rw[List.map_map];exact zLG (hp.map _)
  rw[hmm] at hmi;have hm0:yP ((zDR c z).map fun s=>[⟨s,[]⟩])≠[]:=zIQ (by simpa using hne);have hml:(yP ((zDR c z).map fun s=>[⟨s,[]⟩])).length≤1048576:=by
   refine Nat.le_trans (zDT _) ?_;rw[List.length_map];omega
  generalize yP ((zDR c z).map fun s=>[⟨s,[]⟩])=M at *
  have hsz:=zOm hml;rw[zFy] at hsz;have hQ2:∀h',Ext h h'→Q (zI0 (szd M)) h':=fun h' he=>hQ _ _ ⟨he,by rw[(zCA _ 0).1];exact(zCA _ _).2,by rw[(zCA _ 0).1]⟩;have hex:=ho.1;clear hQ hmm hp hat hne hns ho;have hfin:∀r,Fin 1 (yO (M.map mkA)) r→r= .sl 1 (yO (M.map mkA)) .no:=fun r hr=>by
   rcases hr with⟨_,e⟩ |e
   ·exact absurd (by simpa [yO] using e) hm0
   ·exact e
  repeat' first|simp only[go_sem,zHp, *]|apply bc<;>intro hc
  refine(hmi _).mono ?_;rintro r h3 ⟨hq,hr⟩;subst hq;have hr2:=hfin r hr;subst hr2;have hq:=hQ2 _ hex;clear hQ2 hr hmi hex hm0 hml;cases hz:szd M with
  |none=>
   rw[hz] at hsz hq;simp only[zI0] at hsz hq
   repeat' first|simp only[go_sem,zHp, *]|apply bc<;>intro hc|(refine zA.mono (hsz _) ?_;rintro r h ⟨rfl,rfl⟩)
  |some M'=>
   rw[hz] at hsz hq;simp only[zI0] at hsz hq
   repeat' first|simp only[go_sem,zHp, *]|apply bc<;>intro hc|(refine zA.mono (hsz _) ?_;rintro r h ⟨rfl,rfl⟩)
theorem zUx {l:List (List Trm)} (h0:l≠[]) {r:D} (hr:Fin 1 (yO (l.map mkA)) r):r= .sl 1 (yO (l.map mkA)) .no:=by
 rcases hr with⟨_,e⟩ |e
 ·exact absurd (by simpa [yO] using e) h0
 ·exact e
theorem zLH {m:Nat} {l:List (List Trm)} (h:∀t∈l,t≠[]∧t.length≤m) (hm:m≤4096):∀q∈l.map mkA,q.Ok:=fun q hq=>by
 obtain⟨t,ht,rfl⟩:=List.mem_map.1 hq;exact zQb (h t ht).1 (Nat.le_trans (h t ht).2 hm)
theorem zYt (l:List (List Trm)):(l.map mkA).map Alt.ts=l:=by rw[List.map_map];exact List.map_id _
structure MInv (c:Cat) (k:Int) (l:List Ex) (R:Option (List (List Trm))) (g:Heap) (i:Nat) (out:List (List Trm)) (o:D) (h:Heap):Prop where
 hE:Ext g h
 hK:zEP c k (l.drop i) (i==0) out=R
 hor:k=3→Own g h 1 (yO (out.map mkA)) o
 hand:k≠3→(i=0∧out= [])∨(out≠[]∧o= .sl 1 (yO (out.map mkA)) .no∧out.length≤64)
 hts:∀t∈out,t≠[]∧t.length≤zp (l.take i)
 hol:out.length≤64*i+64
set_option maxHeartbeats 8000000 in
theorem zUy {c:Cat} {d:D} (hc:qW c d) (hs:c.Sm):∀ (n:Nat) (e:Ex),e.size≤n→e.size≤64→e.Fit c→e.Ok→∀g:Heap,
  zA Tryz.prog 79 [d, .agg e.cells] g fun r h'=>h'=g∧r=zDq c e:=by
 intro n
 induction n with
 |zero=>intro e h;cases e;simp only[Ex.size] at h;omega
 |succ n ih=>
 intro e hn h64 hfit hok g;obtain⟨k,nm,x,l,dd⟩:=e;have hcells:(Ex.mk k nm x l dd).cells= [.int .i64 k, .str nm, .str x,dd]:=rfl;rw[hcells];simp only[Ex.size] at hn h64;have hkids:∀ (i:Nat) (hi:i<l.length),l[i].Fit c∧l[i].Ok∧∀g:Heap,zA Tryz.prog 79 [d, .agg l[i].cells] g fun r h'=>h'=g∧r=zDq c l[i]:=fun i hi=>by
  have hm:=List.getElem_mem hi;have h1:l[i].Fit c:=hfit.kid (e:= .mk k nm x l dd) hm;have h2:l[i].Ok:=zDJ (by simp only[Ex.Ok] at hok;exact hok.2.2.2.2) _ hm;have h3:=zAD hm;exact⟨h1,h2,ih _ (by omega) (by omega) h1 h2⟩
 rcases zQd hfit with⟨hk,hl,hx,y,hy⟩ | ⟨hk,hl2⟩
 ·rcases hk with rfl|rfl
  ·refine(zRn hc (n:=nm) (x:=x) (y:=dd) g).mono fun r h' ⟨q1,q2⟩=>⟨q1,?_⟩;rw[q2];simp[zDq,zFK]
  ·refine(zRo hc hs hy (x:=x) (y:=dd) g).mono fun r h' ⟨q1,q2⟩=>⟨q1,?_⟩;rw[q2];simp[zDq,zFK,hy]
 have e0:(k==0)=false:=by rcases hk with rfl|rfl<;>rfl
 have e1:(k==1)=false:=by rcases hk with rfl|rfl<;>rfl
 have hR:zFK c (.mk k nm x l dd)=match zEP c k l true [] with
  |none=>none
  |some out=>szd (yP out):=by rw[zFK,if_neg (by rw[e0];exact Bool.false_ne_true),if_neg (by rw[e1];exact Bool.false_ne_true)];try (cases zEP c k l true []<;>rfl)
 have hfin:∀R,zEP c k l true []=some R→AltsOk 64 R∧R.length≤64*l.length:=fun R hR=>by
  have:=(zOn (c:=c) (zp l)).2 k l (Nat.le_refl _) (fun e he=>hfit.kid (e:= .mk k nm x l dd) he) 0 true [] R (fun t ht=>by cases ht) (by simp) (fun e=>by subst e;simp at hl2) hR;exact⟨this.1.mono (by omega),by simpa using this.2⟩
 have hll:l.length≤64:=by
  have:∀l:List Ex,l.length≤zp l:=fun l=>by
   induction l with
   |nil=>simp
   |cons e l ih=>simp only[zp,List.length_cons];cases e;simp only[Ex.size];omega
  have:=this l;omega
 have hdd:zf 4 (exs l) dd:=by simp only[Ex.Ok] at hok;exact hok.1
 have hmo:=fun(e:Ex) (he:e.Fit c) (l:List (List Trm)) (hl:zFK c e=some l)=>(zOn (c:=c) e.size).1 e (Nat.le_refl _) he l hl;have hsL:∀i (hi:i<l.length),zp (l.take (i+1))=zp (l.take i)+l[i].size∧zp (l.take (i+1))≤zp l:=fun i hi=>by
  have app:∀a b:List Ex,zp (a++b)=zp a+zp b:=fun a b=>by
   induction a with
   |nil=>simp[zp]
   |cons e a ih=>simp only[List.cons_append,zp,ih];omega
  refine⟨by rw[List.take_succ_eq_append_getElem hi,app];simp[zp],?_⟩;have:=app (l.take (i+1)) (l.drop (i+1));rw[List.take_append_drop] at this;omega
 obtain⟨R,eR⟩:∃R,zEP c k l true []=R:=⟨_,rfl⟩;refine zA.pure (by kernel_rfl) fun hok'=>zA.strip ?_;refine zA.post fun Q hQ=> ?_;have hQ2:∀h',Ext g h'→Q (zDq c (.mk k nm x l dd)) h':=fun h' he=>hQ _ _ ⟨he,by unfold zDq;rw[(zCA _ 0).1];exact(zCA _ _).2,by unfold zDq;rw[(zCA _ 0).1]⟩;unfold zDq at hQ2;rw[hR,eR] at hQ2;rw[eR] at hfin;clear hQ hR hfit hok ih hcells;obtain⟨ca,cb,ce,cp,rfl,_,_,_,_⟩:=hc;have hv4:∀a b c e:D,zO true 4 [a,b,c,e] 0=some (.agg [a,b,c,e]):=fun a b c e=>zB rfl (by omega);have hlen:=zDK hdd;have hE0:=Own.start (Ext.refl g) 1
 refine zA.of_fn (g:=zRQ) mix Tryz.func79 zgd rfl rfl ?_;simp only[Tryz.f79,gJ]
 repeat' first|simp only[go_sem,zHp, *]|apply bc<;>intro hc
 refine zG (fun i fr h=>∃out o,fr 2= .iptr [ca,cb,ce,cp] 0∧fr 3= .iptr [.int .i64 k, .str nm, .str x,dd] 0∧fr 54=dd∧fr 55= .int .i64 (l.length:Int)∧fr 56= .int .i64 (i:Int)∧fr 6=o∧MInv c k l R g i out o h) l.length (by omega) ?_ ?_ ?_
 ·have h0:MInv c k l R g 0 [] .nilsl g:=⟨Ext.refl g,eR,fun _=>hE0,fun _=> .inl ⟨rfl,rfl⟩,fun t ht=>(by cases ht),by simp⟩;simp only[go_sem,zHp,true_and,and_true,Int.ofNat_zero];exact⟨_,_,rfl,h0⟩
 ·rintro i fr h hlt ec ew ⟨out,o,f2,f3,f54,f55,f56,f6,⟨hE,hK,hor,hand,hts,hol⟩⟩;have a1:=zJn hdd hlt;obtain⟨kf,ko,kc⟩:=hkids i hlt;obtain⟨s1,s2⟩:=hsL i hlt;have hst:=zUb l[i] (Ex.flat ko) h h.next;have hE2:=hE.new hE.1 (.row l[i].cells);have hrow:(h.new h.next (.row l[i].cells)).at' h.next=some (.row l[i].cells):=zJ _ _ _;rw[List.drop_eq_getElem_cons hlt,zEP] at hK;have hmo1:=hmo _ kf;have hol2:Ext h (h.new h.next (.row l[i].cells)):=(Ext.refl h).new (Nat.le_refl _) _;have hor2:k=3→Own g (h.new h.next (.row l[i].cells)) 1 (yO (out.map mkA)) o:=fun e=>(hor e).ext hol2;generalize hy:l[i]=y at *
  simp only[Ex.cells] at a1 kc hst hE2 hrow hor2 hol2;generalize hH:h.new h.next (.row [.int .i64 y.kind, .str y.name, .str y.exc,y.d])=H at *
  clear hkids hsL hmo hor;have hi0:((i:Int)==0)=(i==0):=by cases i<;>rfl
  have hi1:(i+1==0)=false:=rfl;cases hm:zFK c y with
  |none=>
   rw[hm] at hK;simp only at hK;have hq:=hQ2 H hE2;rw[←hK] at hq;simp only[zI0] at hq;have hmd:zDq c y= .tuple [.nilsl, .int .i64 10]:=by unfold zDq;rw[hm];rfl
   rw[hmd] at kc;clear hmd hQ2 hor2 hand hts hK
   repeat' first|simp only[go_sem,zHp, *]|apply bc<;>intro hc|(refine zA.mono (kc _) ?_;rintro r h ⟨hq,rfl⟩)
  |some lk=>
   rw[hm] at hK;simp only at hK;obtain⟨h64,hlo⟩:=hmo1 lk hm;have hmd:zDq c y= .tuple [.sl 1 (yO (lk.map mkA)) .no, .int .i64 0]:=by unfold zDq;rw[hm];rfl
   rw[hmd] at kc;clear hmd hmo1;cases q3:(k==3) with
   |true=>
    rw[if_pos q3] at hK;have hk3:k=3:=by simpa using q3
    have hoH:=hor2 hk3;clear hand hor2 hQ2
    repeat' first|simp only[go_sem,zHp, *]|apply bc<;>intro hc|(refine zA.mono (kc _) ?_;rintro r h ⟨hq,rfl⟩)
    subst hq;refine hoH.appH (ys:=yO (lk.map mkA)) wi zFi zBV (by omega) (zDk _) (by simpa [yO] using hlo.ne) (by rw[yK,yK,List.length_map,List.length_map,zB7];unfold lim;omega) (by rw[yK,yK,List.length_map,List.length_map];unfold lim;omega) fun d' h' ho'=> ?_;have ho2:Own g h' 1 (yO ((out++lk).map mkA)) d':=by
     have:yO ((out++lk).map mkA)=yO (out.map mkA)++yO (lk.map mkA):=by simp[yO]
     rw[this];exact ho'
    have hres:MInv c k l R g (i+1) (out++lk) d' h':=⟨ho2.1,hK,fun _=>ho2,fun q=>absurd hk3 q,fun t ht=>by
     rcases List.mem_append.1 ht with q|q
     ·exact⟨(hts t q).1,Nat.le_trans (hts t q).2 (by omega)⟩
     ·exact⟨(hlo.ts t q).1,Nat.le_trans (hlo.ts t q).2 (by omega)⟩,by rw[List.length_append];omega⟩
    clear ho' hoH hK hts hol hlo ho2 hk3
    repeat' first|simp only[go_sem,zHp, *]|apply bc<;>intro hc
    exact⟨_,_,rfl,hres⟩
   |false=>
    rw[if_neg (by rw[q3];exact Bool.false_ne_true)] at hK;have hk3:k≠3:=by simpa using q3
    have hand2:=hand hk3;clear hand hor2;cases q0:(i==0) with
    |true=>
     rw[if_pos q0] at hK;have hres:MInv c k l R g (i+1) lk (.sl 1 (yO (lk.map mkA)) .no) H:=⟨hE2,hK,fun q=>absurd q hk3,fun _=> .inr ⟨hlo.ne,rfl,h64⟩,fun t ht=>⟨(hlo.ts t ht).1,Nat.le_trans (hlo.ts t ht).2 (by omega)⟩,by omega⟩;clear hK hts hol hlo hand2 hQ2;rw[q0] at hi0
     repeat' first|simp only[go_sem,zHp, *]|apply bc<;>intro hc|(refine zA.mono (kc _) ?_;rintro r h ⟨hq,rfl⟩)
     subst hq;exact⟨_,_,rfl,hres⟩
    |false=>
     rw[if_neg (by rw[q0];exact Bool.false_ne_true)] at hK;rw[q0] at hi0;obtain⟨hone,ho,ho64⟩:out≠[]∧o= .sl 1 (yO (out.map mkA)) .no∧out.length≤64:=by
      rcases hand2 with⟨q,_⟩ |q
      ·subst q;exact absurd q0 (by decide)
      ·exact q
     subst ho;have hpo:=AltsOk.pairs ⟨hone,hts⟩ hlo;have okA:=zLH hts (by omega);have okB:=zLH hlo.ts (by omega);have hcp:=za3 (zf.mk (sz:=1) (xs:=yO (out.map mkA)) .no) (zf.mk (sz:=1) (xs:=yO (lk.map mkA)) .no);have hco:=zRl (zf.mk (sz:=1) (xs:=yO (out.map mkA)) .no) (zf.mk (sz:=1) (xs:=yO (lk.map mkA)) .no) okA okB (by rw[List.length_map];omega) (by rw[List.length_map];omega);have hpt:zEA (out.map mkA) (lk.map mkA)=zDS out lk:=rfl;rw[hpt] at hco;have hpl:(zDS out lk).length≤4096:=by
      rw[zJw];exact Nat.le_trans (Nat.mul_le_mul ho64 h64) (by omega)
     have hmi:=zIO (zf.mk (sz:=1) (xs:=yO ((zDS out lk).map mkA)) .no) (by simpa using hpo.ne) (by rw[List.length_map];omega) (zLH hpo.ts (by omega));rw[zYt] at hmi;have hmo:=hpo.min;have hmn:=hmo.ne;have hml:(yP (zDS out lk)).length≤1048576:=Nat.le_trans (zDT _) (by omega);have hf1:=fun r hr=>zUx hpo.ne (r:=r) hr;have hf2:=fun r hr=>zUx hmo.ne (r:=r) hr;generalize zDS out lk=P at *
     generalize hM:yP P=M at *
     have hsz:=zOm hml;rw[zFy] at hsz;clear hpt hpo okA okB hts hol hlo hand2 hone
     repeat' first|simp only[go_sem,zHp, *]|apply bc<;>intro hc|(refine zA.mono (kc _) ?_;rintro r h ⟨hq,rfl⟩)
     subst hq;clear kc;refine(hcp _).mono ?_;rintro r h1 ⟨hq,rfl⟩;subst hq;clear hcp
     repeat' first|simp only[go_sem,zHp, *]|apply bc<;>intro hc
     refine(hco _).mono ?_;rintro r h2 ⟨hq,hr⟩;subst hq;have hr:=hf1 r hr;subst hr;clear hco
     repeat' first|simp only[go_sem,zHp, *]|apply bc<;>intro hc
     refine(hmi _).mono ?_;rintro r h3 ⟨hq,hr⟩;subst hq;have hr:=hf2 r hr;subst hr;clear hmi hf1 hf2;cases hz:szd M with
     |none=>
      rw[hz] at hK hsz;simp only at hK;have hq:=hQ2 _ hE2;rw[←hK] at hq;simp only[zI0] at hq hsz;clear hQ2 hK hmo hmn
      repeat' first|simp only[go_sem,zHp, *]|apply bc<;>intro hc|(refine zA.mono (hsz _) ?_;rintro r h ⟨rfl,rfl⟩)
     |some M'=>
      obtain⟨rfl,hM64⟩:=zG5 hz;rw[hz] at hK hsz;simp only at hK;simp only[zI0] at hsz;have hres:MInv c k l R g (i+1) M' (.sl 1 (yO (M'.map mkA)) .no) h3:=⟨hE2,hK,fun q=>absurd q hk3,fun _=> .inr ⟨hmn,rfl,hM64⟩,fun t ht=>by rw[s1];exact hmo.ts t ht,by omega⟩;clear hQ2 hK hmo
      repeat' first|simp only[go_sem,zHp, *]|apply bc<;>intro hc|(refine zA.mono (hsz _) ?_;rintro r h ⟨rfl,rfl⟩)
      exact⟨_,_,rfl,hres⟩
 ·rintro fr h ec ⟨out,o,f2,f3,f54,f55,f56,f6,⟨hE,hK,hor,hand,hts,hol⟩⟩;have hd0:l.drop l.length= []:=List.drop_length;rw[hd0,zEP] at hK;obtain⟨hao,haol⟩:=hfin out hK.symm;have hsl:zf 1 (yO (out.map mkA)) o:=by
   by_cases hk3:k=3
   ·exact(hor hk3).isSl
   ·rcases hand hk3 with⟨q,_⟩ | ⟨_,q,_⟩
    ·omega
    ·rw[q];exact zf.mk .no
  have hmi:=zIO hsl (by simpa using hao.ne) (by rw[List.length_map];omega) (zLH hao.ts (by omega));rw[zYt] at hmi;have hf2:=fun r hr=>zUx hao.min.ne (r:=r) hr;have hml:(yP out).length≤1048576:=Nat.le_trans (zDT _) (by omega);have hsz:=zOm hml;rw[zFy] at hsz;have hq:=hQ2 _ hE;rw[←hK] at hq;simp only at hq;clear hQ2 hfin hor hand hts hao hsl hkids hmo hsL hK;generalize yP out=M at *
  repeat' first|simp only[go_sem,zHp, *]|apply bc<;>intro hc
  refine(hmi _).mono ?_;rintro r h3 ⟨hq3,hr⟩;subst hq3;have hr:=hf2 r hr;subst hr;clear hmi hf2;cases hz:szd M with
  |none=>
   rw[hz] at hsz hq;simp only[zI0] at hq hsz
   repeat' first|simp only[go_sem,zHp, *]|apply bc<;>intro hc|(refine zA.mono (hsz _) ?_;rintro r h ⟨rfl,rfl⟩)
  |some M'=>
   rw[hz] at hsz hq;simp only[zI0] at hq hsz
   repeat' first|simp only[go_sem,zHp, *]|apply bc<;>intro hc|(refine zA.mono (hsz _) ?_;rintro r h ⟨rfl,rfl⟩)
def ofD (c:Cat) (e:Ex):D:=if(zAd c e==0)=true then zDq c e else .tuple [.nilsl, .int .i64 (zAd c e)]
theorem za8 {c:Cat} {d:D} (hc:qW c d) (hs:c.Sm) {e:Ex} (hok:e.Ok) (hsz:e.size≤1048576) (g:Heap):
  zA Tryz.prog 48 [d, .agg e.cells] g fun r h'=>h'=g∧r=ofD c e:=by
 have hck:=zIE hc hs hok hsz;have hme:=fun(h:zAd c e=0)=>zUy hc hs e.size e (Nat.le_refl _) (zUv h).2.1 (zUv h).2.2 hok;obtain⟨ca,cb,ce,cp,rfl,_,_,_,_⟩:=hc;have hv4:∀a b c e:D,zO true 4 [a,b,c,e] 0=some (.agg [a,b,c,e]):=fun a b c e=>zB rfl (by omega);refine zA.post fun Q hQ=> ?_;have hq:=hQ (ofD c e) g ⟨rfl,rfl⟩;clear hQ;unfold ofD at hq;simp only[Ex.cells] at hck hme⊢;refine zA.of_fn (g:=zWX) mix Tryz.func48 zkc rfl rfl ?_;simp only[Tryz.f48,gJ];cases q:(zAd c e==0) with
 |false=>
  rw[if_neg (by rw[q];exact Bool.false_ne_true)] at hq;clear hme
  repeat' first|simp only[go_sem,ziP, *]|apply bc<;>intro hc|(refine zA.mono (hck _) ?_;rintro r h ⟨rfl,rfl⟩)
 |true=>
  rw[if_pos q] at hq;have hme2:=hme (by simpa using q);clear hme;unfold zDq at hq hme2;cases hm:zFK c e with
  |none=>
   rw[hm] at hq hme2;simp only[zI0] at hq hme2
   repeat' first|simp only[go_sem,ziP, *]|apply bc<;>intro hc|(refine zA.mono (hck _) ?_;rintro r h ⟨rfl,rfl⟩)|(refine zA.mono (hme2 _) ?_;rintro r h ⟨rfl,rfl⟩)
  |some l=>
   rw[hm] at hq hme2;simp only[zI0] at hq hme2
   repeat' first|simp only[go_sem,ziP, *]|apply bc<;>intro hc|(refine zA.mono (hck _) ?_;rintro r h ⟨rfl,rfl⟩)|(refine zA.mono (hme2 _) ?_;rintro r h ⟨rfl,rfl⟩)
def zNc (l:List (List Trm)):D:= .sl 1 (yO (l.map mkA)) .no
def zM8 (l:List (List (List Trm))):List (List D):=l.map fun a=>[zNc a]
theorem zBd (l:List (List (List Trm))):(zM8 l).length=l.length:=List.length_map ..
theorem zXL {l:List (List (List Trm))} {i:Nat} (h:i<l.length):(zM8 l)[i]? =some [zNc l[i]]:=by simp[zM8,h]
theorem zXM (l:List (List (List Trm))):∀x∈zM8 l,x.length=1:=fun x hx=>by
 obtain⟨s,_,rfl⟩:=List.mem_map.1 hx;rfl
theorem zRp (l:List (List (List Trm))):∀x∈zM8 l,yr x:=fun x hx=>by
 obtain⟨s,_,rfl⟩:=List.mem_map.1 hx;obtain⟨h1,h2⟩:=zFz s;exact⟨rfl,by simp only[zg];exact⟨h2,trivial⟩,by simp only[z7,zNc];rw[h1]⟩
theorem zLI {l:List (List (List Trm))} {d:D} (hd:zf 1 (zM8 l) d) (h:Heap):zCr Tryz.prog 65 d h=some (.int .i64 l.length):=by rw[yo hd Tryz.underlying65,zBd]
theorem zOo {l:List (List (List Trm))} {d:D} (hd:zf 1 (zM8 l) d) {i:Nat} (hi:i<l.length):zT Tryz.prog 65 d (.int .i64 (i:Int))=some (.iptr [zNc l[i]] 0):=zY hd zKf zMJ (zXL hi)
def zCB (c:Cat) (e:Ex):Int:=if(zAd c e==0)=true then(match zFK c e with
 |some _=>0
 |none=>10) else zAd c e
def ofL (c:Cat) (e:Ex):List (List Trm):=(zFK c e).getD []
abbrev zjO:=List (List (List Trm)) ×List (List UInt8) ×Int
def zEB (c:Cat):List Fac→List (List (List Trm))→List (List UInt8)→zjO
 | [],t,o=>(t,o,0)
 |f::fs,t,o=>if(f.kind==1)=true then(if(zCB c f.e==0)=true then zEB c fs (t++ [ofL c f.e]) o else([],[],zCB c f.e))
  else if(f.kind==2)=true then zEB c fs t (if(o.any (· ==f.out))=true then o else o++ [f.out]) else zEB c fs t o
def zH (c:Cat) (l:List Fac):zjO:=if(!((yq c l).2==0))=true then([],[],(yq c l).2) else zEB c l [] []
theorem zfl {c:Cat} {e:Ex} (h:(zCB c e==0)=true):ofD c e= .tuple [zNc (ofL c e), .int .i64 0]:=by
 unfold zCB at h;unfold ofD ofL zDq;split at h
 ·rename_i q;rw[if_pos q];split at h
  ·rename_i l hl;rw[hl];rfl
  ·exact absurd h (by decide)
 ·rename_i q;exact absurd h q
theorem za9 {c:Cat} {e:Ex} (h:(zCB c e==0)=false):ofD c e= .tuple [.nilsl, .int .i64 (zCB c e)]:=by
 unfold zCB at h⊢;unfold ofD zDq;split at h
 ·rename_i q;rw[if_pos q,if_pos q];split at h
  ·exact absurd h (by decide)
  ·rename_i hl;rw[hl];rfl
 ·rename_i q;rw[if_neg q,if_neg q]
theorem zbA (a:List (List Trm)) (nid:Nat) (h:Heap):zK Tryz.prog false nid 65 1 [(0,zNc a)] h=some (.sl 1 [[zNc a]] .full,h):=
 yU (P:=Tryz.prog) (x:=zNc a) zKf zV4 zMJ rfl rfl (by omega) (by omega) rfl rfl
structure ValI (c:Cat) (l:List Fac) (R:zjO) (g:Heap) (i:Nat) (t:List (List (List Trm))) (o:List (List UInt8)) (td od:D) (h:Heap):Prop where
 own:Own2 g h 1 (zM8 t) td 1 (yW o) od
 eq:zEB c (l.drop i) t o=R
 tl:t.length≤i
 ol:o.length≤i
set_option maxHeartbeats 8000000 in
theorem zQg {c:Cat} {d x:D} (hc:qW c d) (hs:c.Sm) {l:List Fac} (hx:zf 12 (zFC l) x) (hl:l.length≤1048576) (hok:∀f∈l,f.Ok) (g:Heap):
  zA Tryz.prog 24 [d,x] g fun r h'=>h'=g∧∃td od,r= .tuple [td,od, .int .i64 (zH c l).2.2]∧Fin 1 (zM8 (zH c l).1) td∧Fin 1 (yW (zH c l).2.1) od:=by
 have hck:=zOe hc hs hx hl hok;have hof:=fun f (hf:f∈l)=>za8 hc hs (hok f hf).e (hok f hf).es;have hlen:=zAi hx;have h12:=zK5;obtain⟨ca,cb,ce,cp,rfl,_,_,_,_⟩:=hc;have hv4:∀a b c e:D,zO true 4 [a,b,c,e] 0=some (.agg [a,b,c,e]):=fun a b c e=>zB rfl (by omega);refine zA.pure (by kernel_rfl) fun hok'=>zA.strip ?_;refine zA.post fun Q hQ=> ?_;have hE0:=Own2.start (Ext.refl g) 1 1;refine zA.of_fn (g:=zWU) mix Tryz.func24 zkZ rfl rfl ?_;simp only[Tryz.f24,gJ];cases q1:((yq c l).2==0) with
 |false=>
  have hR:zH c l=([],[],(yq c l).2):=by unfold zH;rw[q1];rfl
  have hq:=hQ (.tuple [.nilsl, .nilsl, .int .i64 (yq c l).2]) g ⟨Ext.refl g,by simp[yE,z7,below,zg], .nilsl, .nilsl,by rw[hR];rfl, .inl ⟨rfl,by rw[hR];rfl⟩, .inl ⟨rfl,by rw[hR];rfl⟩⟩;clear hQ hof hR
  repeat' first|simp only[go_sem,zTj, *]|apply bc<;>intro hc|(refine zA.mono (hck _) ?_;rintro r h ⟨rfl,rfl⟩)
 |true=>
 have hR:zH c l=zEB c l [] []:=by unfold zH;rw[q1];rfl
 obtain⟨R,eR⟩:∃R,zEB c l [] []=R:=⟨_,rfl⟩;rw[hR,eR] at hQ;clear hR
 repeat' first|simp only[go_sem,zTj, *]|apply bc<;>intro hc|(refine zA.mono (hck _) ?_;rintro r h ⟨hq,rfl⟩)
 refine zG (fun i fr h=>∃t o td od,fr 2= .iptr [ca,cb,ce,cp] 0∧fr 24=x∧fr 25= .int .i64 (l.length:Int)∧fr 26= .int .i64 (i:Int)∧fr 9=td∧fr 10=od∧ValI c l R g i t o td od h) l.length (by omega) ?_ ?_ ?_
 ·have h0:ValI c l R g 0 [] [] .nilsl .nilsl g:=⟨hE0,eR,Nat.le_refl _,Nat.le_refl _⟩;simp only[go_sem,zTj,true_and,and_true,Int.ofNat_zero];exact⟨_,_,_,_,rfl,rfl,h0⟩
 ·clear hck;rintro i fr h2 hlt ec ew ⟨t,o,td,od,f2,f24,f25,f26,f9,f10,⟨hown,hK,htl,hol⟩⟩;have a1:=yy hx hlt;have hfo:=hok _ (List.getElem_mem hlt);have hfc:=hof _ (List.getElem_mem hlt);have hst:=zFD hfo h2 h2.next;rw[List.drop_eq_getElem_cons hlt,zEB] at hK;have hrow:(h2.new h2.next (.row l[i].cells)).at' h2.next=some (.row l[i].cells):=zJ _ _ _;have hown2:=hown.ext ((Ext.refl h2).new (Nat.le_refl _) (.row l[i].cells));have hcon:=fun(h:Heap)=>zCZ hown.b.isSl (by omega:o.length≤1048576) l[i].out h;generalize l[i]=f at *
  simp only[Fac.cells,Ex.cells] at a1 hst hrow hown2 hfc;generalize hH:h2.new h2.next (.row [.int .i64 f.kind, .str f.comp, .str f.out, .int .i64 f.rel, .int .i64 f.way, .int .i64 f.duty, .bool f.chg, .int .i64 f.e.kind, .str f.e.name, .str f.e.exc,f.e.d,f.d])=H at *
  have hpe:zO true 4 [.int .i64 f.kind, .str f.comp, .str f.out, .int .i64 f.rel, .int .i64 f.way, .int .i64 f.duty, .bool f.chg, .int .i64 f.e.kind, .str f.e.name, .str f.e.exc,f.e.d,f.d] 7=some (.agg [.int .i64 f.e.kind, .str f.e.name, .str f.e.exc,f.e.d]):=rfl;clear hown hof;cases q2:(f.kind==1) with
  |true=>
   rw[if_pos q2] at hK;cases q3:(zCB c f.e==0) with
   |true=>
    rw[if_pos q3] at hK;rw[zfl q3] at hfc;have hone:=zbA (ofL c f.e);clear hQ hcon
    repeat' first|simp only[go_sem,zTj, *]|apply bc<;>intro hc|(refine zA.mono (hfc _) ?_;rintro r h ⟨hq,rfl⟩)
    subst hq;refine hown2.appH (zs:=zM8 [ofL c f.e]) zKf zZW zMJ (by omega) (zXM _) (by simp[zM8]) (by rw[zBd,zBd,zS1];unfold lim;simp;omega) (by rw[zBd,zBd];unfold lim;simp;omega) fun d' h' ho'=> ?_;have hres:ValI c l R g (i+1) (t++ [ofL c f.e]) o d' od h':=⟨by
     have:zM8 (t++ [ofL c f.e])=zM8 t++zM8 [ofL c f.e]:=by simp[zM8]
     rw[this];exact ho',hK,by simp;omega,by omega⟩
    clear ho' hown2 hK
    repeat' first|simp only[go_sem,zTj, *]|apply bc<;>intro hc
    exact⟨_,_,_,_,rfl,rfl,hres⟩
   |false=>
    rw[if_neg (by rw[q3];exact Bool.false_ne_true)] at hK;rw[za9 q3] at hfc;have hq:=hQ (.tuple [.nilsl, .nilsl, .int .i64 (zCB c f.e)]) H ⟨hown2.a.1,by simp[yE,z7,below,zg], .nilsl, .nilsl,by rw[←hK];rfl, .inl ⟨rfl,by rw[←hK];rfl⟩, .inl ⟨rfl,by rw[←hK];rfl⟩⟩;clear hQ hcon hown2 hK
    repeat' first|simp only[go_sem,zTj, *]|apply bc<;>intro hc|(refine zA.mono (hfc _) ?_;rintro r h ⟨rfl,rfl⟩)
  |false=>
   rw[if_neg (by rw[q2];exact Bool.false_ne_true)] at hK;clear hQ hfc;cases q3:(f.kind==2) with
   |true=>
    rw[if_pos q3] at hK;cases q4:(o.any (· ==f.out)) with
    |true=>
     rw[if_pos q4] at hK;rw[q4] at hcon;have hres:ValI c l R g (i+1) t o td od H:=⟨hown2,hK,by omega,by omega⟩;clear hown2 hK
     repeat' first|simp only[go_sem,zTj, *]|apply bc<;>intro hc|(refine zA.mono (hcon _) ?_;rintro r h ⟨hq,rfl⟩)
     subst hq;exact⟨_,_,_,_,rfl,rfl,hres⟩
    |false=>
     rw[if_neg (by rw[q4];exact Bool.false_ne_true)] at hK;rw[q4] at hcon;have hone:=zEL f.out
     repeat' first|simp only[go_sem,zTj, *]|apply bc<;>intro hc|(refine zA.mono (hcon _) ?_;rintro r h ⟨hq,rfl⟩)
     subst hq;refine hown2.swap.appH (zs:=yW [f.out]) qQ zJV zBg (by omega) zGz (by simp[yW]) (by rw[z6,zCR];unfold lim;simp[yW];omega) (by rw[z6];unfold lim;simp[yW];omega) fun d' h' ho'=> ?_;have hres:ValI c l R g (i+1) t (o++ [f.out]) td d' h':=⟨by
      have:yW (o++ [f.out])=yW o++yW [f.out]:=by simp[yW]
      rw[this];exact ho'.swap,hK,by omega,by simp;omega⟩
     clear ho' hown2 hK
     repeat' first|simp only[go_sem,zTj, *]|apply bc<;>intro hc
     exact⟨_,_,_,_,rfl,rfl,hres⟩
   |false=>
    rw[if_neg (by rw[q3];exact Bool.false_ne_true)] at hK;have hres:ValI c l R g (i+1) t o td od H:=⟨hown2,hK,by omega,by omega⟩;clear hown2 hK hcon
    repeat' first|simp only[go_sem,zTj, *]|apply bc<;>intro hc
    exact⟨_,_,_,_,rfl,rfl,hres⟩
 ·rintro fr h2 ec ⟨t,o,td,od,f2,f24,f25,f26,f9,f10,⟨hown,hK,htl,hol⟩⟩;rw[List.drop_length,zEB] at hK;have hf1:=hown.a.2.1.fin (zRp t);have hf2:=hown.b.2.1.fin (qe (l:=o));have hq:=hQ (.tuple [td,od, .int .i64 0]) h2 ⟨hown.a.1,by
   simp only[yE,z7,below,zg];exact⟨zz (Nat.zero_le _) _ hf1.1,zz (Nat.zero_le _) _ hf2.1,trivial,trivial⟩,yE td,yE od,by rw[←hK];rfl,by rw[←hK];exact hf1.2,by rw[←hK];exact hf2.2⟩
  clear hQ hown hK hf1 hf2
  repeat' first|simp only[go_sem,zTj, *]|apply bc<;>intro hc
def zLj (a b:List Trm):Bool:=zGQ zN a b==0
theorem zCl (a b:List Trm):zLj a b=true↔a=b:=by
 unfold zLj;constructor
 ·intro h;exact zK9 zFJ _ _ (by simpa using h)
 ·rintro rfl;simp[zDM.list.refl]
theorem zbB (a b:Nat):((a:Int)==(b:Int))=(a==b):=by
 by_cases h:a=b
 ·simp[h]
 ·rw[beq_eq_false_iff_ne.2 h,beq_eq_false_iff_ne.2 (by omega)]
theorem zbC (x y:Trm) (c:Bool):zCz Tryz.prog .neq 79 c (.agg [.str x.a, .str x.b]) (.agg [.str y.a, .str y.b])=some (.bool (!(zN x y==0))):=by
 have he:eqT Tryz.prog 79=some [.s, .s]:=by kernel_rfl
 rw[zDj];simp only[zCz,he,zQx,eqK,Option.map_some,Bool.and_true,zAJ]
theorem zXN {a b:List Trm} {x y:D} (hx:zf 2 (qN a) x) (hy:zf 2 (qN b) y) (hl:a.length≤1048576) (g:Heap):
  zA Tryz.prog 72 [x,y] g fun r h'=>h'=g∧r= .bool (zLj a b):=by
 have l1:=ql hx;have l2:=ql hy;have hv2:∀a b:D,zO true 2 [a,b] 0=some (.agg [a,b]):=fun a b=>zB rfl (by omega);refine zA.post fun Q hQ=> ?_;have hq:=hQ _ _ ⟨rfl,rfl⟩;clear hQ;refine zA.of_fn (g:=zWY) mix Tryz.func72 zke rfl rfl ?_;simp only[Tryz.f72,gJ];cases q:((a.length:Int)==(b.length:Int)) with
 |false=>
  have hne:zLj a b=false:=by
   cases h:zLj a b with
   |false=>rfl
   |true=>rw[(zCl _ _).1 h] at q;simp at q
  rw[hne] at hq
  repeat' first|simp only[go_sem,zYa, *]|apply bc<;>intro hc
 |true=>
 have hle:a.length≤b.length∧b.length≤a.length:=by have:=of_decide_eq_true q;omega
 obtain⟨hle1,hle2⟩:=hle
 repeat' first|simp only[go_sem,zYa, *]|apply bc<;>intro hc
 refine zG (fun i fr h=>fr 0=x∧fr 1=y∧fr 12= .int .i64 (a.length:Int)∧fr 13= .int .i64 (i:Int)∧h=g∧a.take i=b.take i) a.length (by omega) ?_ ?_ ?_
 ·simp only[go_sem,zYa,true_and,and_true,Int.ofNat_zero];rfl
 ·rintro i fr h hlt ec ew ⟨f0,f1,f12,f13,rfl,ht⟩;have hlt2:i<b.length:=by omega
  have a1:=zBv hx hlt;have a2:=zBv hy hlt2;have hn:=zbC a[i] b[i];have h1:∀ (e:(zN a[i] b[i]==0)=true),a.take (i+1)=b.take (i+1):=fun e=>by
   have he:=zFJ a[i] b[i] (by simpa using e);rw[List.take_succ_eq_append_getElem hlt,List.take_succ_eq_append_getElem hlt2,ht,he]
  have h2:∀ (e:(zN a[i] b[i]==0)=false),zLj a b=false:=fun e=>by
   cases h:zLj a b with
   |false=>rfl
   |true=>
    have:=(zCl _ _).1 h;subst this;rw[zDM.refl] at e;exact absurd e (by decide)
  generalize a[i]=u at *
  generalize b[i]=v at *
  simp only[Trm.cells] at a1 a2;cases qq:(zN u v==0) with
  |true=>
   have hres:=h1 qq;rw[qq] at hn;clear h1 h2 ht hq
   repeat' first|simp only[go_sem,zYa, *]|apply bc<;>intro hc
   refine zS (by kernel_rfl) ?_
   repeat' first|simp only[go_sem,zYa, *]|apply bc<;>intro hc
  |false=>
   rw[h2 qq] at hq;rw[qq] at hn;clear h1 h2 ht
   repeat' first|simp only[go_sem,zYa, *]|apply bc<;>intro hc
   refine zS (by kernel_rfl) ?_
   repeat' first|simp only[go_sem,zYa, *]|apply bc<;>intro hc
 ·rintro fr h ec ⟨f0,f1,f12,f13,rfl,ht⟩
  have:a=b:=by
   rw[List.take_length,show a.length=b.length by omega,List.take_length] at ht;exact ht
  rw[(zCl _ _).2 this] at hq;clear ht this
  repeat' first|simp only[go_sem,zYa, *]|apply bc<;>intro hc
theorem zjP {a b:List Trm} {x y:D} (hx:zf 2 (qN a) x) (hy:zf 2 (qN b) y) (hl:a.length≤1048576) {id:Nat} {g:Heap} (hi:g.at' id=some (.row [x])):
  zA Tryz.prog 71 [y, .ptr id 0] g fun r h'=>h'=g∧r= .bool (zLj a b):=by
 have hc:=zXN hx hy hl;refine zA.of_fn (g:=zWP) mix Tryz.func71 zkV rfl rfl ?_;simp only[Tryz.f71,gJ]
 repeat' first|simp only[go_sem,zlW, *]|apply bc<;>intro hc|(refine zA.mono (hc _) ?_;rintro r h ⟨rfl,rfl⟩)
theorem zM9 {l:List Lic} {d:D} (hd:zf 4 (zCc l) d) (hl:l.length≤1048576) {f:FuncId} {cap:List D} {p:Lic→Bool} {g:Heap} (hp:∀s∈l,zA Tryz.prog f ([]++ [.agg s.cells]++cap) g fun r h'=>h'=g∧r= .bool (p s)):
  zA Tryz.prog 105 [d, .fn (.func f) [] cap] g fun r h'=>h'=g∧r= .int .i64 (zLi p l):=by
 have hlen:=wl hd;have hv4:∀a b c e:D,zO true 4 [a,b,c,e] 0=some (.agg [a,b,c,e]):=fun a b c e=>zB rfl (by omega);refine zA.of_fn (g:=zPb) mix Tryz.func105 zda rfl rfl ?_;simp only[Tryz.f105,gJ]
 repeat' first|simp only[go_sem,zTC, *]|apply bc<;>intro hc
 refine zG (fun i fr h=>fr 1= .fn (.func f) [] cap∧fr 0=d∧fr 6=d∧fr 7= .int .i64 (l.length:Int)∧fr 8= .int .i64 (i:Int)∧h=g∧∀j (hj:j<l.length),j<i→p l[j]=false) l.length (by omega) ?_ ?_ ?_
 ·simp only[go_sem,zTC,true_and,and_true,Int.ofNat_zero];exact fun j hj h0=>by omega
 ·rintro i fr h hlt e1 ew ⟨f1,f0,f6,f7,f8,rfl,hj⟩;have a1:=wp hd hlt;have hq:=hp _ (List.getElem_mem hlt);simp only[List.nil_append,List.cons_append,Lic.cells] at hq;simp only[Lic.cells] at a1;cases hb:p l[i] with
  |true=>
   have hx:=zCd hlt hj hb;rw[hb] at hq;clear hj hp hd
   repeat' first|simp only[go_sem,zTC, *]|apply bc<;>intro hc|(refine zA.mono hq ?_;rintro r h ⟨rfl,rfl⟩)
  |false=>
   have hn:=yi (p:=p) hlt hj hb;rw[hb] at hq;clear hj hp hd
   repeat' first|simp only[go_sem,zTC, *]|apply bc<;>intro hc|(refine zA.mono hq ?_;rintro r h ⟨rfl,rfl⟩)
   exact hn
 ·rintro fr h e1 ⟨f1,f0,f6,f7,f8,rfl,hj⟩;have hx:=zCe (p:=p) fun j hj'=>hj j hj' hj';clear hj hp hd
  repeat' first|simp only[go_sem,zTC, *]|apply bc<;>intro hc
theorem zIS {l:List Lic} {d:D} (hd:zf 4 (zCc l) d) (hl:l.length≤1048576) {f:FuncId} {cap:List D} {p:Lic→Bool} {g:Heap} (hp:∀s∈l,zA Tryz.prog f ([]++ [.agg s.cells]++cap) g fun r h'=>h'=g∧r= .bool (p s)):
  zA Tryz.prog 73 [d, .fn (.func f) [] cap] g fun r h'=>h'=g∧r= .bool (l.any p):=by
 have hix:=zM9 hd hl hp;have hge:=zDG (l:=l) (p:=p);refine zA.of_fn (g:=zWd) mix Tryz.func73 zkk rfl rfl ?_;simp only[Tryz.f73,gJ]
 repeat' first|simp only[go_sem,zln, *]|apply bc<;>intro hc|(refine zA.mono hix ?_;rintro r h ⟨rfl,rfl⟩)
theorem zjQ (x:Lic) (s:List UInt8) {id:Nat} {g:Heap} (hi:g.at' id=some (.row [.str s])):
  zA Tryz.prog 74 [.agg x.cells, .ptr id 0] g fun r h'=>h'=g∧r= .bool (x.name==s):=by
 refine zA.of_fn (g:=zWm) mix Tryz.func74 zks rfl rfl ?_;simp only[Tryz.f74,gJ];simp only[Lic.cells]
 repeat' first|simp only[go_sem,zlw, *]|apply bc<;>intro hc
structure Cho where
 ts:List Alt
 own:List (List UInt8)
structure Alt.Sm (a:Alt):Prop where
 sl:zf 2 (qN a.ts) a.d
 len:a.ts.length≤1048576
def zbD (y:Cho) (d:D):Prop:=∃a b,d= .agg [a,b]∧zf 1 (yO y.ts) a∧zf 1 (yW y.own) b
structure Cho.Sm (y:Cho):Prop where
 tl:y.ts.length≤1048576
 ol:y.own.length≤1048576
 ts:∀a∈y.ts,a.Sm
def zA9 (v:List (List (List Trm))) (ts:List Alt) (p:Bool) (i:Nat):Int:=match ts[i]? with
 |none=>0
 |some a=>if(p&&((a.ts.length:Int)==0))=true then 0 else if(!((v.getD i []).any fun b=>zLj a.ts b))=true then 1 else 0
def zQh (c:Cat) (own:List (List UInt8)) (p:Bool) (i:Nat):Int:=match own[i]? with
 |none=>0
 |some s=>if(p&&(s== []))=true then 0 else if(!(c.ls.any fun x=>x.name==s))=true then 7 else 0
def zi (c:Cat) (l:List Fac) (y:Cho) (p:Bool):Int:=
 if(!((zH c l).2.2==0))=true then(zH c l).2.2
 else if(!((y.ts.length:Int)==((zH c l).1.length:Int))|| !((y.own.length:Int)==((zH c l).2.1.length:Int)))=true then 9
 else if(!(zDH (zA9 (zH c l).1 y.ts p) y.ts.length==0))=true then zDH (zA9 (zH c l).1 y.ts p) y.ts.length
 else zDH (zQh c y.own p) y.own.length
theorem zYu {c:Cat} {e:Ex} (h:(zCB c e==0)=true):(ofL c e).length≤64∧AltsOk 64 (ofL c e):=by
 unfold zCB at h;unfold ofL;split at h
 ·rename_i q;obtain⟨_,h2,h3⟩:=zUv (show zAd c e=0 by simpa using q);split at h
  ·rename_i l hl;have:=(zOn (c:=c) e.size).1 e (Nat.le_refl _) h3 l hl;rw[hl];exact⟨this.1,this.2.mono h2⟩
  ·exact absurd h (by decide)
 ·rename_i q;exact absurd h q
theorem zLJ {c:Cat} :∀ {l:List Fac} {t:List (List (List Trm))} {o:List (List UInt8)},(∀a∈t,a.length≤64∧AltsOk 64 a)→∀a∈(zEB c l t o).1,a.length≤64∧AltsOk 64 a
 | [],t,o,h=>by rw[zEB];exact h
 |f::fs,t,o,h=>by
  rw[zEB];split
  ·split
   ·rename_i q;exact zLJ fun a ha=>by
     rcases List.mem_append.1 ha with g|g
     ·exact h a g
     ·cases List.mem_singleton.1 g;exact zYu q
   ·intro a ha;cases ha
  ·split
   ·exact zLJ h
   ·exact zLJ h
theorem zBe {c:Cat} {l:List Fac} :∀a∈(zH c l).1,a.length≤64∧AltsOk 64 a:=by
 unfold zH;split
 ·intro a ha;cases ha
 ·exact zLJ fun a ha=>by cases ha
set_option maxHeartbeats 8000000 in
theorem zLK {c:Cat} {d x z:D} (hc:qW c d) (hs:c.Sm) {l:List Fac} (hx:zf 12 (zFC l) x) (hl:l.length≤1048576) (hok:∀f∈l,f.Ok) {y:Cho} (hy:zbD y z) (hys:y.Sm) (p:Bool) (g:Heap):
  zA Tryz.prog 39 [d,x,z, .bool p] g fun r h'=>h'=g∧r= .int .i64 (zi c l y p):=by
 have hva:=zQg hc hs hx hl hok;have hcd:=hc;obtain⟨ca,cb,ce,cp,rfl,hca,_,_,_⟩:=hc;obtain⟨ya,yb,rfl,ha,hb⟩:=hy;obtain⟨y1,y2,y3⟩:=hys;have hv4:∀a b c e:D,zO true 4 [a,b,c,e] 0=some (.agg [a,b,c,e]):=fun a b c e=>zB rfl (by omega);have hlA:=zCi ha;have hlB:=yw hb;refine zA.pure (by kernel_rfl) fun hok'=> ?_;refine zA.post fun Q hQ=> ?_;obtain⟨E,hE⟩:∃E,zi c l y p=E:=⟨_,rfl⟩;have hQ2:∀h',Ext g h'→Q (.int .i64 E) h':=fun h' he=>hQ _ _ ⟨he,trivial,by rw[hE]⟩;clear hQ;unfold zi at hE;refine zA.of_fn (g:=zWA) mix Tryz.func39 zkA rfl rfl ?_;simp only[Tryz.f39,gJ]
 repeat' first|simp only[go_sem,zKj, *]|apply bc<;>intro hc
 refine(hva _).mono ?_;rintro r h ⟨hq,td,od,rfl,htd,hod⟩;subst hq;clear hva;have e0:=Ext.refl h;have htd:zf 1 (zM8 (zH c l).1) td:=htd.isSl;have hod:zf 1 (yW (zH c l).2.1) od:=hod.isSl;have hl1:=zLI htd;have hl2:=yw hod;have hvo:∀a∈(zH c l).1,a.length≤1048576:=fun a ha=>Nat.le_trans (zBe a ha).1 (by omega);cases q1:((zH c l).2.2==0) with
 |false=>
  rw[if_pos (by rw[q1];rfl)] at hE;have hq:=hQ2 h e0;rw[←hE] at hq;clear hQ2 hE
  repeat' first|simp only[go_sem,zKj, *]|apply bc<;>intro hc
 |true=>
 rw[if_neg (by rw[q1];decide)] at hE;generalize zH c l=v at *
 cases q2:((y.ts.length:Int)==(v.1.length:Int)) with
 |false=>
  rw[if_pos (by rw[q2];rfl)] at hE;have hq:=hQ2 h e0;rw[←hE] at hq;clear hQ2 hE
  repeat' first|simp only[go_sem,zKj, *]|apply bc<;>intro hc
 |true=>
 cases q3:((y.own.length:Int)==(v.2.1.length:Int)) with
 |false=>
  rw[if_pos (by rw[q2,q3];rfl)] at hE;have hq:=hQ2 h e0;rw[←hE] at hq;clear hQ2 hE
  repeat' first|simp only[go_sem,zKj, *]|apply bc<;>intro hc
 |true=>
 rw[if_neg (by rw[q2,q3];decide)] at hE;have hlt1:y.ts.length≤v.1.length:=by have:=of_decide_eq_true q2;omega
 obtain⟨F,hF⟩:∃F,zDH (zA9 v.1 y.ts p) y.ts.length=F:=⟨_,rfl⟩;rw[hF] at hE
 repeat' first|simp only[go_sem,zKj, *]|apply bc<;>intro hc
 clear q1;refine zG (fun i fr h2=>fr 3= .bool p∧fr 4= .iptr [ca,cb,ce,cp] 0∧fr 6= .iptr [ya,yb] 0∧fr 9=td∧fr 41=ya∧fr 42= .int .i64 (y.ts.length:Int)∧fr 43= .int .i64 (i:Int)∧Ext h h2∧∀j,j<i→zA9 v.1 y.ts p j=0) y.ts.length (by omega) ?_ ?_ ?_
 ·have h0:∀j,j<0→zA9 v.1 y.ts p j=0:=fun j hj=>absurd hj (Nat.not_lt_zero _);simp only[go_sem,zKj,true_and,and_true,Int.ofNat_zero];exact⟨e0,h0⟩
 ·rintro i fr h2 hlt ec ew ⟨f3,f4,f6,f9,f41,f42,f43,he,hj⟩;have a1:=zDN ha hlt;have a2:=zOo htd (show i<v.1.length by omega);have sm:=y3 _ (List.getElem_mem hlt);have hte:zA9 v.1 y.ts p i=if(p&&((y.ts[i].ts.length:Int)==0))=true then 0 else if(!(v.1[i].any fun b=>zLj y.ts[i].ts b))=true then 1 else 0:=by
   unfold zA9;rw[List.getElem?_eq_getElem hlt];simp only;rw[List.getD_eq_getElem?_getD,List.getElem?_eq_getElem (by omega)];rfl
  have hnx:=fun(e:zA9 v.1 y.ts p i=0)=>wa (f:=zA9 v.1 y.ts p) hj e;have hat:=fun(e:zA9 v.1 y.ts p i≠0)=>zCg (f:=zA9 v.1 y.ts p) hlt hj e;rw[hF] at hat;have hrow:(h2.new h2.next (.row [y.ts[i].d])).at' h2.next=some (.row [y.ts[i].d]):=zJ _ _ _;have heN:=he.new he.1 (.row [y.ts[i].d]);have hcf:=zDO (l:=v.1[i].map mkA) (d:=zNc v.1[i]) (zf.mk .no) (by rw[List.length_map];exact hvo _ (List.getElem_mem _)) (f:=71) (cap:=[.ptr h2.next 0]) (p:=fun b=>zLj y.ts[i].ts b.ts) (g:=h2.new h2.next (.row [y.ts[i].d])) (fun s hs=>by
   obtain⟨t,ht,rfl⟩:=List.mem_map.1 hs;exact⟨zf.mk .no,zjP sm.sl (zf.mk .no) sm.len hrow⟩)
  have hany:(v.1[i].map mkA).any (fun b=>zLj y.ts[i].ts b.ts)=v.1[i].any fun b=>zLj y.ts[i].ts b:=by rw[List.any_map];rfl
  rw[hany] at hcf;clear hany;obtain⟨k1,k2,k3⟩:=zM sm.sl;have hla:=ql sm.sl;generalize y.ts[i]=a at *
  generalize v.1[i]=b at *
  have hst:zQ Tryz.prog 62 (.ptr h2.next 0) a.d (h2.new h2.next (.row [.nilsl]))=some (h2.new h2.next (.row [a.d])):=by
   rw[zV (off:=0) (zJ _ _ _) zBV (by simp) k1 k3,zCW];rfl
  have had:(zNc b).notTuple=true:=rfl;generalize h2.new h2.next (.row [a.d])=H at *
  clear hj hF ha hb htd hod y3 sm q2 q3;cases hp:p with
  |true=>
   subst hp;cases qa:((a.ts.length:Int)==0) with
   |true=>
    have hn:=hnx (by rw[hte,qa];rfl);clear hnx hat hte hcf hQ2 hE
    repeat' first|simp only[go_sem,zKj, *]|apply bc<;>intro hc
    exact hn
   |false=>
    rw[if_neg (by rw[qa];decide)] at hte;cases qb:(b.any fun t=>zLj a.ts t) with
    |true=>
     have hn:=hnx (by rw[hte,qb];rfl);rw[qb] at hcf;clear hnx hat hte hQ2 hE
     repeat' first|simp only[go_sem,zKj, *]|apply bc<;>intro hc|(refine zA.mono hcf ?_;rintro r h ⟨hq,rfl⟩)
     subst hq;exact hn
    |false=>
     have h1:F=1:=by rw[hat (by rw[hte,qb];decide),hte,qb];rfl
     subst h1;rw[if_pos (by decide)] at hE;have hq:=hQ2 H heN;rw[←hE] at hq;rw[qb] at hcf;clear hnx hat hte hQ2 hE
     repeat' first|simp only[go_sem,zKj, *]|apply bc<;>intro hc|(refine zA.mono hcf ?_;rintro r h ⟨rfl,rfl⟩)
  |false=>
   subst hp;rw[if_neg (by rw[Bool.false_and];decide)] at hte;cases qb:(b.any fun t=>zLj a.ts t) with
   |true=>
    have hn:=hnx (by rw[hte,qb];rfl);rw[qb] at hcf;clear hnx hat hte hQ2 hE
    repeat' first|simp only[go_sem,zKj, *]|apply bc<;>intro hc|(refine zA.mono hcf ?_;rintro r h ⟨hq,rfl⟩)
    subst hq;exact hn
   |false=>
    have h1:F=1:=by rw[hat (by rw[hte,qb];decide),hte,qb];rfl
    subst h1;rw[if_pos (by decide)] at hE;have hq:=hQ2 H heN;rw[←hE] at hq;rw[qb] at hcf;clear hnx hat hte hQ2 hE
    repeat' first|simp only[go_sem,zKj, *]|apply bc<;>intro hc|(refine zA.mono hcf ?_;rintro r h ⟨rfl,rfl⟩)
 ·rintro fr h2 ec ⟨f3,f4,f6,f9,f41,f42,f43,he,hj⟩;have hF0:F=0:=by rw[←hF];exact qF hj
  subst hF0;rw[if_neg (by decide)] at hE;clear hF hj htd hl1 hlt1 q2 q3
  repeat' first|simp only[go_sem,zKj, *]|apply bc<;>intro hc
  refine zG (fun i fr h2=>fr 3= .bool p∧fr 4= .iptr [ca,cb,ce,cp] 0∧fr 63=yb∧fr 64= .int .i64 (y.own.length:Int)∧fr 65= .int .i64 (i:Int)∧Ext h h2∧∀j,j<i→zQh c y.own p j=0) y.own.length (by omega) ?_ ?_ ?_
  ·have h0:∀j,j<0→zQh c y.own p j=0:=fun j hj=>absurd hj (Nat.not_lt_zero _);simp only[go_sem,zKj,true_and,and_true,Int.ofNat_zero];exact⟨f3,f4,he,h0⟩
  ·clear he;rintro i fr h2 hlt ec ew ⟨f3,f4,f63,f64,f65,he,hj⟩;have a1:=zAb hb hlt;have hte:zQh c y.own p i=if(p&&(y.own[i]== []))=true then 0 else if(!(c.ls.any fun x=>x.name==y.own[i]))=true then 7 else 0:=by
    unfold zQh;rw[List.getElem?_eq_getElem hlt]
   have hnx:=fun(e:zQh c y.own p i=0)=>wa (f:=zQh c y.own p) hj e;have hat:=fun(e:zQh c y.own p i≠0)=>zCg (f:=zQh c y.own p) hlt hj e;rw[hE] at hat;generalize y.own[i]=s at *
   have hrow:(h2.new h2.next (.row [.str s])).at' h2.next=some (.row [.str s]):=zJ _ _ _;have heN:=he.new he.1 (.row [.str s]);have hcf:=zIS hca hs.ls.1 (f:=74) (cap:=[.ptr h2.next 0]) (p:=fun x=>x.name==s) (g:=h2.new h2.next (.row [.str s])) (fun x _=>zjQ x s hrow);have hst:zQ Tryz.prog 9 (.ptr h2.next 0) (.str s) (h2.new h2.next (.row [.str []]))=some (h2.new h2.next (.row [.str s])):=by
    rw[zV (off:=0) (zJ _ _ _) zBg (by simp) rfl rfl,zCW];rfl
   generalize h2.new h2.next (.row [.str s])=H at *
   clear hj hE ha hb hod y3;cases hp:p with
   |true=>
    subst hp;cases qa:(s== []) with
    |true=>
     have hn:=hnx (by rw[hte,qa];rfl);clear hnx hat hte hcf hQ2
     repeat' first|simp only[go_sem,zKj, *]|apply bc<;>intro hc
     exact hn
    |false=>
     rw[if_neg (by rw[qa];decide)] at hte;cases qb:(c.ls.any fun x=>x.name==s) with
     |true=>
      have hn:=hnx (by rw[hte,qb];rfl);rw[qb] at hcf;clear hnx hat hte hQ2
      repeat' first|simp only[go_sem,zKj, *]|apply bc<;>intro hc|(refine zA.mono hcf ?_;rintro r h ⟨hq,rfl⟩)
      subst hq;exact hn
     |false=>
      have h1:E=7:=by rw[hat (by rw[hte,qb];decide),hte,qb];rfl
      subst h1;have hq:=hQ2 H heN;rw[qb] at hcf;clear hnx hat hte hQ2
      repeat' first|simp only[go_sem,zKj, *]|apply bc<;>intro hc|(refine zA.mono hcf ?_;rintro r h ⟨rfl,rfl⟩)
   |false=>
    subst hp;rw[if_neg (by rw[Bool.false_and];decide)] at hte;cases qb:(c.ls.any fun x=>x.name==s) with
    |true=>
     have hn:=hnx (by rw[hte,qb];rfl);rw[qb] at hcf;clear hnx hat hte hQ2
     repeat' first|simp only[go_sem,zKj, *]|apply bc<;>intro hc|(refine zA.mono hcf ?_;rintro r h ⟨hq,rfl⟩)
     subst hq;exact hn
    |false=>
     have h1:E=7:=by rw[hat (by rw[hte,qb];decide),hte,qb];rfl
     subst h1;have hq:=hQ2 H heN;rw[qb] at hcf;clear hnx hat hte hQ2
     repeat' first|simp only[go_sem,zKj, *]|apply bc<;>intro hc|(refine zA.mono hcf ?_;rintro r h ⟨rfl,rfl⟩)
  ·clear he;rintro fr h2 ec ⟨f3,f4,f63,f64,f65,he,hj⟩;have h1:E=0:=by rw[←hE];exact qF hj
   subst h1;have hq:=hQ2 h2 he;clear hj hQ2 hE
   repeat' first|simp only[go_sem,zKj, *]|apply bc<;>intro hc
theorem zNA (l:List Int):∀x∈wU l,x.length=1:=fun x hx=>by
 obtain⟨s,_,rfl⟩:=List.mem_map.1 hx;rfl
theorem zOp (l:List Int):∀x∈wU l,yr x:=fun x hx=>by
 obtain⟨s,_,rfl⟩:=List.mem_map.1 hx;exact⟨rfl,by simp[zg,below],rfl⟩
theorem zQi (n:Int) (nid:Nat) (h:Heap):zK Tryz.prog false nid 31 1 [(0, .int .i64 n)] h=some (.sl 1 [[.int .i64 n]] .full,h):=
 yU (P:=Tryz.prog) (x:= .int .i64 n) yG zAW wP rfl rfl (by omega) (by omega) rfl rfl
def zLL (c:Cat) (t:List (List (List Trm))) (o:List (List UInt8)) (cs:List D):Prop:=∃td od a b e p,cs= [td,od,a,b,e,p]∧zf 1 (zM8 t) td∧zf 1 (yW o) od∧qW c (.agg [a,b,e,p])
def zDr (c:Cat) (t:List (List (List Trm))) (o:List (List UInt8)):List Nat:=t.map List.length++o.map fun _=>c.ls.length
def zEC (l:List Nat):List Int:=l.map fun(n:Nat)=>(n:Int)
theorem zNB (l:List Int) (n:Int):wU (l++ [n])=wU l++wU [n]:=by simp[wU]
theorem zUz (a b c d e f:D):zO true 6 [a,b,c,d,e,f] 0=some (.agg [a,b,c,d,e,f]):=zB rfl (by omega)
set_option maxHeartbeats 4000000 in
theorem zNC {c:Cat} {t:List (List (List Trm))} {o:List (List UInt8)} {cs:List D} (hk:zLL c t o cs) (hs:c.Sm) (htl:t.length≤1048576) (hol:o.length≤1048576) (g:Heap):
  zA Tryz.prog 68 [.agg cs] g fun r h'=>h'=g∧Fin 1 (wU (zEC (zDr c t o))) r:=by
 obtain⟨td,od,a,b,e,p,rfl,ht,ho,hc⟩:=hk;obtain⟨_,_,_,_,hce,hca,_,_,_⟩:=hc;cases hce;have l1:=zLI ht;have l2:=yw ho;have l3:=wl hca;have l4:=fun(x:List (List Trm)) (h:Heap)=>zCi (l:=x.map mkA) (d:=zNc x) (zf.mk .no) h;have l5:∀ (x:List (List Trm)) (h:Heap),zCr Tryz.prog 39 (zNc x) h=some (.int .i64 (x.length:Int)):=fun x h=>by have:=l4 x h;rwa [List.length_map] at this
 clear l4;refine zA.pure (by kernel_rfl) fun hok'=>zA.strip ?_;refine zA.post fun Q hQ=> ?_;have hE0:=Own.start (Ext.refl g) 1;refine zA.of_fn (g:=zWk) mix Tryz.func68 zkr rfl rfl ?_;simp only[Tryz.f68,gJ]
 repeat' first|simp only[go_sem,zWl, *]|apply bc<;>intro hc
 refine zG (fun i fr h=>∃s,fr 1= .iptr [td,od,a,b,e,p] 0∧fr 7=td∧fr 8= .int .i64 (t.length:Int)∧fr 9= .int .i64 (i:Int)∧fr 3=s∧Own g h 1 (wU (zEC ((t.take i).map List.length))) s) t.length (by omega) ?_ ?_ ?_
 ·simp only[go_sem,zWl,true_and,and_true,Int.ofNat_zero];exact⟨_,rfl,hE0⟩
 ·rintro i fr h hlt ec ew ⟨s,f1,f7,f8,f9,f3,hown⟩;have a1:=zOo ht hlt;have hl:=l5 t[i];have htk:zEC ((t.take (i+1)).map List.length)=zEC ((t.take i).map List.length)++ [(t[i].length:Int)]:=by rw[List.take_succ_eq_append_getElem hlt,List.map_append];simp only[zEC,List.map_append];rfl
  have hli:(zEC ((t.take i).map List.length)).length=i:=by simp[zEC];omega
  rw[htk];clear htk;generalize t[i]=x at *
  generalize zEC ((t.take i).map List.length)=pre at *
  have hone:=zQi (x.length:Int);have hnt:(zNc x).notTuple=true:=rfl;clear hQ ht ho hca
  repeat' first|simp only[go_sem,zWl, *]|apply bc<;>intro hc
  refine hown.appH (ys:=wU [(x.length:Int)]) yG zSz wP (by omega) (zNA _) (by simp[wU]) (by rw[yp,zGv,hli];unfold lim;simp[wU];omega) (by rw[yp,hli];unfold lim;simp[wU];omega) fun d' h' ho'=> ?_;rw[←zNB] at ho';clear hown
  repeat' first|simp only[go_sem,zWl, *]|apply bc<;>intro hc
  exact⟨_,rfl,ho'⟩
 ·rintro fr h ec ⟨s,f1,f7,f8,f9,f3,hown⟩;rw[List.take_length] at hown;have hrad:∀j,zEC (t.map List.length++(o.take j).map fun _=>c.ls.length)=zEC (t.map List.length)++zEC ((o.take j).map fun _=>c.ls.length):=fun j=>by simp[zEC]
  repeat' first|simp only[go_sem,zWl, *]|apply bc<;>intro hc
  refine zG (fun i fr h=>∃s,fr 1= .iptr [td,od,a,b,e,p] 0∧fr 20=od∧fr 21= .int .i64 (o.length:Int)∧fr 22= .int .i64 (i:Int)∧fr 3=s∧Own g h 1 (wU (zEC (t.map List.length++(o.take i).map fun _=>c.ls.length))) s) o.length (by omega) ?_ ?_ ?_
  ·have h0:Own g h 1 (wU (zEC (t.map List.length++(o.take 0).map fun _=>c.ls.length))) s:=by simpa using hown
   simp only[go_sem,zWl,true_and,and_true,Int.ofNat_zero];exact⟨s,f1,f3,h0⟩
  ·clear hown;rintro i fr h hlt ec ew ⟨s,f1,f20,f21,f22,f3,hown⟩;have htk:zEC (t.map List.length++(o.take (i+1)).map fun _=>c.ls.length)=zEC (t.map List.length++(o.take i).map fun _=>c.ls.length)++ [(c.ls.length:Int)]:=by rw[List.take_succ_eq_append_getElem hlt,List.map_append,←List.append_assoc];simp only[zEC,List.map_append];rfl
   have hli:(zEC (t.map List.length++(o.take i).map fun _=>c.ls.length)).length=t.length+i:=by simp[zEC];omega
   rw[htk];clear htk hrad;generalize zEC (t.map List.length++(o.take i).map fun _=>c.ls.length)=pre at *
   have hone:=zQi (c.ls.length:Int);clear hQ ht ho hca
   repeat' first|simp only[go_sem,zWl, *]|apply bc<;>intro hc
   refine hown.appH (ys:=wU [(c.ls.length:Int)]) yG zSz wP (by omega) (zNA _) (by simp[wU]) (by rw[yp,zGv,hli];unfold lim;simp[wU];omega) (by rw[yp,hli];unfold lim;simp[wU];omega) fun d' h' ho'=> ?_;rw[←zNB] at ho';clear hown
   repeat' first|simp only[go_sem,zWl, *]|apply bc<;>intro hc
   exact⟨_,rfl,ho'⟩
  ·clear hown;rintro fr h ec ⟨s,f1,f20,f21,f22,f3,hown⟩;rw[List.take_length] at hown;have hf:=hown.2.1.fin (zOp _);have hq:=hQ s h ⟨hown.1,zz (Nat.zero_le _) _ hf.1,hf.2⟩;clear hQ hown hf hrad
   repeat' first|simp only[go_sem,zWl, *]|apply bc<;>intro hc
def zcZ:List Nat→Nat→Nat
 | [],n=>n
 |r::rs,n=>if n*r>4096 then n*r else zcZ rs (n*r)
def zYv (l:List Nat):Nat:=if l.any (· ==0) then 0 else zcZ l 1
set_option maxHeartbeats 4000000 in
theorem zOq {c:Cat} {t:List (List (List Trm))} {o:List (List UInt8)} {cs:List D} (hk:zLL c t o cs) (hs:c.Sm) (htl:t.length≤524288) (hol:o.length≤524288) (hr:∀x∈t,x.length≤1048576) (g:Heap):
  zA Tryz.prog 37 [.agg cs] g fun r h'=>h'=g∧r= .int .i64 ((zYv (zDr c t o):Nat):Int):=by
 have hra:=zNC hk hs (by omega) (by omega);obtain⟨td,od,a,b,e,p,rfl,ht,ho,hc⟩:=hk;have h6:=zUz;have hrl:∀r∈zDr c t o,r≤1048576:=fun r hr'=>by
  rcases List.mem_append.1 hr' with q|q
  ·obtain⟨x,hx,rfl⟩:=List.mem_map.1 q;exact hr x hx
  ·obtain⟨x,hx,rfl⟩:=List.mem_map.1 q;exact hs.ls.1
 have hll:(zDr c t o).length≤1048576:=by simp[zDr];omega
 refine zA.post fun Q hQ=> ?_;have hq0:=hQ _ _ ⟨rfl,rfl⟩;clear hQ;unfold zYv at hq0;generalize zDr c t o=L at *
 refine zA.of_fn (g:=zWc) mix Tryz.func37 zkh rfl rfl ?_;simp only[Tryz.f37,gJ]
 repeat' first|simp only[go_sem,zaL, *]|apply bc<;>intro hc
 refine(hra _).mono ?_;rintro r h ⟨hq,hf⟩;subst hq;have hsl:=hf.isSl;have hnl:(zEC L).length=L.length:=by simp[zEC]
 have hco:=zIA hsl (by omega) 0;have hlen:=zAh hsl;rw[hnl] at hlen;have hcz:((zEC L).any fun x=>x==0)=L.any (· ==0):=by
  rw[zEC,List.any_map];congr 1
  funext x
  exact zbB x 0
 rw[hcz] at hco;clear hra;cases q:L.any (· ==0) with
 |true=>
  rw[if_pos q] at hq0;have hq1:Q (.int .i64 0) h:=hq0;rw[q] at hco
  repeat' first|simp only[go_sem,zaL, *]|apply bc<;>intro hc|(refine zA.mono (hco _) ?_;rintro r h ⟨rfl,rfl⟩)
 |false=>
 rw[if_neg (by rw[q];exact Bool.false_ne_true)] at hq0;rw[q] at hco;obtain⟨R,hR⟩:∃R,zcZ L 1=R:=⟨_,rfl⟩;rw[hR] at hq0;clear hcz
 repeat' first|simp only[go_sem,zaL, *]|apply bc<;>intro hc|(refine zA.mono (hco _) ?_;rintro r h ⟨hq,rfl⟩)
 subst hq
 rename Heap=>g
 refine zG (fun i fr h=>∃n:Nat,fr 11=r∧fr 12= .int .i64 (L.length:Int)∧fr 13= .int .i64 (i:Int)∧fr 4= .int .i64 (n:Int)∧h=g∧n≤4096∧zcZ (L.drop i) n=R) L.length (by omega) ?_ ?_ ?_
 ·simp only[go_sem,zaL,true_and,and_true,Int.ofNat_zero];exact⟨1,rfl,by omega,hR⟩
 ·rintro i fr h hlt ec ew ⟨n,f11,f12,f13,f4,rfl,hn,hK⟩;have a1:=zCb hsl (show i<(zEC L).length by omega);have hni:(zEC L)[i]'(by omega)=((L[i]:Nat):Int):=by simp[zEC]
  rw[hni] at a1;have hLi:=hrl _ (List.getElem_mem hlt);rw[List.drop_eq_getElem_cons hlt,zcZ] at hK;generalize L[i]=y at *
  have hm:n*y≤4096*1048576:=Nat.mul_le_mul hn hLi;have hw:IntKind.i64.wrap ((n:Int)*(y:Int))=((n*y:Nat):Int):=by rw[zZ (by rw[←Int.natCast_mul];omega) (by rw[←Int.natCast_mul];omega),Int.natCast_mul]
  generalize hny:n*y=m at *
  clear hr hrl hsl hni;by_cases hb:m>4096
  ·have e1:decide ((m:Int)>4096)=true:=decide_eq_true (by omega);rw[if_pos hb] at hK;subst hK
   repeat' first|simp only[go_sem,zaL, *]|apply bc<;>intro hc
  ·have e1:decide ((m:Int)>4096)=false:=decide_eq_false (by omega);rw[if_neg hb] at hK;have hn2:m≤4096:=by omega
   clear hq0 hny hm
   repeat' first|simp only[go_sem,zaL, *]|apply bc<;>intro hc
   exact⟨m,rfl,hn2,hK⟩
 ·rintro fr h ec ⟨n,f11,f12,f13,f4,rfl,hn,hK⟩;rw[List.drop_length,zcZ] at hK;subst hK;clear hr hrl hsl
  repeat' first|simp only[go_sem,zaL, *]|apply bc<;>intro hc
def zEU:List Nat→Nat→List Nat×Nat
 | [],n=>([],n)
 |r::rs,n=>(((zEU rs n).2%r)::(zEU rs n).1,(zEU rs n).2/r)
theorem zQj:∀ (l:List Nat) (n:Nat),(zEU l n).1.length=l.length
 | [],_=>rfl
 |r::rs,n=>by simp[zEU,zQj rs n]
theorem zU0:∀ (l:List Nat) (n:Nat),(zEU l n).2≤n
 | [],_=>Nat.le_refl _
 |r::rs,n=>Nat.le_trans (Nat.div_le_self _ _) (zU0 rs n)
theorem zOr:∀ {l:List Nat} {n:Nat},(∀r∈l,0<r)→∀i (hi:i<l.length),((zEU l n).1.getD i 0)<l[i]
 |r::rs,n,h,0,_=>by simp[zEU];exact Nat.mod_lt _ (h r (by simp))
 |r::rs,n,h,i+1,hi=>by
  have:=zOr (l:=rs) (n:=n) (fun x hx=>h x (List.mem_cons_of_mem _ hx)) i (by simpa using hi);simpa [zEU] using this
def ym (t:List (List (List Trm))) (ds:List Nat):List (List Trm):=(List.range t.length).map fun i=>(t.getD i []).getD (ds.getD i 0) []
def zAq (c:Cat) (n m:Nat) (ds:List Nat):List (List UInt8):=(List.range m).map fun i=>((c.ls.map Lic.name).getD (ds.getD (n+i) 0) [])
theorem zjR:zd Tryz.prog zRY Tryz.f69=true:=by kernel_rfl
theorem zU1 {ts:List Trm} (h0:ts≠[]) (hl:ts.length≤1048576) (g:Heap):
  zA Tryz.prog 69 [(mkA ts).d] g fun r h'=>h'=g∧r=(mkA ts).d:=by
 refine zA.pure (by kernel_rfl) fun hok=>zA.strip ?_;have hE0:Ext g g:=Ext.refl g;have hd:(mkA ts).d= .sl 2 (qN ts) .no:=rfl;rw[hd];have hn:zCz Tryz.prog .eql 62 true (.sl 2 (qN ts) .no) .nilsl=some (.bool false):=by rw[zBX (zf.mk .no) Tryz.underlying62];rfl
 have hz:=fun nid h=>wk (P:=Tryz.prog) (nid:=nid) (h:=h) yu zBm qz rfl rfl (by omega:0<2);have hap:z8 Tryz.prog false g.next 62 (.sl 2 [] .full) (.sl 2 (qN ts) .no) g=some (.sl 2 (qN ts) (.own g.next),g.new g.next .tok):=by
  rw[zGH yu zN8 qz (by omega) (zAF ts) (by rw[zEt,yc];unfold lim;omega) (by rw[yc];unfold lim;omega),if_neg (by rw[yc];exact fun q=>h0 (List.length_eq_zero_iff.1 q))]
 have hE1:=hE0.new (Nat.le_refl _) .tok;have hst:=yg (sz:=2) (xs:=qN ts) (fun x hx=>by
  obtain⟨y,_,rfl⟩:=List.mem_map.1 hx;exact⟨rfl,by simp[Trm.cells,zg,below],rfl⟩) (.own g.next)
 have hfin:below g.next (yE (.sl 2 (qN ts) (.own g.next)))∧yE (.sl 2 (qN ts) (.own g.next))= .sl 2 (qN ts) .no:=⟨by rw[hst.1];exact zz (Nat.zero_le _) _ hst.2,hst.1⟩;obtain⟨q1,q2⟩:=hfin;refine zA.post fun Q hQ=> ?_;have hq:=hQ _ _ ⟨hE1,q1,q2⟩;clear hst q1 q2 hQ hd;refine zA.of_fn (g:=zRY) mix Tryz.func69 zjR rfl rfl ?_;simp only[Tryz.f69,gJ]
 repeat' first|simp only[go_sem,zg1, *]|apply bc<;>intro hc
def dI (ds:List Nat):List D:=ds.map fun(x:Nat)=>D.int .i64 (x:Int)
theorem zXO (i:Nat) (rest:List D) (v z:D):(List.replicate (i+1) z++rest).set i v=List.replicate i z++v::rest:=by
 induction i with
 |zero=>rfl
 |succ i ih=>rw[List.replicate_succ,List.cons_append,List.set_cons_succ,ih,List.replicate_succ,List.cons_append]
def zca (sz:Nat) (xs:List (List D)) (d:D):Prop:=Fin sz xs d∧(xs= []→d= .nilsl)
def nd (sz:Nat):List (List D)→D
 | []=> .nilsl
 |x::xs=> .sl sz (x::xs) .no
theorem zca.det {sz : Nat} {xs : List (List D)} {d : D} (h : zca sz xs d) : d = nd sz xs := by
  cases xs with
  | nil => exact h.2 rfl
  | cons x xs => rcases h.1 with ⟨_, q⟩ | q
                 · cases q
                 · exact q
set_option maxHeartbeats 8000000 in
theorem zXP {c:Cat} {t:List (List (List Trm))} {o:List (List UInt8)} {cs:List D} (hk:zLL c t o cs) (hs:c.Sm) (htl:t.length≤524288) (hol:o.length≤524288) (hr:∀x∈t,x.length≤64∧AltsOk 64 x) (hpos:∀r∈zDr c t o,0<r) {n:Nat} (hn:n≤1048576) (g:Heap):
  zA Tryz.prog 38 [.agg cs, .int .i64 (n:Int)] g fun r h'=>h'=g∧∃td od,r= .agg [td,od]∧zca 1 (yO ((ym t (zEU (zDr c t o) n).1).map mkA)) td∧zca 1 (yW (zAq c t.length o.length (zEU (zDr c t o) n).1)) od:=by
 have hra:=zNC hk hs (by omega) (by omega);obtain⟨td,od,a,b,e,p,rfl,ht,ho,hc⟩:=hk;have h6:=zUz;have hrl:∀r∈zDr c t o,r≤1048576:=fun r hr'=>by
  rcases List.mem_append.1 hr' with q|q
  ·obtain⟨x,hx,rfl⟩:=List.mem_map.1 q;exact Nat.le_trans (hr x hx).1 (by omega)
  ·obtain⟨x,hx,rfl⟩:=List.mem_map.1 q;exact hs.ls.1
 have hlL:(zDr c t o).length≤t.length+o.length∧t.length+o.length≤(zDr c t o).length:=by simp[zDr]
 have hll:(zDr c t o).length≤1048576:=by omega
 obtain⟨_,_,_,_,hce,hca,_,_,_⟩:=hc;cases hce;have l1:=zLI ht;have l2:=yw ho;refine zA.pure (by kernel_rfl) fun hok'=>zA.strip ?_;refine zA.post fun Q hQ=> ?_;generalize hLL:zDr c t o=L at *
 obtain⟨G1,B,hG1,r1,E1,n1,hB⟩:∃G B,g.new g.next (.row [.nilsl, .nilsl])=G∧G.at' g.next=some (.row [.nilsl, .nilsl])∧Ext g G∧G.next=B∧g.next<B:=⟨_,_,rfl,zJ _ _ _,(Ext.refl g).new (Nat.le_refl _) _,rfl,by rw[zD];omega⟩;refine zA.of_fn (g:=zWi) mix Tryz.func38 zkp rfl rfl ?_;simp only[Tryz.f38,gJ]
 repeat' first|simp only[go_sem,zNa, *]|apply bc<;>intro hc
 refine(hra _).mono ?_;rintro r h ⟨hq,hf⟩;have hsl:=hf.isSl;have hnl:(zEC L).length=L.length:=by simp[zEC]
 have hlen:=zAh hsl;rw[hnl] at hlen;clear hra;have hmk:∀nid H,qZ Tryz.prog true nid 31 (.int .i64 (L.length:Int)) (.int .i64 (L.length:Int)) H=some (.rs nid 1 0 L.length,H.new nid (.row (List.replicate L.length (.int .i64 0)))):=fun nid H=>by
  have hb:L.length*8≤lim:=by unfold lim;omega
  have hb2:L.length≤lim:=by unfold lim;omega
  simp only[qZ,yG,zAW,wP,zGv,Int.toNat_natCast];rw[if_pos (by simp[D.notTuple,D.cells,hb,hb2])]
  have:∀m,zBC m (D.int .i64 0).cells=List.replicate m (.int .i64 0):=fun m=>by
   unfold zBC;simp only[D.cells]
   induction m with
   |zero=>rfl
   |succ m ih=>rw[List.replicate_succ,List.flatten_cons,ih,List.replicate_succ];rfl
  simp only[if_true,this]
 obtain⟨G2,C,hG2,r2,E2,n2,hC⟩:∃G C,G1.new B (.row (List.replicate L.length (.int .i64 0)))=G∧G.at' B=some (.row (List.replicate L.length (.int .i64 0)))∧Ext G1 G∧G.next=C∧B<C:=⟨_,_,rfl,zJ _ _ _,(Ext.refl G1).new (by omega) _,rfl,by rw[←n1,zD];omega⟩
 repeat' first|simp only[go_sem,zNa, *]|apply bc<;>intro hc
 have hgn:∀cs,(G2.set B (.row cs)).next=G2.next:=fun cs=>rfl;refine zy (fun j fr h=>fr 2= .iptr [td,od,a,b,e,p] 0∧fr 4= .ptr g.next 0∧fr 5=r∧fr 6= .rs B 1 0 L.length∧fr 7= .int .i64 ((L.length:Int)-1-j)∧fr 1= .int .i64 (((zEU (L.drop (L.length-j)) n).2:Nat):Int)∧h=G2.set B (.row (List.replicate (L.length-j) (.int .i64 0)++dI (zEU (L.drop (L.length-j)) n).1))) L.length ?_ ?_
 ·have h0:D.int .i64 (n:Int)= .int .i64 (((zEU (L.drop (L.length-0)) n).2:Nat):Int)∧G2=G2.set B (.row (List.replicate (L.length-0) (.int .i64 0)++dI (zEU (L.drop (L.length-0)) n).1)):=by
   rw[Nat.sub_zero,List.drop_length];exact⟨rfl,by rw[show dI (zEU [] n).1= [] from rfl,List.append_nil,zA7 r2]⟩
  have h1:IntKind.i64.wrap ((L.length:Int)-1)=(L.length:Int)-1- ((0:Nat):Int):=by rw[zZ (by omega) (by omega)];omega
  clear hmk;simp only[go_sem,zNa,true_and,and_true,Int.ofNat_zero];exact⟨congrArg (D.int .i64) h1,h0⟩
 ·rintro j fr h2 hj ⟨f2,f4,f5,f6,f7,f1,rfl⟩;by_cases hlt:j<L.length
  ·obtain⟨i,hi⟩:∃i,L.length=i+1+j:=⟨L.length-1-j,by omega⟩;have e1:((L.length:Int)-1- (j:Int))=(i:Int):=by omega
   rw[e1] at f7;have e2:decide ((i:Int)≥0)=true:=decide_eq_true (by omega);have e3:IntKind.i64.wrap ((i:Int)-1)=(L.length:Int)-1- ((j+1:Nat):Int):=by rw[zZ (by omega) (by omega)];omega
   have hiL:i<L.length:=by omega
   have a1:=zCb hsl (show i<(zEC L).length by omega);have hni:(zEC L)[i]'(by omega)=((L[i]:Nat):Int):=by simp[zEC]
   rw[hni] at a1;have hp:=hpos _ (List.getElem_mem hiL);have hd:zEU (L.drop (L.length- (j+1))) n=(((zEU (L.drop (L.length-j)) n).2%L[i])::(zEU (L.drop (L.length-j)) n).1,(zEU (L.drop (L.length-j)) n).2/L[i]):=by
    have:L.drop i=L[i]::L.drop (i+1):=List.drop_eq_getElem_cons hiL;rw[show L.length- (j+1)=i by omega,this,show L.length-j=i+1 by omega];rfl
   have hrs:L.length-j=i+1:=by omega
   have hrs2:L.length- (j+1)=i:=by omega
   have hm:=Nat.le_trans (zU0 (L.drop (L.length-j)) n) hn;generalize L[i]=y at *
   generalize zEU (L.drop (L.length-j)) n=dd at *
   rw[hrs];have a3:=zt (P:=Tryz.prog) (sz:=1) (id:=B) yG wP (k:= .i64) hiL;rw[Nat.mul_one] at a3;have hrow2:(G2.set B (.row (List.replicate (i+1) (.int .i64 0)++dI dd.1))).at' B=some (.row (List.replicate (i+1) (.int .i64 0)++dI dd.1)):=zC _ _ _;have hst:=zV (P:=Tryz.prog) (t:=3) (off:=i) (x:= .int .i64 ((dd.2%y:Nat):Int)) hrow2 wP (by simp;omega) rfl rfl;rw[zXO,zEN] at hst;have b0:¬(y:Int)=0:=by omega
   have b1:(dd.2:Int).tmod (y:Int)=((dd.2%y:Nat):Int):=by rw[Int.tmod_eq_emod_of_nonneg (by omega)];rfl
   have b2:(dd.2:Int).tdiv (y:Int)=((dd.2/y:Nat):Int):=by rw[Int.tdiv_eq_ediv_of_nonneg (by omega)];rfl
   have b3:((y:Int)=0)=False:=by simp;omega
   have b4:IntKind.i64.wrap (((dd.2/y:Nat):Int))=((dd.2/y:Nat):Int):=by
    have:=Nat.div_le_self dd.2 y;generalize dd.2/y=q at this⊢;rw[zZ (by omega) (by omega)]
   have hrem:wx .rem .i64 .i64 (dd.2:Int) (y:Int)=some (.int .i64 ((dd.2%y:Nat):Int)):=by simp only[wx,zLm,if_true];rw[if_neg b0,b1]
   have hquo:wx .quo .i64 .i64 (dd.2:Int) (y:Int)=some (.int .i64 ((dd.2/y:Nat):Int)):=by simp only[wx,zLm,if_true];rw[if_neg b0,b2,b4]
   clear b0 b1 b2 b3 b4;have hres:G2.set B (.row (List.replicate i (.int .i64 0)++ .int .i64 ((dd.2%y:Nat):Int)::dI dd.1))=G2.set B (.row (List.replicate (L.length- (j+1)) (.int .i64 0)++dI (zEU (L.drop (L.length- (j+1))) n).1)):=by
    rw[hd,hrs2];rfl
   have hres2:((dd.2/y:Nat):Int)=(((zEU (L.drop (L.length- (j+1))) n).2:Nat):Int):=by rw[hd]
   clear hd hrs hrs2 hpos hp hr hrl hni hsl ht ho hmk hQ hm hi hj
   repeat' first|simp only[go_sem,zNa, *]|apply bc<;>intro hc
   refine zS (by kernel_rfl) ?_
   repeat' first|simp only[go_sem,zNa, *]|apply bc<;>intro hc
  ·have hje:j=L.length:=by omega
   subst hje;have e1:((L.length:Int)-1- ((L.length:Nat):Int))= -1:=by omega
   rw[e1] at f7;have e2:decide ((-1:Int)≥0)=false:=rfl;have hd0:L.drop (L.length-L.length)=L:=by rw[Nat.sub_self,List.drop_zero]
   have hr0:List.replicate (L.length-L.length) (D.int .i64 0)= []:=by rw[Nat.sub_self];rfl
   rw[hd0,hr0,List.nil_append];clear f1 hd0 hr0 hj hlt e1;have hdl:(zEU L n).1.length=L.length:=zQj L n;have hdlt:=fun i (hi:i<L.length)=>zOr (n:=n) hpos i hi;generalize(zEU L n).1=ds at *
   have r3:(G2.set B (.row (dI ds))).at' B=some (.row (dI ds)):=zC _ _ _;have hn3:(G2.set B (.row (dI ds))).next=C:=n2;have E3:Ext g (G2.set B (.row (dI ds))):=(E1.trans E2).set (by omega) _;have rA:(G2.set B (.row (dI ds))).at' g.next=some (.row [.nilsl, .nilsl]):=by rw[zE (by omega),E2.2 _ (by omega)];exact r1
   clear hgn hnl hll r2 hG2 hmk hG1;generalize G2.set B (.row (dI ds))=G3 at *
   clear r1 E1 E2 n1 n2;obtain⟨G4,hG4,r4,E4,n4⟩:∃G,G3.new C (.row [.nilsl, .nilsl])=G∧G.at' C=some (.row [.nilsl, .nilsl])∧Ext G3 G∧C<G.next:=⟨_,rfl,zJ _ _ _,(Ext.refl G3).new (by omega) _,by rw[←hn3,zD];omega⟩;have hd6:∀i,i<L.length→(dI ds)[i]? =some (.int .i64 ((ds.getD i 0:Nat):Int)):=fun i hi=>by simp[dI,show i<ds.length by omega]
   repeat' first|simp only[go_sem,zNa, *]|apply bc<;>intro hc
   have hct:(ym t ds).length=t.length:=by simp[ym]
   have hget:∀i (hi:i<t.length),(ym t ds).take (i+1)=(ym t ds).take i++ [t[i].getD (ds.getD i 0) []]:=fun i hi=>by
    rw[List.take_succ_eq_append_getElem (by rw[hct];exact hi)];simp[ym,hi]
   have hLt:∀i (hi:i<t.length),ds.getD i 0<t[i].length:=fun i hi=>by
    have:=hdlt i (by omega);have e:L[i]'(by omega)=t[i].length:=by
     simp only[←hLL,zDr];rw[List.getElem_append_left (by simpa using hi),List.getElem_map]
    rwa [e] at this
   have hnx:∀h:Heap,Ext G3 h→h.at' B=some (.row (dI ds)):=fun h he=>by rw[he.2 _ (by omega)];exact r3
   refine zG (fun i fr h=>∃s,fr 2= .iptr [td,od,a,b,e,p] 0∧fr 4= .ptr g.next 0∧fr 6= .rs B 1 0 L.length∧fr 8= .ptr C 0∧fr 40=td∧fr 41= .int .i64 (t.length:Int)∧fr 42= .int .i64 (i:Int)∧Own G3 h 1 (yO (((ym t ds).take i).map mkA)) s∧h.at' C=some (.row [s, .nilsl])∧C<h.next∧(i=0→s= .nilsl)) t.length (by omega) ?_ ?_ ?_
   ·have h0:=Own.start E4 1;simp only[go_sem,zNa,true_and,and_true,Int.ofNat_zero];exact⟨.nilsl,f2,f4,f6,h0,r4,n4,rfl⟩
   ·rintro i fr h2 hlt ec ew ⟨s,f2,f4,f6,f8,f40,f41,f42,hown,hrC,hnC,hz⟩;have a1:=zOo ht hlt;have hx:=hr _ (List.getElem_mem hlt);have hdi:=hLt i hlt;have hrB:=hnx h2 hown.1;have hiL:i<L.length:=by omega
    have a2:=zt (P:=Tryz.prog) (sz:=1) (id:=B) yG wP (k:= .i64) hiL;rw[Nat.mul_one] at a2;have c2:=hd6 i hiL;have a3:=zDN (l:=t[i].map mkA) (d:=zNc t[i]) (zf.mk .no) (i:=ds.getD i 0) (by rw[List.length_map];exact hdi);rw[List.getElem_map] at a3;rw[hget i hlt];have hgd:t[i].getD (ds.getD i 0) []=t[i][ds.getD i 0]:=by rw[List.getD_eq_getElem?_getD (l:=t[i]),List.getElem?_eq_getElem hdi];rfl
    rw[hgd];obtain⟨k1,k2⟩:=hx.2.ts _ (List.getElem_mem hdi);have had:(zNc t[i]).notTuple=true:=rfl;generalize t[i][ds.getD i 0]=ts at *
    generalize zNc t[i]=x at *
    generalize ds.getD i 0=di at *
    have hcl:=zU1 k1 (by omega);have hone:=fun nid h=>zFx (mkA ts).d nid h rfl rfl rfl;have hcl2:(ym t ds).take i=(ym t ds).take i:=rfl;have hpl:((ym t ds).take i).length=i:=by rw[List.length_take];omega
    generalize(ym t ds).take i=pre at *
    obtain⟨w1,w2,w3⟩:=hown.flat;clear hQ hget hLt hr hdlt hd6 hgd hnx hcl2 hz
    repeat' first|simp only[go_sem,zNa, *]|apply bc<;>intro hc
    refine zx h2 [(0, .no,true),(1, .st,true),(2, .no,true),(3, .no,true),(4, .no,true),(5, .no,true),(6, .no,true),(7, .no,true),(8, .no,true),(9, .no,true),(10, .no,true),(11, .no,false),(12, .no,false),(13, .no,false)] (by kernel_rfl) (by kernel_rfl) (fun _ _ e=>e) ?_
    repeat' first|simp only[go_sem,zNa, *]|apply bc<;>intro hc|(refine zA.mono (hcl _) ?_;rintro r h ⟨hq,rfl⟩)
    subst hq;refine hown.appK (ys:=yO [mkA ts]) wi zFi zBV (by omega) (zDk _) (by simp[yO]) (by rw[yK,List.length_map,hpl,zB7];unfold lim;simp[yO];omega) (by rw[yK,List.length_map,hpl];unfold lim;simp[yO];omega) fun d' h' ho' hn' hk'=> ?_;have hrC':h'.at' C=some (.row [s, .nilsl]):=by rw[hk' C hnC (by rw[hrC];intro q;cases q)];exact hrC
    obtain⟨v1,v2,v3⟩:=ho'.flat;have hst:=zV (P:=Tryz.prog) (t:=39) (off:=0) (x:=d') hrC' zMJ (by simp) v2 v1;rw[List.set_cons_zero] at hst;have hres:Own G3 (h'.set C (.row [d', .nilsl])) 1 (yO ((pre++ [ts]).map mkA)) d':=by
     have:yO ((pre++ [ts]).map mkA)=yO (pre.map mkA)++yO [mkA ts]:=by simp[yO]
     rw[this];exact ho'.setK (by omega) hrC' (fun q=>by cases q) _
    have hres2:(h'.set C (.row [d', .nilsl])).at' C=some (.row [d', .nilsl]):=zC _ _ _;have hres3:C<(h'.set C (.row [d', .nilsl])).next:=Nat.lt_of_lt_of_le hnC hn';generalize h'.set C (.row [d', .nilsl])=h5 at *
    clear ho' hown hk'
    repeat' first|simp only[go_sem,zNa, *]|apply bc<;>intro hc
    exact⟨d',hres,rfl⟩
   ·rintro fr h2 ec ⟨s,f2,f4,f6,f8,f40,f41,f42,hown,hrC,hnC,hz⟩;have htk:(ym t ds).take t.length=ym t ds:=by rw[←hct,List.take_length]
    rw[htk] at hown;have hco:(zAq c t.length o.length ds).length=o.length:=by simp[zAq]
    have hLo:∀i (hi:i<o.length),ds.getD (t.length+i) 0<c.ls.length:=fun i hi=>by
     have:=hdlt (t.length+i) (by omega);have e:L[t.length+i]'(by omega)=c.ls.length:=by
      simp only[←hLL,zDr];rw[List.getElem_append_right (by simp),List.getElem_map]
     rwa [e] at this
    have hget2:∀i (hi:i<o.length),(zAq c t.length o.length ds).take (i+1)=(zAq c t.length o.length ds).take i++ [(c.ls[ds.getD (t.length+i) 0]'(hLo i hi)).name]:=fun i hi=>by
     rw[List.take_succ_eq_append_getElem (by rw[hco];exact hi)];congr 2;simp only[zAq,List.getElem_map,List.getElem_range];rw[List.getD_eq_getElem?_getD,List.getElem?_map,List.getElem?_eq_getElem (hLo i hi)];rfl
    have hown2:Own2 G3 h2 1 (yO ((ym t ds).map mkA)) s 1 (yW []) .nilsl:=⟨hown,⟨hown.1, .inl ⟨rfl,rfl⟩,fun i q=>q.elim⟩,fun i _ q=>q.elim⟩;have htl2:=hct;clear htk hget hown hLt hr hdlt hct;generalize ym t ds=T at *
    repeat' first|simp only[go_sem,zNa, *]|apply bc<;>intro hc
    refine zG (fun i fr h=>∃s2,fr 2= .iptr [td,od,a,b,e,p] 0∧fr 4= .ptr g.next 0∧fr 6= .rs B 1 0 L.length∧fr 8= .ptr C 0∧fr 62=od∧fr 63= .int .i64 (o.length:Int)∧fr 64= .int .i64 (i:Int)∧Own2 G3 h 1 (yO (T.map mkA)) s 1 (yW ((zAq c t.length o.length ds).take i)) s2∧h.at' C=some (.row [s,s2])∧C<h.next∧(i=0→s2= .nilsl)) o.length (by omega) ?_ ?_ ?_
    ·simp only[go_sem,zNa,true_and,and_true,Int.ofNat_zero];exact⟨.nilsl,f2,f4,f6,f8,hown2,hrC,hnC,rfl⟩
    ·clear hown2 hrC hnC;rintro i fr h2 hlt ec ew ⟨s2,f2,f4,f6,f8,f62,f63,f64,hown,hrC,hnC,hz2⟩;have hdi:=hLo i hlt;have hrB:=hnx h2 hown.a.1;have hiL:t.length+i<L.length:=by omega
     have ew3:IntKind.i64.wrap (((t.length:Nat):Int)+((i:Nat):Int))=((t.length+i:Nat):Int):=by rw[zZ (by omega) (by omega)];omega
     have a2:=zt (P:=Tryz.prog) (sz:=1) (id:=B) yG wP (k:= .i64) hiL;rw[Nat.mul_one] at a2;have c2:=hd6 _ hiL;have a3:=wp hca hdi;rw[hget2 i hlt];generalize c.ls[ds.getD (t.length+i) 0]=x at *
     generalize ds.getD (t.length+i) 0=di at *
     simp only[Lic.cells] at a3;have hpl:((zAq c t.length o.length ds).take i).length=i:=by rw[List.length_take];omega
     generalize(zAq c t.length o.length ds).take i=pre at *
     obtain⟨w1,w2,w3⟩:=hown.b.flat;have hone:=zEL x.name;have hpl2:pre.length≤i:=by omega
     clear hQ hget2 hLo hd6 hnx hpl hz hz2
     repeat' first|simp only[go_sem,zNa, *]|apply bc<;>intro hc
     refine zS (by kernel_rfl) ?_
     repeat' first|simp only[go_sem,zNa, *]|apply bc<;>intro hc
     refine hown.swap.appK (zs:=yW [x.name]) qQ zJV zBg (by omega) zGz (by simp[yW]) (by rw[z6,zCR];unfold lim;simp[yW];omega) (by rw[z6];unfold lim;simp[yW];omega) fun d' h' ho' hn' hk'=> ?_;have hrC':h'.at' C=some (.row [s,s2]):=by rw[hk' C hnC (by rw[hrC];intro q;cases q)];exact hrC
     obtain⟨v1,v2,v3⟩:=ho'.a.flat;have hst:=zV (P:=Tryz.prog) (t:=40) (off:=1) (x:=d') hrC' zXz (by simp) v2 v1;rw[List.set_cons_succ,List.set_cons_zero] at hst;have hres:Own2 G3 (h'.set C (.row [s,d'])) 1 (yO (T.map mkA)) s 1 (yW (pre++ [x.name])) d':=by
      have:yW (pre++ [x.name])=yW pre++yW [x.name]:=by simp[yW]
      rw[this];exact ho'.swap.setK (by omega) hrC' (fun q=>by cases q) _
     have hres2:(h'.set C (.row [s,d'])).at' C=some (.row [s,d']):=zC _ _ _;have hres3:C<(h'.set C (.row [s,d'])).next:=Nat.lt_of_lt_of_le hnC hn';generalize h'.set C (.row [s,d'])=h5 at *
     clear ho' hown hk'
     repeat' first|simp only[go_sem,zNa, *]|apply bc<;>intro hc
     exact⟨d',hres,rfl⟩
    ·clear hown2 hrC hnC;rintro fr h2 ec ⟨s2,f2,f4,f6,f8,f62,f63,f64,hown,hrC,hnC,hz2⟩;have htk:(zAq c t.length o.length ds).take o.length=zAq c t.length o.length ds:=List.take_of_length_le (by omega);rw[htk] at hown;have hrA2:h2.at' g.next=some (.row [.nilsl, .nilsl]):=by rw[hown.a.1.2 _ (by omega)];exact rA
     obtain⟨v1,v2,v3⟩:=hown.a.flat;obtain⟨w1,w2,w3⟩:=hown.b.flat;have hst:zQ Tryz.prog 42 (.ptr g.next 0) (.agg [s,s2]) h2=some (h2.set g.next (.row [s,s2])):=yN hrA2 zPV rfl (by simp) (by simp[v1,w1]);have hv2:∀a b:D,zO true 2 [a,b] 0=some (.agg [a,b]):=fun a b=>zB rfl (by omega);have hf1:=hown.a.2.1.fin (zLF T);have hf2:=hown.b.2.1.fin (qe (l:=zAq c t.length o.length ds));have hq:=hQ (.agg [s,s2]) (h2.set g.next (.row [s,s2])) ⟨(E3.trans hown.a.1).set (Nat.le_refl _) _,by
      simp only[yE,z7,below,zg];exact⟨zz (Nat.zero_le _) _ hf1.1,zz (Nat.zero_le _) _ hf2.1,trivial⟩,yE s,yE s2,by simp only[yE,z7],⟨hf1.2,fun q=>by
       have e:T= []:=by cases T with
        |nil=>rfl
        |cons x xs=>cases q
       have:s= .nilsl:=hz (by rw[←htl2,e];rfl);rw[this];rfl⟩,⟨hf2.2,fun q=>by
       have e:zAq c t.length o.length ds= []:=List.map_eq_nil_iff.1 q
       have:s2= .nilsl:=hz2 (by rw[←hco,e];rfl);rw[this];rfl⟩⟩
     have hat:=zC h2 g.next (.row [s,s2]);clear hQ hown hf1 hf2 hget2 hLo hd6 hnx hz hz2
     repeat' first|simp only[go_sem,zNa, *]|apply bc<;>intro hc
theorem zFL {c:Cat} :∀ {l:List Fac} {t:List (List (List Trm))} {o:List (List UInt8)},(zEB c l t o).1.length≤t.length+l.length∧(zEB c l t o).2.1.length≤o.length+l.length
 | [],t,o=>by rw[zEB];simp
 |f::fs,t,o=>by
  rw[zEB];split
  ·split
   ·have:=zFL (c:=c) (l:=fs) (t:=t++ [ofL c f.e]) (o:=o);simp only[List.length_append,List.length_cons,List.length_nil] at this⊢;omega
   ·simp
  ·split
   ·split
    ·have:=zFL (c:=c) (l:=fs) (t:=t) (o:=o);simp only[List.length_cons];omega
    ·have:=zFL (c:=c) (l:=fs) (t:=t) (o:=o++ [f.out]);simp only[List.length_append,List.length_cons,List.length_nil] at this⊢;omega
   ·have:=zFL (c:=c) (l:=fs) (t:=t) (o:=o);simp only[List.length_cons];omega
theorem zDl {c:Cat} {l:List Fac} :(zH c l).1.length≤l.length∧(zH c l).2.1.length≤l.length:=by
 unfold zH;split
 ·simp
 ·have:=zFL (c:=c) (l:=l) (t:=[]) (o:=[]);simpa using this
def zLM (c:Cat) (l:List Fac):Nat:=zYv (zDr c (zH c l).1 (zH c l).2.1)
def wv (c:Cat) (l:List Fac):Int:=if(!((zH c l).2.2==0))=true then(zH c l).2.2 else if decide ((zLM c l:Int)>4096)=true then 10 else 0
abbrev zLk:List D:=[.nilsl, .nilsl, .nilsl, .nilsl, .nilsl, .nilsl]
theorem zOs {c:Cat} {a b e p:D} (h:qW c (.agg [a,b,e,p])):(a.flat=true∧b.flat=true)∧e.flat=true∧p.flat=true:=by
 obtain⟨_,_,_,_,hce,ha,hb,he,hp⟩:=h;cases hce;exact⟨⟨(zM ha).2.2,(zM hb).2.2⟩,(zM he).2.2,(zM hp).2.2⟩
theorem zU2 {c:Cat} {a b e p:D} (h:qW c (.agg [a,b,e,p])):(a.cells= [a]∧b.cells= [b])∧e.cells= [e]∧p.cells= [p]:=by
 obtain⟨_,_,_,_,hce,ha,hb,he,hp⟩:=h;cases hce;exact⟨⟨(zM ha).1,(zM hb).1⟩,(zM he).1,(zM hp).1⟩
set_option maxHeartbeats 4000000 in
theorem zND {c:Cat} {d x:D} (hc:qW c d) (hs:c.Sm) {l:List Fac} (hx:zf 12 (zFC l) x) (hl:l.length≤65536) (hok:∀f∈l,f.Ok) (g:Heap):
  zA Tryz.prog 36 [d,x] g fun r h'=>Ext g h'∧∃cs,r= .tuple [.agg cs, .int .i64 (wv c l)]∧(cs.length=6∧cs.all D.flat=true)∧(wv c l=0→zLL c (zH c l).1 (zH c l).2.1 cs):=by
 have hva:=zQg hc hs hx (by omega) hok;obtain⟨vl1,vl2⟩:=zDl (c:=c) (l:=l);have hto:=fun cs (hk:zLL c (zH c l).1 (zH c l).2.1 cs)=>zOq hk hs (by omega) (by omega) fun a ha=>Nat.le_trans (zBe a ha).1 (by omega);have hcd:=hc;obtain⟨ca,cb,ce,cp,rfl,_,_,_,_⟩:=hc;obtain⟨⟨F1,F2⟩,F3,F4⟩:=zOs hcd;obtain⟨⟨D1,D2⟩,D3,D4⟩:=zU2 hcd;have hv4:∀a b c e:D,zO true 4 [a,b,c,e] 0=some (.agg [a,b,c,e]):=fun a b c e=>zB rfl (by omega);have h6:=zUz;refine zA.post fun Q hQ=> ?_;have hb0:yC Tryz.prog 95 []=some (.agg zLk):=by simp[yC,zJY,zPX,qS,D.notTuple,D.cells]
 obtain⟨G,hG,r0,E0,n0⟩:∃G,g.new g.next (.row zLk)=G∧G.at' g.next=some (.row zLk)∧Ext g G∧g.next<G.next:=⟨_,rfl,zJ _ _ _,(Ext.refl g).new (Nat.le_refl _) _,by rw[zD];omega⟩;have hst0:∀cs:List D,cs.length=6→cs.all D.flat=true→zQ Tryz.prog 95 (.ptr g.next 0) (.agg cs) G=some (G.set g.next (.row cs)):=fun cs h1 h2=>yN r0 (by rw[zGF,h1]) (by rw[h1];rfl) (by omega) h2;refine zA.of_fn (g:=zWW) mix Tryz.func36 zka rfl rfl ?_;simp only[Tryz.f36,gJ]
 repeat' first|simp only[go_sem,zgb, *]|apply bc<;>intro hc
 refine(hva _).mono ?_;rintro r h ⟨hq,td,od,rfl,htd,hod⟩;clear hva;cases q1:((zH c l).2.2==0) with
 |false=>
  have hR:wv c l=(zH c l).2.2:=by unfold wv;rw[q1];rfl
  have hst:=hst0 zLk rfl rfl;have hat:=zC G g.next (.row zLk);have hq0:=hQ (.tuple [.agg zLk, .int .i64 (zH c l).2.2]) (G.set g.next (.row zLk)) ⟨E0.set (Nat.le_refl _) _,zLk,by rw[hR],⟨rfl,rfl⟩,fun e=>by rw[hR] at e;rw[e] at q1;exact absurd q1 (by decide)⟩;clear hQ hR hto hst0
  repeat' first|simp only[go_sem,zgb, *]|apply bc<;>intro hc
 |true=>
 have hbu:yC Tryz.prog 95 [(0,td),(1,od),(2, .agg [ca,cb,ce,cp])]=some (.agg [td,od,ca,cb,ce,cp]):=by
  rcases htd.isSl with⟨rfl,_⟩ | ⟨_,rfl⟩ <;>rcases hod.isSl with⟨rfl,_⟩ | ⟨_,rfl⟩ <;>simp[yC,zJY,zPX,qS,yX,D.cells,D.notTuple]
 have hk:zLL c (zH c l).1 (zH c l).2.1 [td,od,ca,cb,ce,cp]:=⟨_,_,_,_,_,_,rfl,htd.isSl,hod.isSl,hcd⟩;have hto2:=hto _ hk;have hfl:([td,od,ca,cb,ce,cp]:List D).all D.flat=true:=by simp[(zM htd.isSl).2.2,(zM hod.isSl).2.2,F1,F2,F3,F4]
 have hstN:zQ Tryz.prog 95 (.ptr G.next 0) (.agg [td,od,ca,cb,ce,cp]) (G.new G.next (.row zLk))=some (G.new G.next (.row [td,od,ca,cb,ce,cp])):=zU zGF (by omega) rfl rfl hfl;obtain⟨H,hH,r1,E1,n1,rA⟩:∃H,G.new G.next (.row [td,od,ca,cb,ce,cp])=H∧H.at' G.next=some (.row [td,od,ca,cb,ce,cp])∧Ext G H∧g.next<H.next∧H.at' g.next=some (.row zLk):=⟨_,rfl,zJ _ _ _,(Ext.refl G).new (Nat.le_refl _) _,by rw[zD];omega,by rw[zF (by omega)];exact r0⟩;have hTot:zYv (zDr c (zH c l).1 (zH c l).2.1)=zLM c l:=rfl;rw[hTot] at hto2;clear hto hst0;cases q2:decide ((zLM c l:Int)>4096) with
 |true=>
  have hR:wv c l=10:=by unfold wv;rw[q1,q2];rfl
  have hst:zQ Tryz.prog 95 (.ptr g.next 0) (.agg zLk) H=some (H.set g.next (.row zLk)):=yN rA zGF rfl (by decide) rfl;have hat:=zC H g.next (.row zLk);have hq0:=hQ (.tuple [.agg zLk, .int .i64 10]) (H.set g.next (.row zLk)) ⟨(E0.trans E1).set (Nat.le_refl _) _,zLk,by rw[hR],⟨rfl,rfl⟩,fun e=>by rw[hR] at e;exact absurd e (by decide)⟩;clear hQ hR hk hTot
  repeat' first|simp only[go_sem,zgb, *]|apply bc<;>intro hc|(refine zA.mono (hto2 _) ?_;rintro r h ⟨hq2,rfl⟩)
 |false=>
  have hR:wv c l=0:=by unfold wv;rw[q1,q2];rfl
  have hst:zQ Tryz.prog 95 (.ptr g.next 0) (.agg [td,od,ca,cb,ce,cp]) H=some (H.set g.next (.row [td,od,ca,cb,ce,cp])):=yN rA zGF rfl (by simp) hfl;have hat:=zC H g.next (.row [td,od,ca,cb,ce,cp]);have hq0:=hQ (.tuple [.agg [td,od,ca,cb,ce,cp], .int .i64 0]) (H.set g.next (.row [td,od,ca,cb,ce,cp])) ⟨(E0.trans E1).set (Nat.le_refl _) _,_,by rw[hR],⟨rfl,hfl⟩,fun _=>hk⟩;clear hQ hR hk hTot
  repeat' first|simp only[go_sem,zgb, *]|apply bc<;>intro hc|(refine zA.mono (hto2 _) ?_;rintro r h ⟨hq2,rfl⟩)
def zNE (c:Cat) (l:List Fac):D:=if(wv c l==0)=true then .tuple [.int .i64 (zLM c l:Int), .int .i64 0] else .tuple [.int .i64 0, .int .i64 (wv c l)]
set_option maxHeartbeats 4000000 in
theorem zbE {c:Cat} {d x:D} (hc:qW c d) (hs:c.Sm) {l:List Fac} (hx:zf 12 (zFC l) x) (hl:l.length≤65536) (hok:∀f∈l,f.Ok) (g:Heap):
  zA Tryz.prog 10 [d,x] g fun r h'=>h'=g∧r=zNE c l:=by
 have hcn:=zND hc hs hx hl hok;obtain⟨vl1,vl2⟩:=zDl (c:=c) (l:=l);have hto:=fun cs (hk:zLL c (zH c l).1 (zH c l).2.1 cs)=>zOq hk hs (by omega) (by omega) fun a ha=>Nat.le_trans (zBe a ha).1 (by omega);have hTot:zYv (zDr c (zH c l).1 (zH c l).2.1)=zLM c l:=rfl;rw[hTot] at hto;clear hTot;obtain⟨ca,cb,ce,cp,rfl,_,_,_,_⟩:=hc;have hv4:∀a b c e:D,zO true 4 [a,b,c,e] 0=some (.agg [a,b,c,e]):=fun a b c e=>zB rfl (by omega);refine zA.pure (by kernel_rfl) fun hok'=> ?_;refine zA.post fun Q hQ=> ?_;have hQ2:∀h',Ext g h'→Q (zNE c l) h':=fun h' he=>hQ _ _ ⟨he,by unfold zNE;split<;>simp[below,zg],rfl⟩
 clear hQ;unfold zNE at hQ2;refine zA.of_fn (g:=zZ6) mix Tryz.func10 zlK rfl rfl ?_;simp only[Tryz.f10,gJ]
 repeat' first|simp only[go_sem,zhv, *]|apply bc<;>intro hc
 refine(hcn _).mono ?_;rintro r h ⟨hE,cs,rfl,⟨c6,cf⟩,hk⟩;clear hcn;have hstN:zQ Tryz.prog 95 (.ptr h.next 0) (.agg cs) (h.new h.next (.row zLk))=some (h.new h.next (.row cs)):=zU zGF (by omega) rfl c6 cf;obtain⟨H,hH,r1,E1⟩:∃H,h.new h.next (.row cs)=H∧H.at' h.next=some (.row cs)∧Ext h H:=⟨_,rfl,zJ _ _ _,(Ext.refl h).new (Nat.le_refl _) _⟩;have hq:=hQ2 H (hE.trans E1);have hld:zA0 Tryz.prog 95 (.ptr h.next 0) H=some (.agg cs):=zDD r1 zX0 (by rw[zGF,c6]) (by omega);have hvp:zO true 6 cs 0=some (.agg cs):=zB c6 (by omega);clear hQ2;cases q1:(wv c l==0) with
 |false=>
  rw[if_neg (by rw[q1];exact Bool.false_ne_true)] at hq;clear hk hto
  repeat' first|simp only[go_sem,zhv, *]|apply bc<;>intro hc
 |true=>
  rw[if_pos q1] at hq;have ht:=hto cs (hk (by simpa using q1));clear hk hto
  repeat' first|simp only[go_sem,zhv, *]|apply bc<;>intro hc|(refine zA.mono (ht _) ?_;rintro r h ⟨rfl,rfl⟩)
def zCt (c:Cat) (l:List Fac) (n:Int):Int:=if(!(wv c l==0))=true then wv c l else if(decide (n<0)||decide (n≥(zLM c l:Int)))=true then 3 else 0
def zXQ (c:Cat) (l:List Fac) (n:Nat):List (List Trm):=ym (zH c l).1 (zEU (zDr c (zH c l).1 (zH c l).2.1) n).1
def zXR (c:Cat) (l:List Fac) (n:Nat):List (List UInt8):=zAq c (zH c l).1.length (zH c l).2.1.length (zEU (zDr c (zH c l).1 (zH c l).2.1) n).1
theorem zfm {c:Cat} {l:List Fac} (h:wv c l=0):zLM c l≤4096:=by
 unfold wv at h;split at h
 ·rename_i q;rw[h] at q;exact absurd q (by decide)
 ·split at h
  ·exact absurd h (by decide)
  ·rename_i q;simp at q;omega
theorem zQk {l:List Nat} {n:Nat} (h:n<zYv l):∀r∈l,0<r:=fun r hr=>by
 unfold zYv at h;split at h
 ·omega
 ·rename_i q;rcases Nat.eq_zero_or_pos r with e|e
  ·subst e;exact absurd (List.any_eq_true.2 ⟨0,hr,rfl⟩) q
  ·exact e
set_option maxHeartbeats 4000000 in
theorem zjS {c:Cat} {d x:D} (hc:qW c d) (hs:c.Sm) {l:List Fac} (hx:zf 12 (zFC l) x) (hl:l.length≤65536) (hok:∀f∈l,f.Ok) (n:Int) (g:Heap):
  zA Tryz.prog 11 [d,x, .int .i64 n] g fun r h'=>h'=g∧∃td od,r= .tuple [.agg [td,od], .int .i64 (zCt c l n)]∧(zCt c l n=0→zca 1 (yO ((zXQ c l n.toNat).map mkA)) td∧zca 1 (yW (zXR c l n.toNat)) od)∧(zCt c l n≠0→td= .nilsl∧od= .nilsl):=by
 have hcn:=zND hc hs hx hl hok;obtain⟨vl1,vl2⟩:=zDl (c:=c) (l:=l);have hto:=fun cs (hk:zLL c (zH c l).1 (zH c l).2.1 cs)=>zOq hk hs (by omega) (by omega) fun a ha=>Nat.le_trans (zBe a ha).1 (by omega);have hTot:zYv (zDr c (zH c l).1 (zH c l).2.1)=zLM c l:=rfl;rw[hTot] at hto;have hch:=fun cs (hk:zLL c (zH c l).1 (zH c l).2.1 cs) (m:Nat) (hm:m<zLM c l) (hm2:m≤1048576)=>zXP hk hs (by omega) (by omega) zBe (zQk hm) hm2;obtain⟨ca,cb,ce,cp,rfl,_,_,_,_⟩:=hc;have hv4:∀a b c e:D,zO true 4 [a,b,c,e] 0=some (.agg [a,b,c,e]):=fun a b c e=>zB rfl (by omega)
 have hv2:∀a b:D,zO true 2 [a,b] 0=some (.agg [a,b]):=fun a b=>zB rfl (by omega);refine zA.pure (by kernel_rfl) fun hok'=> ?_;refine zA.post fun Q hQ=> ?_;obtain⟨E,hE⟩:∃E,zCt c l n=E:=⟨_,rfl⟩;rw[hE] at hQ;unfold zCt at hE;have hb0:yC Tryz.prog 42 []=some (.agg [.nilsl, .nilsl]):=by simp[yC,zRK,zV5,qS,D.notTuple,D.cells]
 obtain⟨G,hG,r0,E0,n0⟩:∃G,g.new g.next (.row [.nilsl, .nilsl])=G∧G.at' g.next=some (.row [.nilsl, .nilsl])∧Ext g G∧g.next<G.next:=⟨_,rfl,zJ _ _ _,(Ext.refl g).new (Nat.le_refl _) _,by rw[zD];omega⟩;refine zA.of_fn (g:=zWN) mix Tryz.func11 zkR rfl rfl ?_;simp only[Tryz.f11,gJ]
 repeat' first|simp only[go_sem,zcH, *]|apply bc<;>intro hc
 refine(hcn _).mono ?_;rintro r h ⟨hX,cs,rfl,⟨c6,cf⟩,hk⟩;clear hcn;have hstN:zQ Tryz.prog 95 (.ptr h.next 0) (.agg cs) (h.new h.next (.row zLk))=some (h.new h.next (.row cs)):=zU zGF (by omega) rfl c6 cf;obtain⟨H,hH,r1,E1,rA⟩:∃H,h.new h.next (.row cs)=H∧H.at' h.next=some (.row cs)∧Ext h H∧H.at' g.next=some (.row [.nilsl, .nilsl]):=⟨_,rfl,zJ _ _ _,(Ext.refl h).new (Nat.le_refl _) _,by have:=hX.1;rw[zF (by omega),hX.2 _ n0];exact r0⟩;have hld:zA0 Tryz.prog 95 (.ptr h.next 0) H=some (.agg cs):=zDD r1 zX0 (by rw[zGF,c6]) (by omega);have hvp:zO true 6 cs 0=some (.agg cs):=zB c6 (by omega)
 have EH:Ext g H:=(E0.trans hX).trans E1;have hst0:zQ Tryz.prog 42 (.ptr g.next 0) (.agg [.nilsl, .nilsl]) H=some (H.set g.next (.row [.nilsl, .nilsl])):=yN rA zPV rfl (by simp) rfl;have hat:=zC H g.next (.row [.nilsl, .nilsl]);have hQe:E≠0→Q (.tuple [.agg [.nilsl, .nilsl], .int .i64 E]) (H.set g.next (.row [.nilsl, .nilsl])):=fun he=>hQ _ _ ⟨EH.set (Nat.le_refl _) _,by simp[below,zg], .nilsl, .nilsl,rfl,fun e=>absurd e he,fun _=>⟨rfl,rfl⟩⟩;cases q1:(wv c l==0) with
 |false=>
  rw[if_pos (by rw[q1];rfl)] at hE;have hq:=hQe (by rw[←hE];simpa using q1);rw[←hE] at hq;clear hQ hQe hk hto hch hE
  repeat' first|simp only[go_sem,zcH, *]|apply bc<;>intro hc
 |true=>
  rw[if_neg (by rw[q1];decide)] at hE;have hkk:=hk (by simpa using q1);have ht:=hto cs hkk;clear hk hto;cases q2:decide (n<0) with
  |true=>
   rw[if_pos (by rw[q2];rfl)] at hE;have hq:=hQe (by rw[←hE];decide);rw[←hE] at hq;clear hQ hQe hch hkk hE
   repeat' first|simp only[go_sem,zcH, *]|apply bc<;>intro hc|(refine zA.mono (ht _) ?_;rintro r h ⟨hq2,rfl⟩)
  |false=>
  cases q3:decide (n≥(zLM c l:Int)) with
  |true=>
   rw[if_pos (by rw[q2,q3];rfl)] at hE;have hq:=hQe (by rw[←hE];decide);rw[←hE] at hq;clear hQ hQe hch hkk hE
   repeat' first|simp only[go_sem,zcH, *]|apply bc<;>intro hc|(refine zA.mono (ht _) ?_;rintro r h ⟨hq2,rfl⟩)
  |false=>
   rw[if_neg (by rw[q2,q3];decide)] at hE;subst hE;have h0:0≤n:=by have:=of_decide_eq_false q2;omega
   have h1:n<(zLM c l:Int):=by have:=of_decide_eq_false q3;omega
   obtain⟨m,rfl⟩:=Int.eq_ofNat_of_zero_le h0;have hcm:=hch cs hkk m (by omega) (by have:=zfm (c:=c) (l:=l) (by simpa using q1);omega);clear hch hkk hQe
   repeat' first|simp only[go_sem,zcH, *]|apply bc<;>intro hc|(refine zA.mono (ht _) ?_;rintro r h ⟨hq2,rfl⟩)
   refine(hcm _).mono ?_;rintro r h3 ⟨hq3,td,od,rfl,htd,hod⟩;have hst:zQ Tryz.prog 42 (.ptr g.next 0) (.agg [td,od]) H=some (H.set g.next (.row [td,od])):=yN rA zPV rfl (by simp) (by simp[(zM htd.1.isSl).2.2,(zM hod.1.isSl).2.2]);have hat2:=zC H g.next (.row [td,od]);have hb1:below g.next td:=by
    rcases htd.1 with⟨rfl,_⟩ |rfl
    ·trivial
    ·exact zz (Nat.zero_le _) _ (zFz _).2
   have hb2:below g.next od:=by
    rcases hod.1 with⟨rfl,_⟩ |rfl
    ·trivial
    ·exact zz (Nat.zero_le _) _ (yg (sz:=1) (xs:=yW (zXR c l m)) qe .no).2
   have hq:=hQ (.tuple [.agg [td,od], .int .i64 0]) (H.set g.next (.row [td,od])) ⟨EH.set (Nat.le_refl _) _,by simp only[below,zg];exact⟨⟨hb1,hb2,trivial⟩,trivial,trivial⟩,td,od,rfl,fun _=>⟨htd,hod⟩,fun e=>absurd rfl e⟩;clear hQ hcm
   repeat' first|simp only[go_sem,zcH, *]|apply bc<;>intro hc
def ye (p:Fac→Bool):List Fac→Nat→List Nat
 | [],_=>[]
 |f::fs,k=>if p f then k::ye p fs (k+1) else ye p fs (k+1)
theorem zAj (p:Fac→Bool):∀ (l m:List Fac) (k:Nat),ye p (l++m) k=ye p l k++ye p m (k+l.length)
 | [],m,k=>by simp[ye]
 |f::l,m,k=>by
  simp only[List.cons_append,ye,zAj p l m (k+1),List.length_cons];rw[show k+1+l.length=k+(l.length+1) by omega];split<;>simp
theorem ww (p:Fac→Bool):∀ (l:List Fac) (k:Nat),∀i∈ye p l k,k≤i∧i<k+l.length
 | [],k,i,h=>by simp[ye] at h
 |f::l,k,i,h=>by
  simp only[ye] at h;have ih:=ww p l (k+1);split at h
  ·rcases List.mem_cons.1 h with rfl|h
   ·simp
   ·have:=ih i h;simp;omega
  ·have:=ih i h;simp;omega
def zSI (p:Fac→Bool) (l:List Fac) (i:Nat):Nat:=(ye p (l.take i) 0).length
theorem zU3 {p:Fac→Bool} {l:List Fac} {i:Nat} (h:i<l.length) (hp:p l[i]=false):zSI p l (i+1)=zSI p l i:=by
 unfold zSI;rw[List.take_succ_eq_append_getElem h,zAj];simp[ye,hp]
theorem zXS {p:Fac→Bool} {l:List Fac} {i:Nat} (h:i<l.length) (hp:p l[i]=true):zSI p l (i+1)=zSI p l i+1∧(ye p l 0)[zSI p l i]? =some i:=by
 constructor
 ·unfold zSI;rw[List.take_succ_eq_append_getElem h,zAj];simp[ye,hp]
 ·unfold zSI;have e:l=l.take i++l[i]::l.drop (i+1):=by rw[List.getElem_cons_drop,List.take_append_drop]
  have e2:ye p l 0=ye p (l.take i) 0++ye p (l[i]::l.drop (i+1)) (0+(l.take i).length):=by
   rw[←zAj,←e]
  rw[e2,List.getElem?_append_right (Nat.le_refl _),Nat.sub_self];have e3:(l.take i).length=i:=by rw[List.length_take];omega
  simp[ye,hp,e3]
theorem zXT {p:Fac→Bool} {l:List Fac} :zSI p l l.length=(ye p l 0).length:=by
 unfold zSI;rw[List.take_length]
def zDU (sc:List D) (kind:Int) (hf:D):D:= .fn (.func 265) [] [.iptr [.iptr sc 0] 0, .iptr [.int .i64 kind] 0, .iptr [hf] 0]
theorem zF0 (sc:List D) (kind:Int) {hf:D} (hh:∃f a c,hf= .fn f a c) (h:Heap):zA Tryz.prog 204 [.iptr sc 0, .int .i64 kind,hf] h fun r h'=>h'=h∧r=zDU sc kind hf:=by
 obtain⟨fr,a,c,rfl⟩:∃f a c,hf= .fn f a c:=hh;refine zA.of_fn (g:=zQF) mix Tryz.func204 ze4 rfl rfl ?_;simp only[Tryz.f204,gJ];simp only[go_sem,zi2,zDU]
theorem qG (p:Fac→Bool):∀ (l:List Fac) (k:Nat),(ye p l k).length≤l.length
 | [],_=>Nat.le_refl _
 |f::l,k=>by
  simp only[ye];have:=qG p l (k+1);split<;>simp only[List.length_cons]<;>omega
def isF (kind:Int) (q:Fac→Bool) (f:Fac):Bool:=f.kind==kind&&q f
def fIx (kind:Int) (q:Fac→Bool) (fs:List Fac):List Nat:=ye (isF kind q) fs 0
abbrev elI (l:List Nat) (k:Nat):List D:=[.int .i64 ((l.getD k 0:Nat):Int)]
set_option maxHeartbeats 2000000 in
theorem zDm {x:D} {sc:List D} {fs:List Fac} {kind:Int} {hf:D} {q:Fac→Bool} (hsc:sc[4]? =some x) (hx:zf 12 (zFC fs) x) (hl:fs.length≤1048576) (hok:∀f∈fs,f.Ok)
  {id:Nat} {Y:Nat→(Nat→Prop)→Heap→Prop}
  (y:Yld Tryz.prog id (fIx kind q fs).length (elI (fIx kind q fs)) Y fun _ _=>False)
  {S R:Nat→Prop} {h:Heap} (hR:∀i,R i→i<h.next∧(¬S i∨∀k S h',Y k S h'→h'.at' i=h.at' i)) (hq:∀f∈fs,∀h2:Heap,(∀i,R i→h2.at' i=h.at' i)→zGU Tryz.prog hf [.agg f.cells] h2 fun r h3=>h3=h2∧r= .bool (q f)) (hY:Y 0 S h):
  zA Tryz.prog 265 [.yld id, .iptr [.iptr sc 0] 0, .iptr [.int .i64 kind] 0, .iptr [hf] 0] h fun _ h'=>∃S',(∀j,S' j→S j∨h.next≤j)∧But S h h'∧Y (fIx kind q fs).length S' h':=by
 refine zA.of_fn (g:=zPs) mix Tryz.func265 zeF rfl rfl ?_;simp only[Tryz.f265,gJ];have hll:=zAi hx;simp only[go_sem,zKn,zX,hsc,hll];refine zy (fun i fr h'=>fr 0= .yld id∧fr 2= .iptr [.int .i64 kind] 0∧fr 3= .iptr [hf] 0∧fr 10=x∧fr 11= .int .i64 fs.length∧fr 12= .int .i64 (i:Int)∧∃S',(∀j,S' j→S j∨h.next≤j)∧But S h h'∧Y (zSI (isF kind q) fs i) S' h') fs.length ?_ ?_
 ·simp only[go_sem,zKn,true_and,and_true,Int.ofNat_zero];exact⟨S,fun j hj=> .inl hj,But.refl S h,hY⟩
 rintro i fr h' hi ⟨f0,f2,f3,f10,f11,f12,S',hS,hbut,hYi⟩;simp only[go_sem,zKn,f0,f2,f3,f10,f11,f12];by_cases hlt:i<fs.length
 ·rw[decide_eq_true (show(i:Int)<fs.length by exact_mod_cast hlt)];have hm:fs[i]∈fs:=List.getElem_mem hlt;have ha:=yy hx hlt;have hw:zO true 12 fs[i].cells 0=some (.agg fs[i].cells):=zB rfl (by omega);have hst:=zFD (hok _ hm);have hex:Ext h' (h'.new h'.next (.row fs[i].cells)):=(Ext.refl h').new (Nat.le_refl _) _;have hbut1:But S h (h'.new h'.next (.row fs[i].cells)):=hbut.trans (hex.but S) fun i hi=> .inl hi;have hk0:fs[i].cells[0]? =some (.int .i64 fs[i].kind):=rfl;have ew:IntKind.i64.wrap ((i:Int)+1)=((i+1:Nat):Int):=zh (by unfold lim;omega);cases hk:(fs[i].kind==kind) with
  |false=>
   simp only[go_sem,zKn,f0,f2,f3,f10,f11,f12,ha,hw,hst,hk0,hk,ew,true_and];refine⟨hlt,S',hS,hbut1,?_⟩;rw[zU3 hlt (by simp[isF,hk])];exact y.ext hYi hex
  |true=>
   simp only[go_sem,zKn,f0,f2,f3,f10,f11,f12,ha,hw,hst,hk0,hk];refine zGU.mono (Q:=fun r h3=>h3=h'.new h'.next (.row fs[i].cells)∧r= .bool (q fs[i])) ?_ (hq _ hm _ fun j hj=> ?_)
   rotate_left
   ·obtain⟨h1,h2|h2⟩:=hR j hj
    ·exact hbut1.2 j h1 h2
    ·have:=hbut.1;rw[zF (by omega),h2 _ _ _ hYi]
   rintro r h3 ⟨rfl,rfl⟩;cases hqq:q fs[i] with
   |false=>
    simp only[go_sem,zKn,f0,f2,f3,f10,f11,f12,ew,true_and];refine⟨hlt,S',hS,hbut1,?_⟩;rw[zU3 hlt (by simp[isF,hqq])];exact y.ext hYi hex
   |true=>
    obtain⟨n1,n2⟩:=zXS (p:=isF kind q) hlt (by simp[isF,hk,hqq]);have hnl:=(List.getElem?_eq_some_iff.1 n2).1;have hel:(fIx kind q fs).getD (zSI (isF kind q) fs i) 0=i:=by rw[List.getD_eq_getElem?_getD,fIx,n2];rfl
    have hgo:=y.go _ S' _ hnl (y.ext hYi hex);simp only[elI,hel] at hgo;simp only[go_sem,zKn,f0,f2,f3,f10,f11,f12];refine hgo.mono ?_;rintro r h3 ⟨S2,hS2,hb2,hr⟩;have hbut3:But S h h3:=hbut1.trans hb2 hS;have hsub:∀j,S2 j→S j∨h.next≤j:=fun j hj=>by
     rcases hS2 j hj with hj|hj
     ·exact hS j hj
     ·have h1:=hbut1.1;exact .inr (by omega)
    rcases hr with⟨rfl,hY2⟩ | ⟨rfl,hZ2⟩
    ·simp only[go_sem,zKn,f0,f2,f3,f10,f11,f12,vun,ew,true_and];exact⟨hlt,S2,hsub,hbut3,by rw[n1];exact hY2⟩
    ·exact hZ2.elim
 ·have hie:i=fs.length:=by omega
  subst hie;rw[decide_eq_false (by omega)];simp only[go_sem,zKn];rw[zXT] at hYi;exact⟨S',hS,hbut,hYi⟩
end Go.V
