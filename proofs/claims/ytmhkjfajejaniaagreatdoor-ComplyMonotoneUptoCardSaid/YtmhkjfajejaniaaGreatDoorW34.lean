/- Rules of the machine of abstract values, part 10. No condition. -/
import Derived.Test.YtmhkjfajejaniaaGreatDoorW33
import Derived.Shelf.SlSortCmp.Whole1
import Derived.Test.YtmhkjfajejaniaaGreatDoorW23
import Derived.Test.YtmhkjfajejaniaaGreatDoorW30
import Derived.Test.YtmhkjfajejaniaaGreatDoorW22
import Derived.Test.YtmhkjfajejaniaaGreatDoorW32
set_option linter.all false
namespace Go.V
open Go.Shelf Go.Proofs Go.Sort
open Go.RowKit (Below)
theorem zIZ {α:Type} [Inhabited α] (enc:α→Value) (w:World) (blk off m:Nat) (dk:Array α) (os:Array Go.Obj):∀b,b≠blk→b<w.heap.size→(sortWorld enc w blk off m dk os).heap[b]? =w.heap[b]? :=fun b hb hl=>by
 show((putRow enc (Go.Sort.ahead w m) blk off dk).heap++os)[b]? =_;have hs:(putRow enc (Go.Sort.ahead w m) blk off dk).heap.size=w.heap.size:=by simp[putRow,mapBlock,Go.Sort.ahead]
 rw[Array.getElem?_append_left (by omega)];show((Go.Sort.ahead w m).heap.modify blk _)[b]? =_;rw[Array.getElem?_modify,if_neg (fun e=>hb e.symm)];rfl
section
variable {P:Program} {f cmp:FuncId} {β:Type} {dd:β→D} {xs:List β} {id:Nat} {pre post:List D} {h:Heap} {cf:β→β→Int}
abbrev zLQ (dd:β→D) (xs:List β) (M:Imm) (ρ:Ren):= {p:β×Value // p.1∈xs∧rel M ρ (dd p.1) p.2∧(dd p.1).flat=true}
theorem zA.of_sort1 (h0:xs≠[]) (he:ww P f=true) (hcm:∀args w,(callFunc cmp args).run P w= .ok (.enter cmp args) w)
  (hrow:h.at' id=some (.row (pre++xs.map dd++post))) (hO:SWO (ltOf cf)) (hlen:xs.length<4611686018427387904)
  (hcmp:∀x∈xs,∀y∈xs,∀H,zA P cmp [dd x,dd y] H fun r H'=>H'=H∧r= .int .i64 (cf x y))
  (hlib:∀ (α:Type) [Inhabited α] (enc:α→Value),OneCell enc→∀ (cf:α→α→Int),SWO (ltOf cf)→∀ (g:Nat) (cb:Array Value) (blk off cap:Nat) (d:Array α) (w:World),
   (∀args w,(callFunc g args).run P w= .ok (.enter g args) w)→CmpLays1 P g cb enc cf blk off d.size w→Go.Sort.Holds enc w blk off d→blk<w.heap.size→d.size<4611686018427387904→
   Calls P f #[.slice (some ⟨blk,off,none⟩) d.size cap, .func (.func g) #[] cb] w fun e w'=>e= .returned (.tuple #[])∧∃d' n os,PermIn 0 d.size d d'∧SortedIn (ltOf cf) 0 d.size d'∧w'=sortWorld enc w blk off n d' os):
  zA P f [.rs id 1 pre.length xs.length, .fn (.func cmp) [] []] h fun r h'=>r= .tuple []∧∃ys:List β,ys.Perm xs∧ys.Pairwise (fun a b=>¬cf b a<0)∧h'=h.set id (.row (pre++ys.map dd++post)):=by
 refine⟨he,fun w0 G M ρ w va hg0 hs hfr hr=> ?_⟩;simp only[yA] at hr;obtain⟨v,vs',hva,hv,v2,vs2,rfl,hv2,rfl⟩:=hr;simp only[rel,yA] at hv hv2;obtain⟨_,hlim,l,cap,o,hl,rfl,⟨hc1,hc2⟩,hsz,ho⟩:=hv;obtain⟨_,fa,fc,rfl,hfa,hfc⟩:=hv2;have hfa':fa= #[]:=Array.ext' (by simpa using hfa);have hfc':fc= #[]:=Array.ext' (by simpa using hfc);subst hfa' hfc';have hxl:0<xs.length:=List.length_pos_iff.2 h0;have ho:o=pre.length:=by
  rcases ho with hz|ho
  ·omega
  ·exact ho
 subst ho;have hva':va= #[.slice (some ⟨l.blk,pre.length,none⟩) xs.length cap, .func (.func cmp) #[] #[]]:=Array.ext' (by simpa using hva);subst hva';obtain⟨l',h1,hkeep,hM,c,e,hw,hls,hcl,hcells⟩:=hs.live id _ hrow;rw[hl] at h1;cases h1;have hblk:l.blk<w.heap.size:=(Array.getElem?_eq_some_iff.1 hw).1;have hat:∀i (hi:i<xs.length),(pre++xs.map dd++post)[pre.length+i]? =some (dd xs[i]):=fun i hi=>by
  rw[List.append_assoc,List.getElem?_append_right (by omega),Nat.add_sub_cancel_left,List.getElem?_append_left (by simpa using hi),List.getElem?_map,List.getElem?_eq_getElem hi];rfl
 have hval:∀i (hi:i<xs.length),∃v,c[pre.length+i]? =some v∧rel M ρ (dd xs[i]) v∧(dd xs[i]).flat=true:=fun i hi=>by
  obtain⟨h1,v,h2,h3⟩:=hcells _ _ (hat i hi);exact⟨v,h2,h3,h1⟩
 let mk:_root_.Fin xs.length→zLQ dd xs M ρ:=fun i=>⟨(xs[i.1],(hval i.1 i.2).choose),List.getElem_mem i.2,(hval i.1 i.2).choose_spec.2⟩
 letI:Inhabited (zLQ dd xs M ρ):=⟨mk ⟨0,hxl⟩⟩
 let enc:zLQ dd xs M ρ→Value:=fun p=>p.1.2
 have henc1:OneCell enc:=fun p=>zGG p.2.2.1 p.2.2.2
 let d:Array (zLQ dd xs M ρ):=Array.ofFn mk
 have hd:d.size=xs.length:=by simp[d]
 have hdi:∀i (hi:i<xs.length),d[i]! =mk ⟨i,hi⟩:=fun i hi=>by rw[getElem!_pos d i (by rw[hd];exact hi)];simp[d]
 have hdl:d.toList.map (fun p=>p.1.1)=xs:=by
  apply List.ext_getElem?;intro i;rw[List.getElem?_map,Array.getElem?_toList];by_cases hi:i<xs.length
  ·rw[Array.getElem?_eq_getElem (by rw[hd];exact hi),List.getElem?_eq_getElem hi,Option.map_some];simp[d,mk]
  ·rw[Array.getElem?_eq_none (by omega),List.getElem?_eq_none (by omega)];rfl
 have hO':SWO (ltOf fun p q:zLQ dd xs M ρ=>cf p.1.1 q.1.1):=⟨fun x=>hO.irrefl _,fun x y z=>hO.trans _ _ _,fun x y z=>hO.ntrans _ _ _⟩;have hholds:Go.Sort.Holds enc w l.blk pre.length d:=by
  intro j hj;rw[hd] at hj;refine⟨?_,by simp[World.frozen?,hw]⟩;rw[hdi _ hj];have hv:=(hval j hj).choose_spec.1;simp only[World.cell?,hw,Option.isSome_none,Bool.false_eq_true,if_false];exact hv
 have hlays:CmpLays1 P cmp #[] enc (fun p q=>cf p.1.1 q.1.1) l.blk pre.length d.size w:=by
  intro m os dk hdk x y;have hfrm:=zIZ enc w l.blk pre.length m dk os;have hgood:∀g,P.globalNamed wx=some g→Lib.TabIs P (sortWorld enc w l.blk pre.length m dk os) wx .u64 Lib.pow10Tab:=fun g hg=>by
   have h2:=hg0.here hs.below hg;unfold Lib.TabIs World.var? at h2⊢;rw[hg] at h2⊢;simp only[Option.bind_some] at h2⊢;have hgk:=(hg0 g hg).1;rw[hfrm g (fun q=>hkeep (q▸hgk)) (Nat.lt_of_lt_of_le (w0.kept g hgk) hs.below.size)];exact h2
  refine zA.stays (fun H=>(hcmp x.1.1 x.2.1 y.1.1 y.2.1 H).mono fun r H' hq=>hq.2) (fun M ρ v hv=>by simp only[rel] at hv;exact hv.1) (M:=M) (ρ:=ρ) (n:=h.next) (fun b o v hb=> ?_) hgood hfr ?_
  ·have hne:b≠l.blk:=fun q=>by subst q;rw[hM o] at hb;cases hb
   rw[←hs.imm b o v hb];exact World.cell?_of_block (w:=w) (hfrm b hne (hs.lt hb))
  ·show yA M ρ _ [_,_];simp only[yA];exact⟨_,_,rfl,x.2.2.1,_,_,rfl,y.2.2.1,rfl⟩
 have hcall:=hlib (zLQ dd xs M ρ) enc henc1 (fun p q=>cf p.1.1 q.1.1) hO' cmp #[] l.blk pre.length cap d w hcm hlays hholds hblk (by rw[hd];exact hlen);rw[hd] at hcall;refine hcall.mono fun e w' hq=> ?_;obtain⟨rfl,d',n,os,hperm,hsorted,rfl⟩:=hq;rw[←hd] at hperm;have hpl:=PermIn.list hperm;have hd':d'.size=xs.length:=by rw[hperm.1,hd]
 have hys:(d'.toList.map fun p=>p.1.1).Perm xs:=by
  have q:=hpl.map (fun p=>p.1.1)
  rwa [hdl] at q
 let mk2:zLQ dd xs M ρ→zb8:=fun p=>⟨(dd p.1.1,p.1.2),p.2.2.2⟩
 have hm1:∀dk:List (zLQ dd xs M ρ),(dk.map mk2).map (fun q=>q.1.1)=(dk.map fun p=>p.1.1).map dd:=fun dk=>by rw[List.map_map,List.map_map];rfl
 have hm2:∀dk:List (zLQ dd xs M ρ),(dk.map mk2).map (fun q=>q.1.2)=dk.map enc:=fun dk=>by rw[List.map_map];rfl
 have hrow2:h.at' id=some (.row (pre++(d.toList.map mk2).map (fun q=>q.1.1)++post)):=by rw[hm1,hdl];exact hrow
 have hS:=(hs.ahead n).putRow (α:=zb8) (enc:=fun q=>q.1.2) (dd:=fun q=>q.1.1) (fun q=>q.2) hrow2 hl (ys:=d'.toList.map mk2) (hpl.map mk2).length_eq (fun q hq=>by
  obtain⟨p,hp,rfl⟩:=List.mem_map.1 hq;exact p.2.2.1)
 have hS2:=hS.grow os;rw[zF7,List.map_toArray,hm2,hm1,←List.map_toArray,Array.toArray_toList,←zF7] at hS2;refine⟨.tuple #[],M,ρ, .tuple [],_,rfl,MLe.refl _,RLe.refl _,hS2,hfr,by simp only[rel,yA];exact⟨#[],rfl,rfl⟩,rfl,d'.toList.map (fun p=>p.1.1),hys,?_,rfl⟩;rw[List.pairwise_map,List.pairwise_iff_getElem];intro i j hi hj hij;have hj':j<d'.size:=by simpa using hj
 have:=hsorted i j (Nat.zero_le _) hij (by omega);rw[getElem!_pos d' j hj',getElem!_pos d' i (by omega)] at this;simpa [ltOf] using this
end
open Go.Proofs Go.Shelf Go.Sort
set_option maxRecDepth 100000
theorem zLR:QC yz where
 anti x y:=by unfold yz;(repeat' split)<;>omega
 trans x y z h1 h2:=by
  have e:∀a b:Int,yz a b≤0↔a≤b:=fun a b=>by unfold yz;(repeat' split)<;>omega
  rw[e] at *;omega
theorem zaW (x y:Int) (h:yz x y=0):x=y:=by unfold yz at h;(repeat' split at h)<;>omega
theorem zKA:∀a b:List Trm,zBB a b=zGf zO a b
 | [],[]=>rfl
 | [],_::_=>rfl
 |_::_,[]=>rfl
 |x::xs,y::ys=>by
  simp only[zBB,zGf,zQT,zKA xs ys];by_cases h:zO x y=0<;>simp[h]
theorem zBU (a b:List Trm):zEI a b=zQT (yz a.length b.length) (zGf zO a b):=by
 unfold zEI zQT;simp only[orL,zKA];split
 ·split
  ·rename_i q;exact q.symm
  ·rfl
 ·rfl
theorem zIa:QC zEI:=by
 have:=(zLR.key (γ:=List Trm) (fun a=>(a.length:Int))).lex zDW.list;exact⟨fun x y=>by rw[zBU,zBU];exact this.anti x y,fun x y z=>by rw[zBU,zBU,zBU];exact this.trans x y z⟩
theorem zM6 (x y:List Trm) (h:zEI x y=0):x=y:=by
 rw[zBU,zQT] at h;split at h
 ·exact zLM zFT _ _ h
 ·rename_i q;exact absurd h q
theorem zLS (l:List (List Trm)):(yK (l.map mkA)).flatten=l.map fun ts=>(mkA ts).d:=by rw[zUX,List.map_map];rfl
theorem zaX {l:List (List Trm)} {id:Nat} {g:Heap} (h0:l≠[]) (hl:l.length≤1048576) (hle:∀ts∈l,ts.length≤1048576) (hrow:g.at' id=some (.row (yK (l.map mkA)).flatten)):
  zA Tryz.prog 178 [.rs id 1 0 l.length, .fn (.func 179) [] []] g fun r h'=>r= .tuple []∧h'=g.set id (.row (yK ((srt zEI l).map mkA)).flatten):=by
 have:=zA.of_sort1 (P:=Tryz.prog) (f:=178) (cmp:=179) (dd:=fun ts=>(mkA ts).d) (xs:=l) (id:=id) (pre:=[]) (post:=[]) (h:=g) (cf:=zEI) h0 (by kernel_rfl) (enters_of Tryz.func179 (by kernel_rfl) rfl) (by simpa [zLS] using hrow) zIa.swo (by omega)
  (fun x hx y hy H=>zM1 (za.mk .no) (za.mk .no) (hle x hx) (hle y hy) H) (fun α _ enc h1 cf hO g cb blk off cap d w hg hc hH hb hs=>Any.slices_SortFunc Tryz.sortAlt enc h1 cf hO g cb blk off cap d w hg hc hH hb hs)
 refine this.mono fun r h' ⟨e1,ys,hp,hs,e2⟩=>⟨e1,?_⟩;rw[e2,zQU zIa zM6 hp hs,zLS];simp
open Go.Proofs
def zA6 (ts:List Trm):List Trm:=cpt zO (srt zO ts)
def zDZ (out:List (List Trm)) (a:List Trm):List (List Trm):=if(out.any fun b=>zFP a b)=true then out else out++ [a]
def zCr (l:List (List Trm)):Nat→List (List Trm)
 |0=>[]
 |n+1=>match l[n]? with
  |none=>zCr l n
  |some a=>zDZ (zCr l n) a
def wc (l:List (List Trm)):List (List Trm):=srt zEI (l.map zA6)
def yW (l:List (List Trm)):List (List Trm):=zCr (wc l) (wc l).length
theorem zQW {ts:List Trm} (h:ts≠[]):zA6 ts≠[]:=fun e=>by
 have h1:0<(srt zO ts).length:=by rw[(qZ ts).length_eq];exact List.length_pos_iff.2 h
 have:=zLN (c:=zO) h1 _ (Nat.le_refl _) h1;rw[show yy zO (srt zO ts) (srt zO ts).length=zA6 ts from rfl,e] at this
 exact absurd this (Nat.lt_irrefl _)
theorem zM7 (ts:List Trm):(zA6 ts).length≤ts.length:=by
 have:=zB1 (c:=zO) (l:=srt zO ts) (srt zO ts).length;rw[(qZ ts).length_eq] at this;exact(by rw[←(qZ (c:=zO) ts).length_eq];exact zB1 _)
theorem zQX {ts:List Trm} (h:ts≠[]) (hl:ts.length≤4096):(mkA ts).Ok:=⟨za.mk .no,h,hl⟩
theorem zDa {l:List (List Trm)} :∀n,∀x∈zCr l n,x∈l
 |0,x,h=>by cases h
 |n+1,x,h=>by
  rw[zCr] at h;split at h
  ·exact zDa n x h
  ·rename_i a e;unfold zDZ at h;split at h
   ·exact zDa n x h
   ·rcases List.mem_append.1 h with h|h
    ·exact zDa n x h
    ·cases List.mem_singleton.1 h;exact List.mem_of_getElem? e
theorem zIb {l:List (List Trm)} :∀n,(zCr l n).length≤n
 |0=>Nat.le_refl _
 |n+1=>by
  have ih:=zIb (l:=l) n;rw[zCr];split
  ·omega
  ·unfold zDZ;split
   ·omega
   ·rw[List.length_append];simp only[List.length_cons,List.length_nil];omega
theorem zM8 {l:List (List Trm)} {x:List Trm} (h:x∈yW l):∃y∈l,x=zA6 y:=by
 have:=zIX.1 (zDa _ x h);obtain⟨y,hy,rfl⟩:=List.mem_map.1 this;exact⟨y,hy,rfl⟩
theorem zEa (d:D) (nid:Nat) (h:Heap) (h1:d.cells= [d]) (h2:d.notTuple=true) (h3:d.flat=true):zM Tryz.prog false nid 39 1 [(0,d)] h=some (.sl 1 [[d]] .full,h):=by
 have:=yf (P:=Tryz.prog) (nid:=nid) (h:=h) (x:=d) wW zKs zBk rfl rfl (by omega) (by omega) h2 (by rw[h1];rfl);rw[h1] at this;exact this
set_option maxHeartbeats 4000000 in
theorem zIc {l:List Alt} {d:D} (hd:za 1 (yK l) d) (h0:l≠[]) (hl:l.length≤1048576) (hok:∀a∈l,a.Ok) (g:Heap):
  zA Tryz.prog 124 [d] g fun r h'=>h'=g∧Fin 1 (yK ((yW (l.map Alt.ts)).map mkA)) r:=by
 refine zA.pure (by kernel_rfl) fun hok'=>zA.strip ?_;have hlen:=zB2 hd;refine zA.post fun Q hQ=> ?_;have hE0:=Own.start (Ext.refl g) 1;refine zA.of_fn (g:=zS7) mix Tryz.func124 zha rfl rfl ?_;simp only[Tryz.f124,gJ]
 repeat' first|simp only[go_sem,zGq, *]|apply bc<;>intro hc
 refine zH (fun i fr h=>∃s,fr 10=d∧fr 11= .int .i64 (l.length:Int)∧fr 12= .int .i64 (i:Int)∧fr 3=s∧zNf g h 1 (yK (((l.take i).map fun a=>zA6 a.ts).map mkA)) s) l.length (by omega) ?_ ?_ ?_
 ·have hs:=zNf.start (Ext.refl g) 1;simp only[go_sem,zGq,true_and,and_true,Int.ofNat_zero];exact⟨_,rfl,hs⟩
 ·rintro i fr h hlt e1 ew ⟨s,f10,f11,f12,f3,ho⟩;have a1:=zDX hd hlt;obtain⟨o1,o2,o3⟩:=hok _ (List.getElem_mem hlt);have htk:(l.take (i+1)).map (fun a=>zA6 a.ts)=(l.take i).map (fun a=>zA6 a.ts)++ [zA6 l[i].ts]:=by rw[List.take_succ_eq_append_getElem hlt,List.map_append];rfl
  have hli:((l.take i).map fun a=>zA6 a.ts).length=i:=by rw[List.length_map,List.length_take];omega
  rw[htk];clear htk;generalize l[i]=a at *
  generalize(l.take i).map (fun a=>zA6 a.ts)=pre at *
  obtain⟨k1,k2,k3⟩:=zN o1;have hcl:=fun h=>zUV o1 o2 (by omega) h;have hso:=fun(H:Heap) (hr:H.at' h.next=some (.row (qU a.ts).flatten))=>zaV (id:=h.next) o2 (by omega) hr;have hn0:srt zO a.ts≠[]:=fun e=>o2 (List.length_eq_zero_iff.1 (by rw[←(qZ (c:=zO) a.ts).length_eq,e];rfl));have hnl:(srt zO a.ts).length=a.ts.length:=(qZ a.ts).length_eq;have hco:=fun(H:Heap) (hr:H.at' h.next=some (.row (qU (srt zO a.ts)).flatten))=>zOm (id:=h.next) hn0 (by omega) hr;rw[hnl] at hco;have hnd:D.sl 2 (qU (cpt zO (srt zO a.ts))) .no=(mkA (zA6 a.ts)).d:=rfl;clear hd hok hlen
  repeat' first|simp only[go_sem,zGq, *]|apply bc<;>intro hc|(refine zA.mono (hcl _) ?_;rintro r h ⟨rfl,rfl⟩)
  refine(hso _ (zJ _ _ _)).mono ?_;rintro r h2 ⟨rfl,rfl⟩
  repeat' first|simp only[go_sem,zGq, *]|apply bc<;>intro hc
  refine(hco _ (zC _ _ _)).mono ?_;rintro r h2 ⟨rfl,rfl⟩;have hE:Ext h (((h.new h.next (.row (qU a.ts).flatten)).set h.next (.row (qU (srt zO a.ts)).flatten)).del h.next):=(((Ext.refl h).new (Nat.le_refl _) _).set (Nat.le_refl _) _).del (Nat.le_refl _);generalize((h.new h.next (.row (qU a.ts).flatten)).set h.next (.row (qU (srt zO a.ts)).flatten)).del h.next=H at *
  have hoH:=ho.ext hE;obtain⟨d',G,hap,hoG,htr⟩:=hoH.app (P:=Tryz.prog) (ys:=yK [mkA (zA6 a.ts)]) (tk:= .full) wW zER zBk (by omega) (fun cs=>zUS Tryz.underlying62) (zDr _) (zDr _) (by simp[yK]) (by rw[yP,List.length_map,hli,zBl];unfold lim;simp[yK];omega) (by rw[yP,List.length_map,hli];unfold lim;simp[yK];omega);have hone:=zEa (mkA (zA6 a.ts)).d H.next H rfl rfl rfl;have hal:yK [mkA (zA6 a.ts)]= [[(mkA (zA6 a.ts)).d]]:=rfl;rw[hal] at hap htr;have hfin:zNf g G 1 (yK ((pre++ [zA6 a.ts]).map mkA)) d':=by
   rw[List.map_append]
   have:yK (pre.map mkA++List.map mkA [zA6 a.ts])=yK (pre.map mkA)++yK [mkA (zA6 a.ts)]:=by simp[yK]
   rw[this];exact hoG
  clear ho hoH hoG hso hco hcl hal
  repeat' first|simp only[go_sem,zGq, *]|apply bc<;>intro hc
  exact⟨_,rfl,hfin⟩
 ·rintro fr h e1 ⟨s,f10,f11,f12,f3,ho⟩;rw[List.take_length] at ho;have hS:srt zEI (l.map fun a=>zA6 a.ts)=wc (l.map Alt.ts):=by rw[wc,List.map_map];rfl
  have hSl:(wc (l.map Alt.ts)).length=l.length:=by rw[←hS,(qZ _).length_eq,List.length_map]
  have hm0:l.map (fun a=>zA6 a.ts)≠[]:=by simp[h0]
  have hml:(l.map fun a=>zA6 a.ts).length=l.length:=List.length_map ..;have hmok:∀ts∈wc (l.map Alt.ts),ts≠[]∧ts.length≤4096:=fun ts h=>by
   rw[←hS] at h;obtain⟨a,ha,rfl⟩:=List.mem_map.1 (zIX.1 h);exact⟨zQW (hok a ha).ne,Nat.le_trans (zM7 _) (hok a ha).len⟩
  have hle:∀ts∈l.map (fun a=>zA6 a.ts),ts.length≤1048576:=fun ts h=>by
   have:=(hmok ts (by rw[←hS];exact zIX.2 h)).2;omega
  obtain⟨hx,hc⟩:=ho;rcases hc with⟨_,e⟩ | ⟨id,rfl,hrow,hid,hidn,_⟩
  ·exact absurd (by simpa [yK] using e) h0
  have hal:(yK ((l.map fun a=>zA6 a.ts).map mkA)).length=l.length:=by rw[yP,List.length_map,hml]
  rw[hal] at f3;have hso:=zaX hm0 (by omega) hle hrow;have hmin:yW (l.map Alt.ts)=zCr (wc (l.map Alt.ts)) (wc (l.map Alt.ts)).length:=rfl;rw[hmin] at hQ;clear hmin;rw[hml,hS] at hso;generalize wc (l.map Alt.ts)=L at *
  have E0:Ext g (h.set id (.row (yK (L.map mkA)).flatten)):=hx.set hid _;have hQ2:∀r h',Ext g h'→below g.next (yJ r)→Fin 1 (yK ((zCr L L.length).map mkA)) (yJ r)→Q r h':=fun r h' q1 q2 q3=>hQ r h' ⟨q1,q2,q3⟩;clear hQ hd hlen hS hm0 hml hle hal
  repeat' first|simp only[go_sem,zGq, *]|apply bc<;>intro hc|(refine zA.mono hso ?_;rintro r h ⟨rfl,rfl⟩)
  have r0:(h.set id (.row (yK (L.map mkA)).flatten)).at' id=some (.row (yK (L.map mkA)).flatten):=zC _ _ _;have hidn2:id<(h.set id (.row (yK (L.map mkA)).flatten)).next:=hidn;generalize h.set id (.row (yK (L.map mkA)).flatten)=H at *
  have hvl:=fun(h:Heap)=>zCe (P:=Tryz.prog) (t:=39) (sz:=1) (id:=id) (off:=0) (len:=l.length) (h:=h) Tryz.underlying39
  repeat' first|simp only[go_sem,zGq, *]|apply bc<;>intro hc
  refine zH (fun i fr h=>∃o,fr 28= .rs id 1 0 l.length∧fr 29= .int .i64 (l.length:Int)∧fr 30= .int .i64 (i:Int)∧fr 7=o∧Own H h 1 (yK ((zCr L i).map mkA)) o) l.length (by omega) ?_ ?_ ?_
  ·have hs:=Own.start (Ext.refl H) 1;simp only[go_sem,zGq,true_and,and_true,Int.ofNat_zero];exact⟨_,rfl,hs⟩
  ·rintro i fr h2 hlt ec ew ⟨o,f28,f29,f30,f7,ho⟩;have hlt':i<L.length:=by omega
   have a1:=zx (P:=Tryz.prog) (sz:=1) (id:=id) wW zBk (k:= .i64) hlt;have hrow2:h2.at' id=some (.row (yK (L.map mkA)).flatten):=by rw[ho.1.2 _ hidn2];exact r0
   have hLi:(yK (L.map mkA)).flatten[i*1]? =some (mkA L[i]).d:=by rw[zLS,Nat.mul_one,List.getElem?_map,List.getElem?_eq_getElem hlt'];rfl
   obtain⟨m1,m2⟩:=hmok L[i] (List.getElem_mem hlt');have hmi:zCr L (i+1)=zDZ (zCr L i) L[i]:=by rw[zCr,List.getElem?_eq_getElem hlt']
   have hsub:∀x∈zCr L i,x≠[]∧x.length≤4096:=fun x hx=>hmok x (zDa i x hx);have hml:=zIb (l:=L) i;rw[hmi];clear hmi;generalize L[i]=a at *
   generalize zCr L i=out at *
   have hnx:h2.next<(h2.new h2.next (.row [(mkA a).d])).next:=by rw[zF];omega
   have hrn:(h2.new h2.next (.row [(mkA a).d])).at' h2.next=some (.row [(mkA a).d]):=zJ _ _ _;have hstn:zW Tryz.prog 62 (.ptr h2.next 0) (mkA a).d (h2.new h2.next (.row [.nilsl]))=some (h2.new h2.next (.row [(mkA a).d])):=by
    rw[zT (zJ _ _ _) zBk (by simp) rfl rfl,zEU];rfl
   have hoN:=ho.ext ((Ext.refl h2).new (Nat.le_refl _) (.row [(mkA a).d]));have hcf:=zDY (l:=out.map mkA) (d:=o) hoN.isSl (by rw[List.length_map];omega) (f:=180) (cap:=[.ptr h2.next 0]) (p:=fun b=>zFP a b.ts) (g:=h2.new h2.next (.row [(mkA a).d])) (fun s hs=>by
    obtain⟨y,hy,rfl⟩:=List.mem_map.1 hs;obtain⟨n1,n2⟩:=hsub y hy;exact⟨(zQX n1 n2).sl,zfF (zQX m1 m2) (zQX n1 n2) hrn⟩)
   have hany:(out.map mkA).any (fun b=>zFP a b.ts)=out.any fun b=>zFP a b:=by rw[List.any_map];rfl
   rw[hany] at hcf;have hck:(mkA a).d.cells= [(mkA a).d]∧(mkA a).d.notTuple=true:=⟨rfl,rfl⟩;obtain⟨k1,k2⟩:=hck;cases hb:(out.any fun b=>zFP a b) with
   |true=>
    have hst:zDZ out a=out:=if_pos hb;rw[hst];rw[hb] at hcf;clear hmok hsub hany hst hb hQ2 ho;generalize h2.new h2.next (.row [(mkA a).d])=h3 at *
    repeat' first|simp only[go_sem,zGq, *]|apply bc<;>intro hc|(refine zA.mono hcf ?_;rintro r h ⟨rfl,rfl⟩)
    exact⟨_,rfl,hoN⟩
   |false=>
    have hst:zDZ out a=out++ [a]:=if_neg (by rw[hb];exact Bool.false_ne_true);rw[hst];rw[hb] at hcf;have hone:=fun nid h=>zEa (mkA a).d nid h rfl rfl rfl;clear hmok hsub hany hst hb hQ2 ho;have hld:zBD Tryz.prog 62 (.ptr h2.next 0) (h2.new h2.next (.row [(mkA a).d]))=some (mkA a).d:=by
     simp only[go_sem,hrn]
    generalize h2.new h2.next (.row [(mkA a).d])=h3 at *
    repeat' first|simp only[go_sem,zGq, *]|apply bc<;>intro hc|(refine zA.mono hcf ?_;rintro r h ⟨rfl,rfl⟩)
    refine hoN.appH (ys:=yK [mkA a]) wW zER zBk (by omega) (zDr _) (by simp[yK]) (by rw[yP,List.length_map,zBl];unfold lim;simp[yK];omega) (by rw[yP,List.length_map];unfold lim;simp[yK];omega) fun d' h' ho'=> ?_;have ho2:Own H h' 1 (yK ((out++ [a]).map mkA)) d':=by
     rw[List.map_append]
     have:yK (out.map mkA++List.map mkA [a])=yK (out.map mkA)++yK [mkA a]:=by simp[yK]
     rw[this];exact ho'
    clear hoN ho'
    repeat' first|simp only[go_sem,zGq, *]|apply bc<;>intro hc
    exact⟨_,rfl,ho2⟩
  ·rintro fr h2 ec ⟨o,f28,f29,f30,f7,ho⟩;have hfin:=ho.2.1.fin (fun x hx=>by
    obtain⟨y,hy,rfl⟩:=List.mem_map.1 hx;obtain⟨z,_,rfl⟩:=List.mem_map.1 hy;exact zIY z)
   have hq:=hQ2 o h2 (E0.trans ho.1) (z6 (Nat.zero_le _) _ hfin.1) (by rw[hSl];exact hfin.2);clear hQ2 hfin hmok ho
   repeat' first|simp only[go_sem,zGq, *]|apply bc<;>intro hc
noncomputable def zaY:Cfg:=⟨fun t=>List.contains (α:=Nat) [22] t,fun i=>(zKl (α:=List (Nat×Fl)) [] i).getD []⟩
theorem zlY (t:Tmp):zaY.mu t=List.contains (α:=Nat) [22] t:=(rfl)
theorem zlZ:zf Tryz.prog zaY Tryz.f239=true:=by kernel_rfl
noncomputable def zaZ:Cfg:=⟨fun t=>List.contains (α:=Nat) [33] t,fun i=>(zKl (α:=List (Nat×Fl)) [] i).getD []⟩
theorem zYX (t:Tmp):zaZ.mu t=List.contains (α:=Nat) [33] t:=(rfl)
theorem zla:zf Tryz.prog zaZ Tryz.f184=true:=by kernel_rfl
theorem zaa {n:Nat} (h0:0<n) (hn:n≤1048576) (h:Heap):
  zA Tryz.prog 239 [.nilsl, .int .i64 n] h fun r h'=>∃xs:List D,xs.length=n*2∧r= .rs h.next 2 0 0∧h'=h.new h.next (.row xs):=by
 have e1:decide ((n:Int)<0)=false:=decide_eq_false (by omega);have e2:IntKind.i64.wrap (0-0)=0:=rfl;have e3:IntKind.i64.wrap ((n:Int)-0)=n:=by rw[zZ (by omega) (by omega)];omega
 have e4:decide ((n:Int)>0)=true:=decide_eq_true (by omega);have e5:yk Tryz.prog 62 .nilsl none (some (.int .i64 0)) none h=some .nilsl:=by
  simp[yk,zHs,zC6,qD,wP,wC,zJI,zLo]
 have e6:zBF Tryz.prog true h.next 62 3 .nilsl (.int .i64 n) h=some (.rs h.next 2 0 n,h.new h.next (.row (zA7 n [.str [], .str []]))):=by
  have hb:n*32≤lim:=by unfold lim;omega
  have hb2:n≤lim:=by unfold lim;omega
  simp only[zBF,Tryz.underlying3,qD,zB0,wP,zE6,Int.toNat_natCast,D.notTuple,D.cells];rw[if_pos (by simp[hb,hb2,h0]),zBJ Tryz.underlying79]
 have e7:yk Tryz.prog 62 (.rs h.next 2 0 n) none (some (.int .i64 0)) none (h.new h.next (.row (zA7 n [.str [], .str []])))=some (.rs h.next 2 0 0):=
  zAw (n:=0) zHs qD wP (by omega)
 have e8:∀h:Heap,zC1 Tryz.prog 62 .nilsl h=some (.int .i64 0):=fun h=>qC (sz:=2) za.nil Tryz.underlying62;refine zA.of_fn (g:=zaY) mix Tryz.func239 zlZ rfl rfl ?_;simp only[Tryz.f239,gJ];simp only[go_sem,zlY,e1,e2,e3,e4,zWY Tryz.underlying62,e8,e5,e6,e7,Option.map_none,Option.map_some,List.length_nil,Int.natCast_zero,Int.ofNat_zero];refine⟨zA7 n [.str [], .str []],?_,rfl⟩
 have:∀m,(zA7 m [D.str [],D.str []]).length=m*2:=fun m=>by
  induction m with
  |zero=>rfl
  |succ m ih=>
   change (List.replicate m [D.str [],D.str []]).flatten.length=_ at ih;change (List.replicate (m+1) [D.str [],D.str []]).flatten.length=_;rw[List.replicate_succ,List.flatten_cons,List.length_append,ih];simp;omega
 exact this n
def zfG (h0 h:Heap) (l:List Trm) (d:D):Prop:=Ext h0 h∧∃id xs,d= .rs id 2 0 l.length∧h.at' id=some (.row xs)∧h0.next≤id∧id<h.next∧l.length*2≤xs.length∧xs.take (l.length*2)=(qU l).flatten
theorem zUY (l:List Trm):(qU l).flatten.length=l.length*2:=by rw[qF (zAP l),ym]
theorem zWv {l l2:List Trm} {d d2:D} {h0 h:Heap} (hc:zfG h0 h l d) (hd:za 2 (qU l2) d2) (hl:l.length≤1048576) (hl2:l2.length≤1048576):
  ∃d' h',yD Tryz.prog true h.next 62 d d2 (qr d d2 h)=some (d',h')∧zfG h0 h' (l++l2) d':=by
 obtain⟨he,id,xs,rfl,hid,hg,hlt,hle,ht⟩:=hc;have hb:(l.length+l2.length)*32≤lim:=by unfold lim;omega
 have hb2:l.length+l2.length≤lim:=by unfold lim;omega
 have hv:∀h2:Heap,zR2 2 d2 h2=some (qU l2).flatten:=fun h2=>by
  rcases hd with⟨rfl,hs⟩ | ⟨tk,rfl⟩
  ·have:l2= []:=List.map_eq_nil_iff.1 hs;subst this;rfl
  ·simp only[zR2,if_true]
 have hlt2:(xs.take (l.length*2)).length=l.length*2:=by rw[List.length_take];omega
 have hfl2:=zUY l2;have key:∀h2:Heap,h2.at' id=some (.row (xs.take (l.length*2)))→yD Tryz.prog true h.next 62 (.rs id 2 0 l.length) d2 h2=some (.rs h.next 2 0 (l.length+l2.length),(h2.del id).new h.next (.row (xs.take (l.length*2)++(qU l2).flatten))):=fun h2 e=>by
  simp only[yD,qD,zN9,wP,if_true,hv,hfl2,Nat.mul_div_cancel _ (show 0<2 by omega),qW,zE6,Bool.true_and];rw[if_pos (by simp[hb,hb2]),e];simp only[];rw[if_pos (by rw[hlt2])]
 obtain⟨h2,e1,e2,e3,e4⟩:∃h2,qr (.rs id 2 0 l.length) d2 h=h2∧h2.next=h.next∧(∀j,j≠id→h2.at' j=h.at' j)∧h2.at' id=some (.row (xs.take (l.length*2))):=by
  by_cases hq:l.length*2<xs.length
  ·refine⟨h.set id (.row (xs.take (l.length*2))),?_,rfl,fun j hj=>by simp[Heap.set,hj],zC _ _ _⟩;rcases hd with⟨rfl,hs⟩ | ⟨tk,rfl⟩ <;>simp[qr,hid,hq]
  ·have ht:xs.take (l.length*2)=xs:=List.take_of_length_le (by omega);refine⟨h,?_,rfl,fun _ _=>rfl,by rw[ht];exact hid⟩;rcases hd with⟨rfl,hs⟩ | ⟨tk,rfl⟩ <;>simp[qr,hid,hq]
 have he2:Ext h0 h2:=⟨by rw[e2];exact he.1,fun i hi=>by rw[e3 i (by omega)];exact he.2 i hi⟩;rw[e1,key h2 e4];refine⟨_,_,rfl,(he2.del hg).new he.1 _,h.next,_,by rw[List.length_append],zJ _ _ _,he.1,?_,?_,?_⟩
 ·have:(h2.del id).next=h2.next:=rfl;simp only[Heap.new,this,e2];omega
 ·rw[List.length_append,List.length_append,hlt2,hfl2];omega
 ·rw[ht,zWr,List.take_of_length_le (by rw[List.length_append,List.length_append,zUY,hfl2];omega)]
set_option maxHeartbeats 2000000 in
theorem zUZ {a b:Alt} (ha:a.Ok) (hb:b.Ok) (g:Heap):
  zA Tryz.prog 184 [.sl 1 [[a.d],[b.d]] .full] g fun r h'=>h'=g∧r=(mkA (a.ts++b.ts)).d:=by
 obtain⟨a1,a2,a3⟩:=ha;obtain⟨b1,b2,b3⟩:=hb;have hpa:0<a.ts.length:=List.length_pos_iff.2 a2;refine zA.pure (by kernel_rfl) fun hok=> ?_
 suffices hh:zA Tryz.prog 184 [.sl 1 [[a.d],[b.d]] .full] g fun r h'=>zfG g h' (a.ts++b.ts) r by
  refine zA.freezeD (hh.mono ?_);rintro r h' ⟨hE,id,xs,rfl,hid,hg,hlt,hle,ht⟩;refine⟨id,xs,hid,hE.del hg,?_⟩;rw[zLP (xs:=qU (a.ts++b.ts)) (rest:=xs.drop ((a.ts++b.ts).length*2)) (zAP _) (ym _) (by rw[←ht,List.take_append_drop])];exact⟨zWs _ _,rfl⟩
 obtain⟨M,hM0,hM1,hM2⟩:∃M:Nat→Nat,M 0=0∧M 1=a.ts.length∧M 2=a.ts.length+b.ts.length:=⟨fun i=>if i=0 then 0 else if i=1 then a.ts.length else a.ts.length+b.ts.length,rfl,rfl,rfl⟩
 obtain⟨L,hL0,hL1,hL2⟩:∃L:Nat→List Trm,L 0= []∧L 1=a.ts∧L 2=a.ts++b.ts:=⟨fun i=>if i=0 then [] else if i=1 then a.ts else a.ts++b.ts,rfl,rfl,rfl⟩
 obtain⟨pt,hp0,hp1⟩:∃pt:Nat→Alt,pt 0=a∧pt 1=b:=⟨fun i=>if i=0 then a else b,rfl,rfl⟩
 have hll:∀h:Heap,zC1 Tryz.prog 39 (.sl 1 [[a.d],[b.d]] .full) h=some (.int .i64 2):=fun h=>qC (za.mk .full) Tryz.underlying39;have hx:∀i:Nat,i<2→zX Tryz.prog 39 (.sl 1 [[a.d],[b.d]] .full) (.int .i64 (i:Int))=some (.iptr [(pt i).d] 0)∧za 2 (qU (pt i).ts) (pt i).d∧M (i+1)=M i+(pt i).ts.length∧L (i+1)=L i++(pt i).ts∧(L i).length≤8192∧(pt i).ts.length≤8192∧M i≤8192:=fun i hi=>by
  rcases i with _|_|i
  ·refine⟨zd (za.mk .full) wW zBk (by rw[hp0];rfl),by rw[hp0];exact a1,by rw[hM0,hp0,hM1];omega,by rw[hL0,hL1,hp0];rfl,by rw[hL0];simp,by rw[hp0];omega,by omega⟩
  ·refine⟨zd (za.mk .full) wW zBk (by rw[hp1];rfl),by rw[hp1];exact b1,by rw[hM1,hp1,hM2],by rw[hL1,hL2,hp1],by rw[hL1];omega,by rw[hp1];omega,by show M 1≤8192;omega⟩
  ·omega
 clear hp0 hp1;refine zA.of_fn (g:=zaZ) mix Tryz.func184 zla rfl rfl ?_;simp only[Tryz.f184,gJ]
 repeat' first|simp only[go_sem,zYX, *]|apply bc<;>intro hc
 refine zH (fun i fr h=>fr 0= .sl 1 [[a.d],[b.d]] .full∧fr 9= .sl 1 [[a.d],[b.d]] .full∧fr 10= .int .i64 2∧fr 11= .int .i64 (i:Int)∧fr 3= .int .i64 ((M i:Nat):Int)∧h=g) 2 (by omega) ?_ ?_ ?_
 ·simp only[go_sem,true_and,and_true,Int.ofNat_zero,zYX,hM0]
 ·rintro i fr h hlt e1 ew ⟨f0,f9,f10,f11,f3,rfl⟩;obtain⟨x1,x2,x3,x4,x5,x6,x7⟩:=hx i hlt;have hlen:=wG x2;have hw:IntKind.i64.wrap (((M i:Nat):Int)+(((pt i).ts.length:Nat):Int))=((M (i+1):Nat):Int):=by rw[x3,zZ (by omega) (by omega)];omega
  have hneg:decide (((M (i+1):Nat):Int)<0)=false:=decide_eq_false (by omega);have e2:decide ((i:Int)<2)=true:=e1;clear x3 x4 hx hM0 hM1 hM2
  repeat' first|simp only[go_sem,zYX, *]|apply bc<;>intro hc
 ·rintro fr h e1 ⟨f0,f9,f10,f11,f3,rfl⟩;have e2:decide ((((2:Nat):Int))<2)=false:=rfl;have hgr:=zaa (n:=M 2) (by omega) (by omega) h;have f11':fr 11= .int .i64 2:=f11;clear e1 f11 hM0 hM1 hM2
  repeat' first|simp only[go_sem,zYX, *]|apply bc<;>intro hc
  refine hgr.mono ?_;rintro r h2 ⟨xs,hxs,rfl,rfl⟩;have hc0:zfG h (h.new h.next (.row xs)) (L 0) (.rs h.next 2 0 0):=⟨(Ext.refl h).new (Nat.le_refl _) _,h.next,xs,by rw[hL0];rfl,zJ _ _ _,Nat.le_refl _,by rw[zF];omega,by rw[hL0];simp,by rw[hL0];rfl⟩;generalize h.new h.next (.row xs)=h2 at *
  clear hgr
  repeat' first|simp only[go_sem,zYX, *]|apply bc<;>intro hc
  refine zH (fun i fr h4=>fr 25= .sl 1 [[a.d],[b.d]] .full∧fr 26= .int .i64 2∧fr 27= .int .i64 (i:Int)∧zfG h h4 (L i) (fr 6)) 2 (by omega) ?_ ?_ ?_
  ·simp only[go_sem,true_and,and_true,Int.ofNat_zero,zYX];exact hc0
  ·rintro i fr2 h4 hlt e1 ew ⟨g25,g26,g27,gC⟩;obtain⟨d,g6⟩:∃x,fr2 6=x:=⟨_,rfl⟩;rw[g6] at gC;obtain⟨x1,x2,x3,x4,x5,x6,x7⟩:=hx i hlt;obtain⟨d',h5,k1,k2⟩:=zWv gC x2 (by omega) (by omega);rw[←x4] at k2;have e2:decide ((i:Int)<2)=true:=e1;obtain⟨q1,q2,q3⟩:=zN x2;clear x3 x4 hx hL0 hL1 hL2 gC hc0
   repeat' first|simp only[go_sem,zYX, *]|apply bc<;>intro hc
  ·rintro fr2 h4 e1 ⟨g25,g26,g27,gC⟩;have e2:decide ((((2:Nat):Int))<2)=false:=rfl;have g27':fr2 27= .int .i64 2:=g27;rw[hL2] at gC;obtain⟨d,g6⟩:∃x,fr2 6=x:=⟨_,rfl⟩;rw[g6] at gC;clear e1 g27 hx hL0 hL1 hL2
   repeat' first|simp only[go_sem,zYX, *]|apply bc<;>intro hc
def zGg (a b:List Alt) (k:Nat):List Trm:=(a.getD (k/b.length) (mkA [])).ts++(b.getD (k%b.length) (mkA [])).ts
def zEK (a b:List Alt):List (List Trm):=(List.range (a.length*b.length)).map (zGg a b)
theorem zUa {a b:List Alt} {i j:Nat} (hi:i<a.length) (hj:j<b.length):zGg a b (i*b.length+j)=a[i].ts++b[j].ts:=by
 unfold zGg;rw[show(i*b.length+j)/b.length=i by rw[Nat.mul_comm,Nat.mul_add_div (by omega),Nat.div_eq_of_lt hj];rfl,show(i*b.length+j)%b.length=j by rw[Nat.mul_comm,Nat.mul_add_mod,Nat.mod_eq_of_lt hj]];simp[hi,hj]
theorem zKB (a b:List Alt):(zEK a b).length=a.length*b.length:=by simp[zEK]
theorem zab {a b:List Alt} {x y:D} (hx:za 1 (yK a) x) (hy:za 1 (yK b) y) (g:Heap):zA Tryz.prog 126 [x,y] g fun r h'=>h'=g∧r= .fn (.func 183) [] [.iptr [x] 0, .iptr [y] 0]:=by
 refine zA.of_fn (g:=zTS) mix Tryz.func126 zh5 rfl rfl ?_;simp only[Tryz.f126,gJ];rcases hx with⟨rfl,_⟩ | ⟨_,rfl⟩
 ·rcases hy with⟨rfl,_⟩ | ⟨_,rfl⟩
  ·repeat' first|simp only[go_sem,zWF, *]|apply bc<;>intro hc
  ·repeat' first|simp only[go_sem,zWF, *]|apply bc<;>intro hc
 ·rcases hy with⟨rfl,_⟩ | ⟨_,rfl⟩
  ·repeat' first|simp only[go_sem,zWF, *]|apply bc<;>intro hc
  ·repeat' first|simp only[go_sem,zWF, *]|apply bc<;>intro hc
set_option maxHeartbeats 2000000 in
theorem zWw {a b:List Alt} {x y:D} (hx:za 1 (yK a) x) (hy:za 1 (yK b) y) (ha:∀q∈a,q.Ok) (hb:∀q∈b,q.Ok) (hla:a.length≤4096) (hlb:b.length≤4096)
  {id:Nat} {Y:Nat→(Nat→Prop)→Heap→Prop} (yl:Yld Tryz.prog id (a.length*b.length) (fun k=>[(mkA (zGg a b k)).d]) Y fun _ _=>False) {S:Nat→Prop} {w:Heap} (hY:Y 0 S w):
  zA Tryz.prog 183 [.yld id, .iptr [x] 0, .iptr [y] 0] w fun _ h'=>∃S',But S w h'∧Y (a.length*b.length) S' h':=by
 have hl1:=zB2 hx;have hl2:=zB2 hy;obtain⟨x1,x2,_⟩:=zN hx;obtain⟨y1,y2,_⟩:=zN hy;refine zA.of_fn (g:=zTd) mix Tryz.func183 ziO rfl rfl ?_;simp only[Tryz.f183,gJ]
 repeat' first|simp only[go_sem,zMZ, *]|apply bc<;>intro hc
 refine zH (fun i fr h'=>fr 0= .yld id∧fr 2= .iptr [y] 0∧fr 8=x∧fr 9= .int .i64 (a.length:Int)∧fr 10= .int .i64 (i:Int)∧∃S',(∀j,S' j→S j∨w.next≤j)∧But S w h'∧Y (i*b.length) S' h') a.length (by omega) ?_ ?_ ?_
 ·have hst:∃S',(∀j,S' j→S j∨w.next≤j)∧But S w w∧Y (0*b.length) S' w:=⟨S,fun j hj=> .inl hj,But.refl S w,by rw[Nat.zero_mul];exact hY⟩;simp only[go_sem,zMZ,true_and,and_true,Int.ofNat_zero];exact hst
 ·rintro i fr h1 hlt e1 ew ⟨f0,f2,f8,f9,f10,hS⟩;have a1:=zDX hx hlt;have oka:=ha _ (List.getElem_mem hlt);have hpr:=fun j (hj:j<b.length)=>zUa hlt hj;generalize a[i]=p at *
  obtain⟨p1,p2,_⟩:=zN oka.sl
  repeat' first|simp only[go_sem,zMZ, *]|apply bc<;>intro hc
  refine yC (fun j fr h'=>fr 0= .yld id∧fr 2= .iptr [y] 0∧fr 8=x∧fr 9= .int .i64 (a.length:Int)∧fr 10= .int .i64 (i:Int)∧fr 5=p.d∧fr 14=y∧fr 15= .int .i64 (b.length:Int)∧fr 16= .int .i64 (j:Int)∧∃S',(∀j,S' j→S j∨w.next≤j)∧But S w h'∧Y (i*b.length+j) S' h') b.length ?_ ?_
  ·simp only[go_sem,zMZ,true_and,and_true,Int.ofNat_zero];exact⟨f0,f2,f8,f9,f10,hS⟩
  clear hS;rintro j fr2 h2 hj ⟨g0,g2,g8,g9,g10,g5,g14,g15,g16,S',hS1,hS2,hS3⟩;by_cases hlt2:j<b.length
  ·have e2:decide ((j:Int)<(b.length:Int))=true:=decide_eq_true (by omega);have ew2:IntKind.i64.wrap ((j:Int)+1)=((j+1:Nat):Int):=ze (by unfold lim;omega);have b1:=zDX hy hlt2;have okb:=hb _ (List.getElem_mem hlt2);have hpij:=hpr j hlt2;have hk:i*b.length+j<a.length*b.length:=by
    have:i*b.length+b.length≤a.length*b.length:=by rw[←Nat.succ_mul];exact Nat.mul_le_mul_right _ hlt
    omega
   have hgo:=yl.go (i*b.length+j) S' h2 hk hS3;simp only[hpij] at hgo;generalize b[j]=q at *
   obtain⟨q1,q2,_⟩:=zN okb.sl;have hcc:=zUZ oka okb h2;have hbs:∀nid:Nat,zM Tryz.prog false nid 39 2 [(0,p.d),(1,q.d)] h2=some (.sl 1 [[p.d],[q.d]] .full,h2):=fun nid=>by
    have:=zIG (P:=Tryz.prog) (nid:=nid) (h:=h2) (x:=p.d) (y:=q.d) wW zKs zBk rfl rfl (by omega) (by omega) p2 (by rw[p1];rfl) q2 (by rw[q1];rfl);rw[p1,q1] at this;exact this
   have hm1:(mkA (p.ts++q.ts)).d.notTuple=true:=rfl;clear oka okb hpr hpij yl hx hy ha hb
   repeat' first|simp only[go_sem,zMZ, *]|apply bc<;>intro hc|(refine zA.mono hcc ?_;rintro r h ⟨hq,rfl⟩)
   subst hq;refine hgo.mono ?_;rintro r h3 ⟨S2,k1,k2,k3⟩;rcases k3 with⟨rfl,k3⟩ | ⟨rfl,k3⟩
   ·have hfin:∃S',(∀j,S' j→S j∨w.next≤j)∧But S w h3∧Y (i*b.length+(j+1)) S' h3:=⟨S2,fun i' hi'=>by
     rcases k1 i' hi' with q|q
     ·exact hS1 _ q
     ·exact .inr (by have:=hS2.1;omega),hS2.trans k2 hS1,k3⟩
    clear hS1 hS2 hS3 k1 k2 k3 hgo
    repeat' first|simp only[go_sem,zMZ, *]|apply bc<;>intro hc
   ·exact k3.elim
  ·have e2:decide ((j:Int)<(b.length:Int))=false:=decide_eq_false (by omega);have hje:j=b.length:=by omega
   have hfin:∃S',(∀j,S' j→S j∨w.next≤j)∧But S w h2∧Y ((i+1)*b.length) S' h2:=⟨S',hS1,hS2,by rw[Nat.succ_mul,←hje];rw[hje] at hS3⊢;exact hS3⟩;clear hS1 hS2 hS3 yl hje
   repeat' first|simp only[go_sem,zMZ, *]|apply bc<;>intro hc
 ·rintro fr h2 e1 ⟨f0,f2,f8,f9,f10,S',hS1,hS2,hS3⟩;have hfin:∃S',But S w h2∧Y (a.length*b.length) S' h2:=⟨S',hS2,hS3⟩;clear hS1 hS2 hS3 yl
  repeat' first|simp only[go_sem,zMZ, *]|apply bc<;>intro hc
theorem zLT (l:List (List Trm)):∀c∈yK (l.map mkA),yS c:=fun c hc=>by
 obtain⟨y,hy,rfl⟩:=List.mem_map.1 hc;obtain⟨z,_,rfl⟩:=List.mem_map.1 hy;exact zIY z
set_option maxHeartbeats 2000000 in
theorem zM9 {a b:List Alt} {x y:D} (hx:za 1 (yK a) x) (hy:za 1 (yK b) y) (ha:∀q∈a,q.Ok) (hb:∀q∈b,q.Ok) (hla:a.length≤256) (hlb:b.length≤256) (g:Heap):
  zA Tryz.prog 182 [.nilsl, .fn (.func 183) [] [.iptr [x] 0, .iptr [y] 0]] g fun r h'=>h'=g∧Fin 1 (yK ((zEK a b).map mkA)) r:=by
 refine zA.pure (by kernel_rfl) fun hok=>zA.strip ?_;refine zA.post fun Q hQ=> ?_;have hPl:(zEK a b).length=a.length*b.length:=zKB a b;have hm:a.length*b.length≤65536:=Nat.le_trans (Nat.mul_le_mul hla hlb) (by omega);obtain⟨ps,hps⟩:∃ps,yK ((zEK a b).map mkA)=ps:=⟨_,rfl⟩;have hpl:ps.length=a.length*b.length:=by rw[←hps,yP,List.length_map,hPl]
 have hpe:∀k,k<a.length*b.length→ps[k]? =some [(mkA (zGg a b k)).d]:=fun k hk=>by
  rw[←hps];simp[yK,zEK,hk]
 have hp1:∀c∈ps,yS c:=by rw[←hps];exact zLT _
 rw[hps] at hQ;clear hPl hps;refine zA.of_fn (g:=zPv) mix Tryz.func182 ziC rfl rfl ?_;simp only[Tryz.f182,gJ]
 repeat' first|simp only[go_sem,zTV, *]|apply bc<;>intro hc
 simp only[zF];generalize hL:LRec.mk _ _ _ _ _ _ _=L;have yl:Yld Tryz.prog (g.next+1) (a.length*b.length) (fun k=>[(mkA (zGg a b k)).d]) (zb2 g.next 1 L ps) (fun _ _=>False):=by
  refine⟨fun k S h y=>y.here,fun k S h h' y hn hk=>y.loc hn hk,fun S h hz=>hz.elim,fun S h h' hz=>hz.elim,fun i S h3 hi hyy=> ?_⟩;have hc:=hpe i hi;generalize hmm:(mkA (zGg a b i)).d=m at *
  have hmc:m.cells= [m]∧m.notTuple=true∧m.flat=true:=by rw[←hmm];exact⟨rfl,rfl,rfl⟩
  obtain⟨m1,m2,m3⟩:=hmc;have hone:=fun nid h=>zEa m nid h m1 m2 m3;obtain⟨g1,g2,d,g3,g4,g5⟩:=hyy;subst hL;refine yo.round (g:=zPv) mix g2 rfl (by kernel_rfl) (by kernel_rfl) (by kernel_rfl) ?_;simp only[go_sem,zTV];refine⟨g2,?_⟩;generalize hB:LRec.mk .busy _ _ _ _ _ _=B;generalize h5e:Heap.set h3 (g.next+1) (.loop B)=h5;have a1:h5.at' g.next=some (.row [d]):=by rw[←h5e,zE (by omega)];exact g3
  have a3:h5.at' (g.next+1)=some (.loop B):=by rw[←h5e];simp[Heap.set]
  have a4:h5.next=h3.next:=by rw[←h5e,zu]
  have a5:wQ h5 1 (ps.take i) d:=g4.loc (by omega) fun j hj=>by
   have:=g4.tok hj;rw[←h5e,zE (fun e=>by subst e;rw[g2] at this;cases this.2)]
  simp only[go_sem,zTV,a1,hone];have htl:(ps.take i).length=i:=by rw[List.length_take];omega
  refine a5.app2 wW zER zBk (by omega) (by simp) (by simp) (by rw[htl,zBl];unfold lim;simp;omega) (by rw[htl];unfold lim;simp;omega) ?_;intro d' h6 b1 b2 b3 b4 b5 b6;have c1:h6.at' g.next=some (.row [d]):=by
   rw[b3 _ (by omega) fun ht=> ?_]
   ·exact a1
   ·have:=(a5.tok ht).2;rw[a1] at this;cases this
  have hst:=zT (P:=Tryz.prog) (off:=0) c1 zJk (by simp) b5 b6;simp only[go_sem,zTV,hst,List.set_cons_zero];have c2:(h6.set g.next (.row [d'])).at' (g.next+1)=some (.loop B):=by
   rw[zE (by omega),b3 _ (by omega) fun ht=> ?_]
   ·exact a3
   ·have:=(a5.tok ht).2;rw[a3] at this;cases this
  refine qt c2 ⟨fun j=>j=g.next∨j=g.next+1∨zAB d' j,fun j hj=> ?_,⟨by simp only[go_sem];omega,fun j hj hS=> ?_⟩, .inl ⟨rfl,by simp only[go_sem];omega,?_,d',?_,?_,fun j=>Iff.rfl⟩⟩
  ·rcases hj with rfl|rfl|hj
   ·exact .inl ((g5 _).2 (.inl rfl))
   ·exact .inl ((g5 _).2 (.inr (.inl rfl)))
   ·exact .inr (by have:=b4 j hj;omega)
  ·have n1:j≠g.next:=fun e=>hS ((g5 j).2 (.inl e));have n2:j≠g.next+1:=fun e=>hS ((g5 j).2 (.inr (.inl e)));rw[zE n2,zE n1,b3 j (by omega) (fun ht=>hS ((g5 j).2 (.inr (.inr ht)))),←h5e,zE n2]
  ·rw[zC,←hB]
  ·rw[zE (by omega),zC]
  ·have:ps.take (i+1)=ps.take i++ [[m]]:=by rw[List.take_add_one,hc];rfl
   rw[this];refine b1.loc (Nat.le_refl _) fun j hj=> ?_;have:=b4 j hj;rw[zE (by omega),zE (by omega)]
 refine(zWw hx hy ha hb (by omega) (by omega) yl (S:=fun i=>i=g.next∨i=g.next+1) (w:=(g.new g.next (.row [.nilsl])).new (g.next+1) (.loop L)) ?_).mono ?_
 ·refine⟨?_,zJ _ _ _, .nilsl,by rw[zD (by omega),zJ], .inl ⟨rfl,rfl⟩,fun j=>by simp[zAB]⟩;rw[zj _ (by rw[zF];exact Nat.le_refl _)];omega
 rintro r h2 ⟨S',hb2,hYY⟩;obtain⟨g1,g2,d,g3,g4,g5⟩:=hYY;rw[←hpl,List.take_length] at g4;refine⟨L,g2,?_,?_⟩
 ·rw[←hL];intro e;cases e
 have hp:L.pending=none:=by rw[←hL]
 rw[hp,zBS];have k1:(h2.del (g.next+1)).at' g.next=some (.row [d]):=by rw[yi (by omega)];exact g3
 have hfin:=g4.fin hp1;have hq:=hQ d (h2.del (g.next+1)) ⟨Ext.del (Ext.of_but (((Ext.refl g).new (Nat.le_refl _) _).new (by omega) _) hb2 fun j hj=>by rcases hj with rfl|rfl<;>omega) (by omega),z6 (Nat.zero_le _) _ hfin.1,hfin.2⟩;clear hQ hfin g4 g5 hb2 yl hpe hp1
 repeat' first|simp only[go_sem,zTV, *]|apply bc<;>intro hc
theorem zRb {a b:List Alt} {x y:D} (hx:za 1 (yK a) x) (hy:za 1 (yK b) y) (ha:∀q∈a,q.Ok) (hb:∀q∈b,q.Ok) (hla:a.length≤256) (hlb:b.length≤256) (g:Heap):
  zA Tryz.prog 125 [.fn (.func 183) [] [.iptr [x] 0, .iptr [y] 0]] g fun r h'=>h'=g∧Fin 1 (yK ((zEK a b).map mkA)) r:=by
 have h1:=zM9 hx hy ha hb hla hlb;refine zA.post fun Q hQ=> ?_;refine zA.of_fn (g:=zTI) mix Tryz.func125 zhp rfl rfl ?_;simp only[Tryz.f125,gJ]
 repeat' first|simp only[go_sem,zde, *]|apply bc<;>intro hc
 refine(h1 _).mono ?_;rintro r h ⟨hq,hf⟩;subst hq;have:=hQ r h ⟨rfl,hf⟩;clear hQ hf
 repeat' first|simp only[go_sem,zde, *]|apply bc<;>intro hc
def zNA (l:List (List Trm)):D:= .tuple (if l.length>64 then [.nilsl, .int .i64 10] else [.sl 1 (yK (l.map mkA)) .no, .int .i64 0])
theorem zOn {l:List (List Trm)} (hl:l.length≤1048576) (g:Heap):
  zA Tryz.prog 123 [.sl 1 (yK (l.map mkA)) .no] g fun r h'=>h'=g∧r=zNA l:=by
 have hlen:=zB2 (l:=l.map mkA) (za.mk .no);rw[List.length_map] at hlen;refine zA.post fun Q hQ=> ?_;have h2:=hQ (zNA l) g ⟨rfl,rfl⟩;unfold zNA at h2;clear hQ;refine zA.of_fn (g:=zSu) mix Tryz.func123 zhI rfl rfl ?_;simp only[Tryz.f123,gJ];by_cases hb:l.length>64
 ·rw[if_pos hb] at h2;have e1:decide ((l.length:Int)>64)=true:=decide_eq_true (by omega)
  repeat' first|simp only[go_sem,zdB, *]|apply bc<;>intro hc
 ·rw[if_neg hb] at h2;have e1:decide ((l.length:Int)>64)=false:=decide_eq_false (by omega)
  repeat' first|simp only[go_sem,zdB, *]|apply bc<;>intro hc
theorem zId (l:List Lic):∀x∈zCl l,x.length=4:=fun x hx=>by
 obtain⟨y,_,rfl⟩:=List.mem_map.1 hx;rfl
theorem zWx (x y:Lic) (g:Heap):zA Tryz.prog 174 [.agg x.cells, .agg y.cells] g fun r h'=>h'=g∧r= .int .i64 (yz x.ver y.ver):=by
 have h1:=zII x.ver y.ver;refine zA.of_fn (g:=zTC) mix Tryz.func174 zhg rfl rfl ?_;simp only[Tryz.f174,gJ];simp only[Lic.cells]
 repeat' first|simp only[go_sem,zhf, *]|apply bc<;>intro hc|(refine zA.mono (h1 _) ?_;rintro r h ⟨rfl,rfl⟩)
theorem zac {l:List Lic} {id:Nat} {g:Heap} (h0:l≠[]) (hl:l.length≤1048576) (hrow:g.at' id=some (.row (zCl l).flatten)):
  zA Tryz.prog 173 [.rs id 4 0 l.length, .fn (.func 174) [] []] g fun r h'=>r= .tuple []∧∃ys:List Lic,ys.Perm l∧h'=g.set id (.row (zCl ys).flatten):=by
 have:=zA.of_sortK (P:=Tryz.prog) (f:=173) (cmp:=174) (k:=4) (cells:=Lic.cells) (xs:=l) (id:=id) (pre:=[]) (post:=[]) (h:=g) (cf:=fun x y=>yz x.ver y.ver) (mid:=[]) (midV:=[]) (fun M ρ vs h=>by simpa [yA] using h) h0 (by omega) (fun _ _=>rfl) (by kernel_rfl) (enters_of Tryz.func174 (by kernel_rfl) rfl) (by simpa [zCl] using hrow) (zLR.key Lic.ver).swo (by omega)
  (fun x _ y _ H=>zWx x y H) (fun α _ enc h1 h2 cf hO g cb blk off cap d w hg hc hH hb hs hd=>AnyQ.slices_SortFunc Tryz.sortLic 4 (Tryz.isAgg124) (Tryz.sizeOf124) enc h1 h2 cf hO g cb blk off cap d w hg hc hH hb hs)
 refine this.mono fun r h' ⟨e1,ys,hp,hs,e2⟩=>⟨e1,ys,hp,?_⟩;rw[e2];simp[zCl]
def zAQ (x y:Lic):Bool:=y.fam==x.fam&&decide (y.ver≥x.ver)
def zDb (c:Cat) (x:Lic):List (List UInt8):=(c.ls.filter (zAQ x)).map Lic.name
theorem zNB {c:Cat} {k:List UInt8} {x:Lic} (h:zB9 c k=some x):x∈c.ls:=by
 unfold zB9 at h;split at h
 ·cases h
 ·split at h
  ·exact List.mem_of_getElem? h
  ·cases h
theorem zNC {c:Cat} {x:Lic} (h:x∈c.ls):c.ls.filter (zAQ x)≠[]:=fun e=>by
 have:x∈c.ls.filter (zAQ x):=List.mem_filter.2 ⟨h,by simp[zAQ]⟩;rw[e] at this;cases this
theorem zad (x:Lic) (nid:Nat) (h:Heap):zM Tryz.prog false nid 22 1 [(0, .agg [.str x.name, .str x.fam, .int .i64 x.ver, .str x.text])] h=some (.sl 4 [x.cells] .full,h):=
 yf (P:=Tryz.prog) (x:= .agg [.str x.name, .str x.fam, .int .i64 x.ver, .str x.text]) zE5 zHt zCc rfl rfl (by omega) (by omega) rfl rfl
set_option maxHeartbeats 4000000 in
theorem zae {c:Cat} {d:D} (hc:qg c d) (hs:c.Sm) {k:List UInt8} {x:Lic} (hf:zB9 c k=some x) (g:Heap):
  zA Tryz.prog 122 [d, .str k] g fun r h'=>h'=g∧∃ns,ns.Perm (zDb c x)∧r= .tuple [.sl 1 (yI ns) .no, .int .i64 0]:=by
 have hfi:=zUB hc hs k;have hfd:zDQ c k= .tuple [.agg [.str x.name, .str x.fam, .int .i64 x.ver, .str x.text], .bool true]:=by unfold zDQ;rw[hf]
 rw[hfd] at hfi;clear hfd;refine zA.pure (by kernel_rfl) fun hok'=>zA.strip ?_;refine zA.post fun Q hQ=> ?_;have hxm:=zNB hf;have s1:=hs.ls.1;obtain⟨a,b,e,p,rfl,ha,hb,he,hp⟩:=hc;have hlen:=wv ha;have hv4:∀a b c e:D,zS true 4 [a,b,c,e] 0=some (.agg [a,b,c,e]):=fun a b c e=>zB rfl (by omega);have hst0:=zDM x;obtain⟨G0,hG0,r0,E0,n0⟩:∃G,g.new g.next (.row [.str x.name, .str x.fam, .int .i64 x.ver, .str x.text])=G∧G.at' g.next=some (.row [.str x.name, .str x.fam, .int .i64 x.ver, .str x.text])∧Ext g G∧g.next<G.next:=⟨_,rfl,zJ _ _ _,(Ext.refl g).new (Nat.le_refl _) _,by rw[zF];omega⟩
 refine zA.of_fn (g:=zTl) mix Tryz.func122 ziY rfl rfl ?_;simp only[Tryz.f122,gJ]
 repeat' first|simp only[go_sem,zH1, *]|apply bc<;>intro hc|(refine zA.mono (hfi _) ?_;rintro r h ⟨hq,rfl⟩)
 clear hst0 hfi hb he hp;refine zH (fun i fr h=>∃s,fr 6= .ptr g.next 0∧fr 23=a∧fr 24= .int .i64 (c.ls.length:Int)∧fr 25= .int .i64 (i:Int)∧fr 8=s∧zNf G0 h 4 (zCl ((c.ls.take i).filter (zAQ x))) s) c.ls.length (by omega) ?_ ?_ ?_
 ·have hs0:=zNf.start (Ext.refl G0) 4;simp only[go_sem,zH1,true_and,and_true,Int.ofNat_zero];exact⟨_,rfl,hs0⟩
 ·rintro i fr h2 hlt ec ew ⟨s,f6,f23,f24,f25,f8,ho⟩;have a1:=zAC ha hlt;have htk:(c.ls.take (i+1)).filter (zAQ x)=(c.ls.take i).filter (zAQ x)++ [c.ls[i]].filter (zAQ x):=by rw[List.take_succ_eq_append_getElem hlt,List.filter_append]
  have hli:((c.ls.take i).filter (zAQ x)).length≤i:=Nat.le_trans (List.length_filter_le _ _) (by rw[List.length_take];omega);rw[htk];clear htk;generalize c.ls[i]=y at *
  generalize(c.ls.take i).filter (zAQ x)=pre at *
  have hst:=zDM y h2 h2.next;have r1:(h2.new h2.next (.row [.str y.name, .str y.fam, .int .i64 y.ver, .str y.text])).at' g.next=some (.row [.str x.name, .str x.fam, .int .i64 x.ver, .str x.text]):=by
   rw[zD (by have:=ho.1.1;omega),ho.1.2 _ n0];exact r0
  have r2:(h2.new h2.next (.row [.str y.name, .str y.fam, .int .i64 y.ver, .str y.text])).at' h2.next=some (.row [.str y.name, .str y.fam, .int .i64 y.ver, .str y.text]):=zJ _ _ _;have hoN:=ho.ext ((Ext.refl h2).new (Nat.le_refl _) (.row [.str y.name, .str y.fam, .int .i64 y.ver, .str y.text]));simp only[Lic.cells] at a1;have hone:=zad y;generalize h2.new h2.next (.row [.str y.name, .str y.fam, .int .i64 y.ver, .str y.text])=H at *
  obtain⟨d',G,hap,hoG,htr⟩:=hoN.app (P:=Tryz.prog) (ys:=zCl [y]) (tk:= .full) zE5 zVq zCc (by omega) (fun cs=>zBJ Tryz.underlying124) (zId _) (zId _) (by simp[zCl]) (by rw[zBq,zRA];unfold lim;simp[zCl];omega) (by rw[zBq];unfold lim;simp[zCl];omega);have hal:zCl [y]= [y.cells]:=rfl;rw[hal] at hap htr hoG;have hla:zCl (pre++ [y])=zCl pre++ [y.cells]:=by simp[zCl]
  rw[←hla] at hoG;clear ho hla hal hQ hlen ha E0 hG0 r0;cases q1:(y.fam==x.fam) with
  |false=>
   have hfl:pre++ [y].filter (zAQ x)=pre:=by simp[zAQ,q1]
   rw[hfl];clear hfl hap htr hoG
   repeat' first|simp only[go_sem,zH1, *]|apply bc<;>intro hc
   exact⟨_,rfl,hoN⟩
  |true=>
   cases q2:decide (y.ver≥x.ver) with
   |false=>
    have hfl:pre++ [y].filter (zAQ x)=pre:=by simp only[List.filter_cons,zAQ,q1,q2];simp
    rw[hfl];clear hfl hap htr hoG
    repeat' first|simp only[go_sem,zH1, *]|apply bc<;>intro hc
    exact⟨_,rfl,hoN⟩
   |true=>
    have hfl:pre++ [y].filter (zAQ x)=pre++ [y]:=by simp only[List.filter_cons,zAQ,q1,q2];simp
    rw[hfl];clear hfl hoN
    repeat' first|simp only[go_sem,zH1, *]|apply bc<;>intro hc
    exact⟨_,rfl,hoG⟩
 ·rintro fr h2 ec ⟨s,f6,f23,f24,f25,f8,ho⟩;rw[List.take_length] at ho;have hne:=zNC hxm;have hnl:(c.ls.filter (zAQ x)).length≤1048576:=Nat.le_trans (List.length_filter_le _ _) s1;have hS:zDb c x=(c.ls.filter (zAQ x)).map Lic.name:=rfl;rw[hS] at hQ;clear hS;generalize c.ls.filter (zAQ x)=L at *
  obtain⟨hx,hc⟩:=ho;rcases hc with⟨_,e⟩ | ⟨id,rfl,hrow,hid,hidn,_⟩
  ·exact absurd (by simpa [zCl] using e) hne
  rw[zBq] at f8;have hso:=zac hne hnl hrow;have hQ2:∀ (ys:List Lic) r h',ys.Perm L→Ext g h'→below g.next (yJ r)→Fin 1 (yI (ys.map Lic.name)) (yJ r)→Q (.tuple [r, .int .i64 0]) h':=fun ys r h' q0 q1 q2 q3=>by
   refine hQ _ _ ⟨q1,?_,?_⟩
   ·simp only[yJ,yE,below,zg];exact⟨q2,trivial,trivial⟩
   ·refine⟨ys.map Lic.name,q0.map _,?_⟩;rcases q3 with⟨_,e⟩ |e
    ·have:ys= []:=by simpa [yI] using e
     subst this;exact absurd (List.nil_perm.1 q0) hne
    ·simp only[yJ,yE,e]
  clear hQ hxm hlen ha;have hxid:g.next≤id:=Nat.le_trans E0.1 hid
  repeat' first|simp only[go_sem,zH1, *]|apply bc<;>intro hc
  refine hso.mono ?_;rintro r h3 ⟨rfl,ys,hp,rfl⟩;have hyl:=hp.length_eq;have r1:(h2.set id (.row (zCl ys).flatten)).at' id=some (.row (zCl ys).flatten):=zC _ _ _;have hE1:Ext g (h2.set id (.row (zCl ys).flatten)):=(E0.trans hx).set hxid _;have hidn2:id<(h2.set id (.row (zCl ys).flatten)).next:=hidn;generalize h2.set id (.row (zCl ys).flatten)=H at *
  have hvl:=fun(h:Heap)=>zCe (P:=Tryz.prog) (t:=22) (sz:=4) (id:=id) (off:=0) (len:=L.length) (h:=h) Tryz.underlying22;have hQ3:=fun r h'=>hQ2 ys r h' hp;clear hQ2 hso hrow hx E0 hG0 r0
  repeat' first|simp only[go_sem,zH1, *]|apply bc<;>intro hc
  refine zH (fun i fr h=>∃o,fr 48= .rs id 4 0 L.length∧fr 49= .int .i64 (L.length:Int)∧fr 50= .int .i64 (i:Int)∧fr 11=o∧Own H h 1 (yI ((ys.take i).map Lic.name)) o) L.length (by omega) ?_ ?_ ?_
  ·have hs:=Own.start (Ext.refl H) 1;simp only[go_sem,zH1,true_and,and_true,Int.ofNat_zero];exact⟨_,rfl,hs⟩
  ·rintro i fr h3 hlt ec ew ⟨o,f48,f49,f50,f11,ho⟩;have hlt':i<ys.length:=by omega
   have a1:=zx (P:=Tryz.prog) (sz:=4) (id:=id) zE5 zCc (k:= .i64) hlt;have hrow2:h3.at' id=some (.row (zCl ys).flatten):=by rw[ho.1.2 _ hidn2];exact r1
   have p1:=zBT (zId ys) (by omega) (zQN hlt');have htk:(ys.take (i+1)).map Lic.name=(ys.take i).map Lic.name++ [ys[i].name]:=by rw[List.take_succ_eq_append_getElem hlt',List.map_append];rfl
   have hli:((ys.take i).map Lic.name).length=i:=by rw[List.length_map,List.length_take];omega
   rw[htk];clear htk;generalize ys[i]=y at *
   generalize(ys.take i).map Lic.name=pre at *
   simp only[Lic.cells] at p1;have hst:=zDM y h3 h3.next;have hoN:=ho.ext ((Ext.refl h3).new (Nat.le_refl _) (.row [.str y.name, .str y.fam, .int .i64 y.ver, .str y.text]));have r2:(h3.new h3.next (.row [.str y.name, .str y.fam, .int .i64 y.ver, .str y.text])).at' h3.next=some (.row [.str y.name, .str y.fam, .int .i64 y.ver, .str y.text]):=zJ _ _ _;have hone:=zCj y.name;generalize h3.new h3.next (.row [.str y.name, .str y.fam, .int .i64 y.ver, .str y.text])=h4 at *
   clear hQ3 ho r1 hE1 hidn2
   repeat' first|simp only[go_sem,zH1, *]|apply bc<;>intro hc
   refine hoN.appH (ys:=yI [y.name]) yq zGS zAe (by omega) zHD (by simp[yI]) (by rw[zp,zAo,hli];unfold lim;simp[yI];omega) (by rw[zp,hli];unfold lim;simp[yI];omega) fun d' h' ho'=> ?_;have ho2:Own H h' 1 (yI (pre++ [y.name])) d':=by
    have:yI (pre++ [y.name])=yI pre++yI [y.name]:=by simp[yI]
    rw[this];exact ho'
   clear hoN ho'
   repeat' first|simp only[go_sem,zH1, *]|apply bc<;>intro hc
   exact⟨_,rfl,ho2⟩
  ·rintro fr h3 ec ⟨o,f48,f49,f50,f11,ho⟩;rw[←hyl,List.take_length] at ho;have hfin:=ho.2.1.fin qT;have hq:=hQ3 o h3 (hE1.trans ho.1) (z6 (Nat.zero_le _) _ hfin.1) hfin.2;clear hQ3 hfin ho
   repeat' first|simp only[go_sem,zH1, *]|apply bc<;>intro hc
def szd (l:List (List Trm)):Option (List (List Trm)):=if l.length>64 then none else some l
def zDc (a b:List (List Trm)):List (List Trm):=zEK (a.map mkA) (b.map mkA)
mutual
def zFU (c:Cat):Ex→Option (List (List Trm))
 | .mk k n x l _=>if(k==0)=true then some [[⟨n,x⟩]] else if(k==1)=true then(match zB9 c n with
   |none=>none
   |some y=>szd (yW ((zDb c y).map fun s=>[⟨s,[]⟩])))
  else match zEb c k l true [] with
   |none=>none
   |some out=>szd (yW out)
def zEb (c:Cat) (k:Int):List Ex→Bool→List (List Trm)→Option (List (List Trm))
 | [],_,out=>some out
 |e::es,first,out=>match zFU c e with
  |none=>none
  |some l=>if(k==3)=true then zEb c k es false (out++l) else if first=true then zEb c k es false l else match szd (yW (zDc out l)) with
   |none=>none
   |some o=>zEb c k es false o
end
def Ex.Fit (c:Cat) (e:Ex):Prop:=∀x∈e.pre,x.err=0∧zUJ c x=0
theorem zQY:∀ {l:List Ex} {e x:Ex},e∈l→x∈e.pre→x∈zHH l
 |a::l,e,x,h,hx=>by
  simp only[zHH];rcases List.mem_cons.1 h with rfl|h
  ·exact List.mem_append_left _ hx
  ·exact List.mem_append_right _ (zQY h hx)
theorem Ex.Fit.kid {c:Cat} {e k:Ex} (h:e.Fit c) (hk:k∈e.kids):k.Fit c:=fun x hx=>by
 obtain⟨kd,n,ex,l,d⟩:=e;exact h x (by simp only[Ex.pre];exact List.mem_cons_of_mem _ (zQY hk hx))
theorem Ex.Fit.self {c:Cat} {e:Ex} (h:e.Fit c):e.err=0∧zUJ c e=0:=by
 obtain⟨kd,n,ex,l,d⟩:=e;exact h _ (by simp only[Ex.pre];exact List.mem_cons_self)
theorem zFV {f:Nat→Int} :∀ {n:Nat},zDy f n=0→∀i,i<n→f i=0
 |n+1,h,i,hi=>by
  simp only[zDy] at h;split at h
  ·rename_i q;rcases Nat.lt_succ_iff_lt_or_eq.1 hi with g|rfl
   ·exact zFV (by simpa using q) i g
   ·exact h
  ·rename_i q;exact absurd (by simpa using h) q
theorem zUb {c:Cat} {e:Ex} (h:zAk c e=0):zAx c=0∧e.size≤64∧e.Fit c:=by
 unfold zAk at h;split at h
 ·exact absurd h (by decide)
 rename_i q1;split at h
 ·rename_i q;rw[h] at q;exact absurd q (by decide)
 rename_i q2;have f0:zDT e=0:=by simpa using q2
 unfold zDT at f0;split at f0
 ·exact absurd f0 (by decide)
 rename_i q3;split at f0
 ·exact absurd f0 (by decide)
 refine⟨by simpa using q1,by simp at q3;omega,fun x hx=> ?_⟩;obtain⟨i,hi,rfl⟩:=List.mem_iff_getElem.1 hx;rw[e.pre_len] at hi;have h1:=zFV f0 i hi;have h2:=zFV h i hi;have hg:e.pre.getD i e=e.pre[i]'(by rw[e.pre_len];exact hi):=by rw[List.getD_eq_getElem?_getD,List.getElem?_eq_getElem];rfl
 unfold Ex.errAt at h1;unfold Ex.unk at h2;rw[hg] at h1 h2;exact⟨h1,h2⟩
theorem zQZ {c:Cat} {k:Int} {n x:List UInt8} {l:List Ex} {d:D} (h:(Ex.mk k n x l d).Fit c):((k=0∨k=1)∧l= []∧(k=1→x= [])∧∃y,zB9 c n=some y)∨((k=2∨k=3)∧2≤l.length):=by
 obtain⟨h1,h2⟩:=h.self;replace h1:zIQ k n x l.length=0:=h1;unfold zIQ at h1;by_cases q:((k==0)||(k==1))=true
 ·left;rw[if_pos q] at h1;by_cases q1:(decide ((l.length:Int)>0)||((k==1)&& !(x== [])))=true
  ·rw[if_pos q1] at h1;exact absurd h1 (by decide)
  rw[if_neg q1] at h1;by_cases q2:(!zA5 n||(!(x== [])&& !zA5 x))=true
  ·rw[if_pos q2] at h1;exact absurd h1 (by decide)
  simp only[Bool.or_eq_true,beq_iff_eq,decide_eq_true_eq,Bool.and_eq_true,Bool.not_eq_true',not_or,not_and,Bool.not_eq_false,beq_eq_false_iff_ne] at q q1 q2;refine⟨q,List.length_eq_zero_iff.1 (by omega),fun e=>by simpa using q1.2 e,?_⟩;replace h2:(if(!(n== [])&& !zI8 c n x)=true then(7:Int) else 0)=0:=h2
  by_cases q3:(!(n== [])&& !zI8 c n x)=true
  ·rw[if_pos q3] at h2;exact absurd h2 (by decide)
  have hn:¬(n== [])=true:=fun e=>by
   have:n= []:=by simpa using e
   subst this;exact absurd q2.1 (by decide)
  have hk:zI8 c n x=true:=by
   cases hh:zI8 c n x with
   |true=>rfl
   |false=>exact absurd (by simp[hh,hn]) q3
  unfold zI8 at hk;simp only[Bool.and_eq_true] at hk;exact Option.isSome_iff_exists.1 hk.1
 ·rw[if_neg q] at h1;by_cases q1:((k==2)||(k==3))=true
  ·rw[if_pos q1] at h1;right;by_cases q2:(decide ((l.length:Int)<2)|| !(n== [])|| !(x== []))=true
   ·rw[if_pos q2] at h1;exact absurd h1 (by decide)
   simp only[Bool.or_eq_true,beq_iff_eq,decide_eq_true_eq,Bool.not_eq_true',not_or] at q1 q2;exact⟨q1,by omega⟩
  ·rw[if_neg q1] at h1;exact absurd h1 (by decide)
theorem zQa {l:List (List Trm)} (h:l≠[]):∀n,0<n→n≤l.length→zCr l n≠[]
 |1,_,hn=>by
  rw[zCr,List.getElem?_eq_getElem (by omega)];simp[zCr,zDZ]
 |n+2,_,hn=>by
  have ih:=zQa h (n+1) (by omega) (by omega);rw[zCr,List.getElem?_eq_getElem (by omega)];simp only[zDZ];split
  ·exact ih
  ·simp
theorem zIe {l:List (List Trm)} (h:l≠[]):yW l≠[]:=by
 have hl:(wc l).length=l.length:=by rw[wc,(qZ _).length_eq,List.length_map]
 have hp:0<l.length:=List.length_pos_iff.2 h;exact zQa (fun e=>by rw[e] at hl;simp at hl;omega) _ (by omega) (Nat.le_refl _)
theorem zDd (l:List (List Trm)):(yW l).length≤l.length:=by
 have hl:(wc l).length=l.length:=by rw[wc,(qZ _).length_eq,List.length_map]
 have:=zIb (l:=wc l) (wc l).length;rw[hl] at this;unfold yW;rw[hl];exact this
theorem zLU {l m:List (List Trm)} (h:l.Perm m):yW l=yW m:=by
 unfold yW wc;rw[zUU zIa zM6 (h.map zA6)]
theorem zHJ {l m:List (List Trm)} (h:szd l=some m):m=l∧l.length≤64:=by
 unfold szd at h;split at h
 ·cases h
 ·cases h;exact⟨rfl,by omega⟩
structure AltsOk (n:Nat) (l:List (List Trm)):Prop where
 ne:l≠[]
 ts:∀t∈l,t≠[]∧t.length≤n
theorem AltsOk.mono {n m:Nat} {l:List (List Trm)} (h:AltsOk n l) (hn:n≤m):AltsOk m l:=⟨h.ne,fun t ht=>⟨(h.ts t ht).1,Nat.le_trans (h.ts t ht).2 hn⟩⟩
theorem AltsOk.min {n:Nat} {l:List (List Trm)} (h:AltsOk n l):AltsOk n (yW l):=⟨zIe h.ne,fun t ht=>by
 obtain⟨y,hy,rfl⟩:=zM8 ht;obtain⟨h1,h2⟩:=h.ts y hy;exact⟨zQW h1,Nat.le_trans (zM7 _) h2⟩⟩
theorem AltsOk.app {n:Nat} {l m:List (List Trm)} (h:∀t∈l,t≠[]∧t.length≤n) (k:AltsOk n m):AltsOk n (l++m):=⟨fun e=>k.ne (List.append_eq_nil_iff.1 e).2,fun t ht=>by
 rcases List.mem_append.1 ht with q|q
 ·exact h t q
 ·exact k.ts t q⟩
theorem zRc {a b:List (List Trm)} {t:List Trm} (h:t∈zDc a b):∃x∈a,∃y∈b,t=x++y:=by
 unfold zDc zEK at h;obtain⟨k,hk,rfl⟩:=List.mem_map.1 h;rw[List.mem_range,List.length_map,List.length_map] at hk;have hb:0<b.length:=by
  rcases Nat.eq_zero_or_pos b.length with e|e
  ·rw[e,Nat.mul_zero] at hk;omega
  ·exact e
 have h1:k/b.length<a.length:=by rw[Nat.div_lt_iff_lt_mul hb];exact hk
 have h2:k%b.length<b.length:=Nat.mod_lt _ hb;refine⟨a[k/b.length],List.getElem_mem _,b[k%b.length],List.getElem_mem _,?_⟩;simp[zGg,h1,h2,mkA]
theorem zKC (a b:List (List Trm)):(zDc a b).length=a.length*b.length:=by rw[zDc,zKB,List.length_map,List.length_map]
theorem AltsOk.pairs {n m:Nat} {a b:List (List Trm)} (h:AltsOk n a) (k:AltsOk m b):AltsOk (n+m) (zDc a b):=by
 refine⟨fun e=> ?_,fun t ht=> ?_⟩
 ·have:=zKC a b;rw[e] at this;have h1:0<a.length:=List.length_pos_iff.2 h.ne;have h2:0<b.length:=List.length_pos_iff.2 k.ne;have:=Nat.mul_pos h1 h2;simp at *;omega
 ·obtain⟨x,hx,y,hy,rfl⟩:=zRc ht;have h1:=h.ts x hx;have h2:=k.ts y hy;exact⟨fun e=>h1.1 (List.append_eq_nil_iff.1 e).1,by rw[List.length_append];omega⟩
theorem zIf {c:Cat} {n:List UInt8} {y:Lic} (h:zB9 c n=some y):zDb c y≠[]:=fun e=>zNC (zNB h) (List.map_eq_nil_iff.1 e)
theorem zOo {c:Cat} :∀n:Nat,(∀e:Ex,e.size≤n→e.Fit c→∀l,zFU c e=some l→l.length≤64∧AltsOk e.size l)∧
  ∀ (k:Int) (es:List Ex),zy es≤n→(∀e∈es,e.Fit c)→∀ (m:Nat) (first:Bool) (out R:List (List Trm)),(∀t∈out,t≠[]∧t.length≤m)→(first=false→out≠[])→(es= []→out≠[])→zEb c k es first out=some R→AltsOk (m+zy es) R∧R.length≤out.length+64*es.length:=by
 intro n
 induction n with
 |zero=>
  refine⟨fun e h=> ?_,fun k es h hf m first out R h1 h2 h3 hR=> ?_⟩
  ·cases e;simp only[Ex.size] at h;omega
  ·cases es with
   |nil=>simp only[zEb] at hR;cases hR;exact⟨⟨h3 rfl,by simpa [zy] using h1⟩,by simp⟩
   |cons e l=>cases e;simp only[zy,Ex.size] at h;omega
 |succ n ih=>
  have key:∀e:Ex,e.size≤n+1→e.Fit c→∀l,zFU c e=some l→l.length≤64∧AltsOk e.size l:=fun e h hf l hl=>by
   obtain⟨k,nm,x,es,d⟩:=e;simp only[Ex.size] at h⊢;have hk:=zQZ hf;rw[zFU] at hl;split at hl
   ·cases hl;exact⟨by simp,by simp,fun t ht=>by cases List.mem_singleton.1 ht;exact⟨by simp,by simp⟩⟩
   split at hl
   ·split at hl
    ·cases hl
    ·rename_i y hy;obtain⟨rfl,h64⟩:=zHJ hl;refine⟨h64,AltsOk.min ⟨by simpa using zIf hy,fun t ht=> ?_⟩⟩;obtain⟨s,_,rfl⟩:=List.mem_map.1 ht;exact⟨by simp,by simp⟩
   ·rename_i q0 q1;split at hl
    ·cases hl
    ·rename_i out hout;obtain⟨rfl,h64⟩:=zHJ hl;have hk2:2≤es.length:=by
      rcases hk with⟨q,_⟩ | ⟨_,q⟩
      ·rcases q with rfl|rfl
       ·exact absurd rfl q0
       ·exact absurd rfl q1
      ·exact q
     have:=ih.2 k es (by omega) (fun e he=>hf.kid he) 0 true [] out (fun t ht=>by cases ht) (by simp) (fun e=>by subst e;simp at hk2) hout;exact⟨h64,this.1.min.mono (by omega)⟩
  refine⟨key,fun k es h hf m first out R h1 h2 h3 hR=> ?_⟩
  cases es with
  |nil=>simp only[zEb] at hR;cases hR;exact⟨⟨h3 rfl,by simpa [zy] using h1⟩,by simp⟩
  |cons e es=>
   have hesz:0<e.size:=by cases e;simp only[Ex.size];omega
   simp only[zy] at h⊢;rw[zEb] at hR;split at hR
   ·cases hR
   ·rename_i l hl;obtain⟨hl64,hlok⟩:=key e (by omega) (hf e (by simp)) l hl;have hfs:∀e∈es,e.Fit c:=fun x hx=>hf x (List.mem_cons_of_mem _ hx);split at hR
    ·have hq:=AltsOk.app (n:=m+e.size) (fun t ht=>⟨(h1 t ht).1,Nat.le_trans (h1 t ht).2 (by omega)⟩) (hlok.mono (show e.size≤m+e.size by omega));have:=ih.2 k es (by omega) hfs (m+e.size) false (out++l) R hq.ts (fun _=>hq.ne) (fun _=>hq.ne) hR;refine⟨this.1.mono (by omega),?_⟩;have q:=this.2;rw[List.length_append] at q;simp only[List.length_cons];omega
    ·split at hR
     ·have hq:=hlok.mono (show e.size≤m+e.size by omega);have:=ih.2 k es (by omega) hfs (m+e.size) false l R hq.ts (fun _=>hq.ne) (fun _=>hq.ne) hR;refine⟨this.1.mono (by omega),?_⟩;have q:=this.2;simp only[List.length_cons];omega
     ·rename_i hfirst;have hone:out≠[]:=h2 (by simpa using hfirst);split at hR
      ·cases hR
      ·rename_i o ho;obtain⟨rfl,ho64⟩:=zHJ ho;have hq:=(AltsOk.pairs ⟨hone,h1⟩ hlok).min;have:=ih.2 k es (by omega) hfs (m+e.size) false _ R hq.ts (fun _=>hq.ne) (fun _=>hq.ne) hR;refine⟨this.1.mono (by omega),?_⟩;have q:=this.2;simp only[List.length_cons];omega
def zJB:Option (List (List Trm))→D
 |some l=> .tuple [.sl 1 (yK (l.map mkA)) .no, .int .i64 0]
 |none=> .tuple [.nilsl, .int .i64 10]
theorem zF8 (l:List (List Trm)):zNA l=zJB (szd l):=by
 unfold zNA szd;split<;>rfl
theorem zF9 (l:List (List Trm)):yJ (.sl 1 (yK (l.map mkA)) .no)= .sl 1 (yK (l.map mkA)) .no∧below 0 (.sl 1 (yK (l.map mkA)) .no):=yh (zLT l) .no
theorem zCN (o:Option (List (List Trm))) (n:Nat):yJ (zJB o)=zJB o∧below n (zJB o):=by
 cases o with
 |none=>exact⟨rfl,by simp[zJB,below,zg]⟩
 |some l=>
  obtain⟨h1,h2⟩:=zF9 l;refine⟨?_,?_⟩
  ·simp only[zJB,yJ,yE] at h1⊢;rw[h1]
  ·simp only[zJB,below,zg];exact⟨z6 (Nat.zero_le _) _ h2,trivial,trivial⟩
def zQb (s x:List UInt8):Alt:=⟨[⟨s,x⟩], .sl 2 [[.str s, .str x]] .full⟩
theorem zaf (s x:List UInt8):(zQb s x).Ok:=⟨za.mk .full,by simp[zQb],by simp[zQb]⟩
theorem zfH (s x:List UInt8):yN Tryz.prog 79 [(0, .str s),(1, .str x)]=some (.agg [.str s, .str x]):=by simp[yN,zFw,zB0,qj,D.notTuple,D.cells,yj]
theorem zfI (s:List UInt8):yN Tryz.prog 79 [(0, .str s)]=some (.agg [.str s, .str []]):=by simp[yN,zFw,zB0,qj,D.notTuple,D.cells,yj]
theorem zUc (s x:List UInt8) (nid:Nat) (h:Heap):zM Tryz.prog false nid 62 1 [(0, .agg [.str s, .str x])] h=some (.sl 2 [[.str s, .str x]] .full,h):=
 yf (P:=Tryz.prog) (x:= .agg [.str s, .str x]) qD zB0 wP rfl rfl (by omega) (by omega) rfl rfl
def zDz (c:Cat) (e:Ex):D:=zJB (zFU c e)
set_option maxHeartbeats 4000000 in
theorem zRd {c:Cat} {d:D} (hc:qg c d) {n x:List UInt8} {y:D} (g:Heap):
  zA Tryz.prog 79 [d, .agg [.int .i64 0, .str n, .str x,y]] g fun r h'=>h'=g∧r=zJB (some [[⟨n,x⟩]]):=by
 refine zA.pure (by kernel_rfl) fun hok'=>zA.strip ?_;refine zA.post fun Q hQ=> ?_;obtain⟨ca,cb,ce,cp,rfl,_,_,_,_⟩:=hc;have hv4:∀a b c e:D,zS true 4 [a,b,c,e] 0=some (.agg [a,b,c,e]):=fun a b c e=>zB rfl (by omega);have h1:=zfH n x;have h2:=zUc n x;have h3:=fun nid h=>zEa (.sl 2 [[.str n, .str x]] .full) nid h rfl rfl rfl;have hq:=hQ (.tuple [.sl 1 [[.sl 2 [[.str n, .str x]] .full]] .full, .int .i64 0]) g ⟨Ext.refl g,by
  simp[yJ,yE,zCy,below,zg,zBz],by simp[yJ,yE,zCy,zJB,yK,mkA,qU,Trm.cells]⟩
 clear hQ;refine zA.of_fn (g:=zRE) mix Tryz.func79 zgI rfl rfl ?_;simp only[Tryz.f79,gJ]
 repeat' first|simp only[go_sem,zH0, *]|apply bc<;>intro hc
set_option maxHeartbeats 4000000 in
theorem zRe {c:Cat} {d:D} (hc:qg c d) (hs:c.Sm) {n x:List UInt8} {z:Lic} (hf:zB9 c n=some z) {y:D} (g:Heap):
  zA Tryz.prog 79 [d, .agg [.int .i64 1, .str n, .str x,y]] g fun r h'=>h'=g∧r=zJB (szd (yW ((zDb c z).map fun s=>[⟨s,[]⟩]))):=by
 have hla:=zae hc hs hf;have hsl:=hs.ls.1;have hne:=zIf hf;have hll:(zDb c z).length≤c.ls.length:=by rw[zDb,List.length_map];exact List.length_filter_le _ _
 refine zA.pure (by kernel_rfl) fun hok'=>zA.strip ?_;refine zA.post fun Q hQ=> ?_;obtain⟨ca,cb,ce,cp,rfl,_,_,_,_⟩:=hc;have hv4:∀a b c e:D,zS true 4 [a,b,c,e] 0=some (.agg [a,b,c,e]):=fun a b c e=>zB rfl (by omega);have hE0:=Own.start (Ext.refl g) 1;have hle:∀ (ns:List (List UInt8)) (h:Heap),zC1 Tryz.prog 40 (.sl 1 (yI ns) .no) h=some (.int .i64 ns.length):=fun ns h=>yV (za.mk .no) h;have hat:∀ (ns:List (List UInt8)) (i:Nat) (hi:i<ns.length),zX Tryz.prog 40 (.sl 1 (yI ns) .no) (.int .i64 (i:Int))=some (.iptr [.str ns[i]] 0):=fun ns i hi=>wb (za.mk .no) hi
 refine zA.of_fn (g:=zRE) mix Tryz.func79 zgI rfl rfl ?_;simp only[Tryz.f79,gJ]
 repeat' first|simp only[go_sem,zH0, *]|apply bc<;>intro hc
 refine(hla _).mono ?_;rintro r h ⟨hq,ns,hp,rfl⟩;subst hq;have hnl:ns.length≤1048576:=by rw[hp.length_eq];omega
 have hns:ns≠[]:=fun e=>by subst e;exact hne (List.nil_perm.1 hp)
 have hl1:=hle ns;clear hle hla
 repeat' first|simp only[go_sem,zH0, *]|apply bc<;>intro hc
 refine zH (fun i fr h2=>∃o,fr 35= .sl 1 (yI ns) .no∧fr 36= .int .i64 (ns.length:Int)∧fr 37= .int .i64 (i:Int)∧fr 6=o∧Own h h2 1 (yK ((ns.take i).map fun s=>zQb s [])) o) ns.length (by omega) ?_ ?_ ?_
 ·simp only[go_sem,zH0,true_and,and_true,Int.ofNat_zero];exact⟨_,rfl,hE0⟩
 ·rintro i fr h2 hlt ec ew ⟨o,f35,f36,f37,f6,ho⟩;have a1:=hat ns i hlt;have htk:(ns.take (i+1)).map (fun s=>zQb s [])=(ns.take i).map (fun s=>zQb s [])++ [zQb ns[i] []]:=by rw[List.take_succ_eq_append_getElem hlt,List.map_append];rfl
  have hli:((ns.take i).map fun s=>zQb s []).length=i:=by rw[List.length_map,List.length_take];omega
  rw[htk];clear htk hQ hat hp;generalize ns[i]=s at *
  generalize(ns.take i).map (fun s=>zQb s [])=pre at *
  have b1:=zfI s;have b2:=zUc s [];have b3:=fun nid h=>zEa (.sl 2 [[.str s, .str []]] .full) nid h rfl rfl rfl
  repeat' first|simp only[go_sem,zH0, *]|apply bc<;>intro hc
  refine ho.appH (ys:=yK [zQb s []]) wW zER zBk (by omega) (zDr _) (by simp[yK]) (by rw[yP,zBl,hli];unfold lim;simp[yK];omega) (by rw[yP,hli];unfold lim;simp[yK];omega) fun d' h' ho'=> ?_;have ho2:Own h h' 1 (yK (pre++ [zQb s []])) d':=by
   have:yK (pre++ [zQb s []])=yK pre++yK [zQb s []]:=by simp[yK]
   rw[this];exact ho'
  clear ho ho'
  repeat' first|simp only[go_sem,zH0, *]|apply bc<;>intro hc
  exact⟨_,rfl,ho2⟩
 ·rintro fr h2 ec ⟨o,f35,f36,f37,f6,ho⟩;rw[List.take_length] at ho;have hmi:=zIc ho.isSl (by simpa using hns) (by rw[List.length_map];omega) (fun a ha=>by
   obtain⟨s,_,rfl⟩:=List.mem_map.1 ha;exact zaf s [])
  have hmm:yW ((ns.map fun s=>zQb s []).map Alt.ts)=yW ((zDb c z).map fun s=>[⟨s,[]⟩]):=by
   rw[List.map_map];exact zLU (hp.map _)
  rw[hmm] at hmi;have hm0:yW ((zDb c z).map fun s=>[⟨s,[]⟩])≠[]:=zIe (by simpa using hne);have hml:(yW ((zDb c z).map fun s=>[⟨s,[]⟩])).length≤1048576:=by
   refine Nat.le_trans (zDd _) ?_;rw[List.length_map];omega
  generalize yW ((zDb c z).map fun s=>[⟨s,[]⟩])=M at *
  have hsz:=zOn hml;rw[zF8] at hsz;have hQ2:∀h',Ext h h'→Q (zJB (szd M)) h':=fun h' he=>hQ _ _ ⟨he,by rw[(zCN _ 0).1];exact(zCN _ _).2,by rw[(zCN _ 0).1]⟩;have hex:=ho.1;clear hQ hmm hp hat hne hns ho;have hfin:∀r,Fin 1 (yK (M.map mkA)) r→r= .sl 1 (yK (M.map mkA)) .no:=fun r hr=>by
   rcases hr with⟨_,e⟩ |e
   ·exact absurd (by simpa [yK] using e) hm0
   ·exact e
  repeat' first|simp only[go_sem,zH0, *]|apply bc<;>intro hc
  refine(hmi _).mono ?_;rintro r h3 ⟨hq,hr⟩;subst hq;have hr2:=hfin r hr;subst hr2;have hq:=hQ2 _ hex;clear hQ2 hr hmi hex hm0 hml;cases hz:szd M with
  |none=>
   rw[hz] at hsz hq;simp only[zJB] at hsz hq
   repeat' first|simp only[go_sem,zH0, *]|apply bc<;>intro hc|(refine zA.mono (hsz _) ?_;rintro r h ⟨rfl,rfl⟩)
  |some M'=>
   rw[hz] at hsz hq;simp only[zJB] at hsz hq
   repeat' first|simp only[go_sem,zH0, *]|apply bc<;>intro hc|(refine zA.mono (hsz _) ?_;rintro r h ⟨rfl,rfl⟩)
theorem zUd {l:List (List Trm)} (h0:l≠[]) {r:D} (hr:Fin 1 (yK (l.map mkA)) r):r= .sl 1 (yK (l.map mkA)) .no:=by
 rcases hr with⟨_,e⟩ |e
 ·exact absurd (by simpa [yK] using e) h0
 ·exact e
theorem zLV {m:Nat} {l:List (List Trm)} (h:∀t∈l,t≠[]∧t.length≤m) (hm:m≤4096):∀q∈l.map mkA,q.Ok:=fun q hq=>by
 obtain⟨t,ht,rfl⟩:=List.mem_map.1 hq;exact zQX (h t ht).1 (Nat.le_trans (h t ht).2 hm)
theorem zYY (l:List (List Trm)):(l.map mkA).map Alt.ts=l:=by rw[List.map_map];exact List.map_id _
structure MInv (c:Cat) (k:Int) (l:List Ex) (R:Option (List (List Trm))) (g:Heap) (i:Nat) (out:List (List Trm)) (o:D) (h:Heap):Prop where
 hE:Ext g h
 hK:zEb c k (l.drop i) (i==0) out=R
 hor:k=3→Own g h 1 (yK (out.map mkA)) o
 hand:k≠3→(i=0∧out= [])∨(out≠[]∧o= .sl 1 (yK (out.map mkA)) .no∧out.length≤64)
 hts:∀t∈out,t≠[]∧t.length≤zy (l.take i)
 hol:out.length≤64*i+64
set_option maxHeartbeats 8000000 in
theorem zUe {c:Cat} {d:D} (hc:qg c d) (hs:c.Sm):∀ (n:Nat) (e:Ex),e.size≤n→e.size≤64→e.Fit c→e.Ok→∀g:Heap,
  zA Tryz.prog 79 [d, .agg e.cells] g fun r h'=>h'=g∧r=zDz c e:=by
 intro n
 induction n with
 |zero=>intro e h;cases e;simp only[Ex.size] at h;omega
 |succ n ih=>
 intro e hn h64 hfit hok g;obtain⟨k,nm,x,l,dd⟩:=e;have hcells:(Ex.mk k nm x l dd).cells= [.int .i64 k, .str nm, .str x,dd]:=rfl;rw[hcells];simp only[Ex.size] at hn h64;have hkids:∀ (i:Nat) (hi:i<l.length),l[i].Fit c∧l[i].Ok∧∀g:Heap,zA Tryz.prog 79 [d, .agg l[i].cells] g fun r h'=>h'=g∧r=zDz c l[i]:=fun i hi=>by
  have hm:=List.getElem_mem hi;have h1:l[i].Fit c:=hfit.kid (e:= .mk k nm x l dd) hm;have h2:l[i].Ok:=zDR (by simp only[Ex.Ok] at hok;exact hok.2.2.2.2) _ hm;have h3:=zAN hm;exact⟨h1,h2,ih _ (by omega) (by omega) h1 h2⟩
 rcases zQZ hfit with⟨hk,hl,hx,y,hy⟩ | ⟨hk,hl2⟩
 ·rcases hk with rfl|rfl
  ·refine(zRd hc (n:=nm) (x:=x) (y:=dd) g).mono fun r h' ⟨q1,q2⟩=>⟨q1,?_⟩;rw[q2];simp[zDz,zFU]
  ·refine(zRe hc hs hy (x:=x) (y:=dd) g).mono fun r h' ⟨q1,q2⟩=>⟨q1,?_⟩;rw[q2];simp[zDz,zFU,hy]
 have e0:(k==0)=false:=by rcases hk with rfl|rfl<;>rfl
 have e1:(k==1)=false:=by rcases hk with rfl|rfl<;>rfl
 have hR:zFU c (.mk k nm x l dd)=match zEb c k l true [] with
  |none=>none
  |some out=>szd (yW out):=by rw[zFU,if_neg (by rw[e0];exact Bool.false_ne_true),if_neg (by rw[e1];exact Bool.false_ne_true)];try (cases zEb c k l true []<;>rfl)
 have hfin:∀R,zEb c k l true []=some R→AltsOk 64 R∧R.length≤64*l.length:=fun R hR=>by
  have:=(zOo (c:=c) (zy l)).2 k l (Nat.le_refl _) (fun e he=>hfit.kid (e:= .mk k nm x l dd) he) 0 true [] R (fun t ht=>by cases ht) (by simp) (fun e=>by subst e;simp at hl2) hR;exact⟨this.1.mono (by omega),by simpa using this.2⟩
 have hll:l.length≤64:=by
  have:∀l:List Ex,l.length≤zy l:=fun l=>by
   induction l with
   |nil=>simp
   |cons e l ih=>simp only[zy,List.length_cons];cases e;simp only[Ex.size];omega
  have:=this l;omega
 have hdd:za 4 (exs l) dd:=by simp only[Ex.Ok] at hok;exact hok.1
 have hmo:=fun(e:Ex) (he:e.Fit c) (l:List (List Trm)) (hl:zFU c e=some l)=>(zOo (c:=c) e.size).1 e (Nat.le_refl _) he l hl;have hsL:∀i (hi:i<l.length),zy (l.take (i+1))=zy (l.take i)+l[i].size∧zy (l.take (i+1))≤zy l:=fun i hi=>by
  have app:∀a b:List Ex,zy (a++b)=zy a+zy b:=fun a b=>by
   induction a with
   |nil=>simp[zy]
   |cons e a ih=>simp only[List.cons_append,zy,ih];omega
  refine⟨by rw[List.take_succ_eq_append_getElem hi,app];simp[zy],?_⟩;have:=app (l.take (i+1)) (l.drop (i+1));rw[List.take_append_drop] at this;omega
 obtain⟨R,eR⟩:∃R,zEb c k l true []=R:=⟨_,rfl⟩;refine zA.pure (by kernel_rfl) fun hok'=>zA.strip ?_;refine zA.post fun Q hQ=> ?_;have hQ2:∀h',Ext g h'→Q (zDz c (.mk k nm x l dd)) h':=fun h' he=>hQ _ _ ⟨he,by unfold zDz;rw[(zCN _ 0).1];exact(zCN _ _).2,by unfold zDz;rw[(zCN _ 0).1]⟩;unfold zDz at hQ2;rw[hR,eR] at hQ2;rw[eR] at hfin;clear hQ hR hfit hok ih hcells;obtain⟨ca,cb,ce,cp,rfl,_,_,_,_⟩:=hc;have hv4:∀a b c e:D,zS true 4 [a,b,c,e] 0=some (.agg [a,b,c,e]):=fun a b c e=>zB rfl (by omega);have hlen:=zDS hdd;have hE0:=Own.start (Ext.refl g) 1
 refine zA.of_fn (g:=zRE) mix Tryz.func79 zgI rfl rfl ?_;simp only[Tryz.f79,gJ]
 repeat' first|simp only[go_sem,zH0, *]|apply bc<;>intro hc
 refine zH (fun i fr h=>∃out o,fr 2= .iptr [ca,cb,ce,cp] 0∧fr 3= .iptr [.int .i64 k, .str nm, .str x,dd] 0∧fr 54=dd∧fr 55= .int .i64 (l.length:Int)∧fr 56= .int .i64 (i:Int)∧fr 6=o∧MInv c k l R g i out o h) l.length (by omega) ?_ ?_ ?_
 ·have h0:MInv c k l R g 0 [] .nilsl g:=⟨Ext.refl g,eR,fun _=>hE0,fun _=> .inl ⟨rfl,rfl⟩,fun t ht=>(by cases ht),by simp⟩;simp only[go_sem,zH0,true_and,and_true,Int.ofNat_zero];exact⟨_,_,rfl,h0⟩
 ·rintro i fr h hlt ec ew ⟨out,o,f2,f3,f54,f55,f56,f6,⟨hE,hK,hor,hand,hts,hol⟩⟩;have a1:=zJ1 hdd hlt;obtain⟨kf,ko,kc⟩:=hkids i hlt;obtain⟨s1,s2⟩:=hsL i hlt;have hst:=zUH l[i] (Ex.flat ko) h h.next;have hE2:=hE.new hE.1 (.row l[i].cells);have hrow:(h.new h.next (.row l[i].cells)).at' h.next=some (.row l[i].cells):=zJ _ _ _;rw[List.drop_eq_getElem_cons hlt,zEb] at hK;have hmo1:=hmo _ kf;have hol2:Ext h (h.new h.next (.row l[i].cells)):=(Ext.refl h).new (Nat.le_refl _) _;have hor2:k=3→Own g (h.new h.next (.row l[i].cells)) 1 (yK (out.map mkA)) o:=fun e=>(hor e).ext hol2;generalize hy:l[i]=y at *
  simp only[Ex.cells] at a1 kc hst hE2 hrow hor2 hol2;generalize hH:h.new h.next (.row [.int .i64 y.kind, .str y.name, .str y.exc,y.d])=H at *
  clear hkids hsL hmo hor;have hi0:((i:Int)==0)=(i==0):=by cases i<;>rfl
  have hi1:(i+1==0)=false:=rfl;cases hm:zFU c y with
  |none=>
   rw[hm] at hK;simp only at hK;have hq:=hQ2 H hE2;rw[←hK] at hq;simp only[zJB] at hq;have hmd:zDz c y= .tuple [.nilsl, .int .i64 10]:=by unfold zDz;rw[hm];rfl
   rw[hmd] at kc;clear hmd hQ2 hor2 hand hts hK
   repeat' first|simp only[go_sem,zH0, *]|apply bc<;>intro hc|(refine zA.mono (kc _) ?_;rintro r h ⟨hq,rfl⟩)
  |some lk=>
   rw[hm] at hK;simp only at hK;obtain⟨h64,hlo⟩:=hmo1 lk hm;have hmd:zDz c y= .tuple [.sl 1 (yK (lk.map mkA)) .no, .int .i64 0]:=by unfold zDz;rw[hm];rfl
   rw[hmd] at kc;clear hmd hmo1;cases q3:(k==3) with
   |true=>
    rw[if_pos q3] at hK;have hk3:k=3:=by simpa using q3
    have hoH:=hor2 hk3;clear hand hor2 hQ2
    repeat' first|simp only[go_sem,zH0, *]|apply bc<;>intro hc|(refine zA.mono (kc _) ?_;rintro r h ⟨hq,rfl⟩)
    subst hq;refine hoH.appH (ys:=yK (lk.map mkA)) wW zER zBk (by omega) (zDr _) (by simpa [yK] using hlo.ne) (by rw[yP,yP,List.length_map,List.length_map,zBl];unfold lim;omega) (by rw[yP,yP,List.length_map,List.length_map];unfold lim;omega) fun d' h' ho'=> ?_;have ho2:Own g h' 1 (yK ((out++lk).map mkA)) d':=by
     have:yK ((out++lk).map mkA)=yK (out.map mkA)++yK (lk.map mkA):=by simp[yK]
     rw[this];exact ho'
    have hres:MInv c k l R g (i+1) (out++lk) d' h':=⟨ho2.1,hK,fun _=>ho2,fun q=>absurd hk3 q,fun t ht=>by
     rcases List.mem_append.1 ht with q|q
     ·exact⟨(hts t q).1,Nat.le_trans (hts t q).2 (by omega)⟩
     ·exact⟨(hlo.ts t q).1,Nat.le_trans (hlo.ts t q).2 (by omega)⟩,by rw[List.length_append];omega⟩
    clear ho' hoH hK hts hol hlo ho2 hk3
    repeat' first|simp only[go_sem,zH0, *]|apply bc<;>intro hc
    exact⟨_,_,rfl,hres⟩
   |false=>
    rw[if_neg (by rw[q3];exact Bool.false_ne_true)] at hK;have hk3:k≠3:=by simpa using q3
    have hand2:=hand hk3;clear hand hor2;cases q0:(i==0) with
    |true=>
     rw[if_pos q0] at hK;have hres:MInv c k l R g (i+1) lk (.sl 1 (yK (lk.map mkA)) .no) H:=⟨hE2,hK,fun q=>absurd q hk3,fun _=> .inr ⟨hlo.ne,rfl,h64⟩,fun t ht=>⟨(hlo.ts t ht).1,Nat.le_trans (hlo.ts t ht).2 (by omega)⟩,by omega⟩;clear hK hts hol hlo hand2 hQ2;rw[q0] at hi0
     repeat' first|simp only[go_sem,zH0, *]|apply bc<;>intro hc|(refine zA.mono (kc _) ?_;rintro r h ⟨hq,rfl⟩)
     subst hq;exact⟨_,_,rfl,hres⟩
    |false=>
     rw[if_neg (by rw[q0];exact Bool.false_ne_true)] at hK;rw[q0] at hi0;obtain⟨hone,ho,ho64⟩:out≠[]∧o= .sl 1 (yK (out.map mkA)) .no∧out.length≤64:=by
      rcases hand2 with⟨q,_⟩ |q
      ·subst q;exact absurd q0 (by decide)
      ·exact q
     subst ho;have hpo:=AltsOk.pairs ⟨hone,hts⟩ hlo;have okA:=zLV hts (by omega);have okB:=zLV hlo.ts (by omega);have hcp:=zab (za.mk (sz:=1) (xs:=yK (out.map mkA)) .no) (za.mk (sz:=1) (xs:=yK (lk.map mkA)) .no);have hco:=zRb (za.mk (sz:=1) (xs:=yK (out.map mkA)) .no) (za.mk (sz:=1) (xs:=yK (lk.map mkA)) .no) okA okB (by rw[List.length_map];omega) (by rw[List.length_map];omega);have hpt:zEK (out.map mkA) (lk.map mkA)=zDc out lk:=rfl;rw[hpt] at hco;have hpl:(zDc out lk).length≤4096:=by
      rw[zKC];exact Nat.le_trans (Nat.mul_le_mul ho64 h64) (by omega)
     have hmi:=zIc (za.mk (sz:=1) (xs:=yK ((zDc out lk).map mkA)) .no) (by simpa using hpo.ne) (by rw[List.length_map];omega) (zLV hpo.ts (by omega));rw[zYY] at hmi;have hmo:=hpo.min;have hmn:=hmo.ne;have hml:(yW (zDc out lk)).length≤1048576:=Nat.le_trans (zDd _) (by omega);have hf1:=fun r hr=>zUd hpo.ne (r:=r) hr;have hf2:=fun r hr=>zUd hmo.ne (r:=r) hr;generalize zDc out lk=P at *
     generalize hM:yW P=M at *
     have hsz:=zOn hml;rw[zF8] at hsz;clear hpt hpo okA okB hts hol hlo hand2 hone
     repeat' first|simp only[go_sem,zH0, *]|apply bc<;>intro hc|(refine zA.mono (kc _) ?_;rintro r h ⟨hq,rfl⟩)
     subst hq;clear kc;refine(hcp _).mono ?_;rintro r h1 ⟨hq,rfl⟩;subst hq;clear hcp
     repeat' first|simp only[go_sem,zH0, *]|apply bc<;>intro hc
     refine(hco _).mono ?_;rintro r h2 ⟨hq,hr⟩;subst hq;have hr:=hf1 r hr;subst hr;clear hco
     repeat' first|simp only[go_sem,zH0, *]|apply bc<;>intro hc
     refine(hmi _).mono ?_;rintro r h3 ⟨hq,hr⟩;subst hq;have hr:=hf2 r hr;subst hr;clear hmi hf1 hf2;cases hz:szd M with
     |none=>
      rw[hz] at hK hsz;simp only at hK;have hq:=hQ2 _ hE2;rw[←hK] at hq;simp only[zJB] at hq hsz;clear hQ2 hK hmo hmn
      repeat' first|simp only[go_sem,zH0, *]|apply bc<;>intro hc|(refine zA.mono (hsz _) ?_;rintro r h ⟨rfl,rfl⟩)
     |some M'=>
      obtain⟨rfl,hM64⟩:=zHJ hz;rw[hz] at hK hsz;simp only at hK;simp only[zJB] at hsz;have hres:MInv c k l R g (i+1) M' (.sl 1 (yK (M'.map mkA)) .no) h3:=⟨hE2,hK,fun q=>absurd q hk3,fun _=> .inr ⟨hmn,rfl,hM64⟩,fun t ht=>by rw[s1];exact hmo.ts t ht,by omega⟩;clear hQ2 hK hmo
      repeat' first|simp only[go_sem,zH0, *]|apply bc<;>intro hc|(refine zA.mono (hsz _) ?_;rintro r h ⟨rfl,rfl⟩)
      exact⟨_,_,rfl,hres⟩
 ·rintro fr h ec ⟨out,o,f2,f3,f54,f55,f56,f6,⟨hE,hK,hor,hand,hts,hol⟩⟩;have hd0:l.drop l.length= []:=List.drop_length;rw[hd0,zEb] at hK;obtain⟨hao,haol⟩:=hfin out hK.symm;have hsl:za 1 (yK (out.map mkA)) o:=by
   by_cases hk3:k=3
   ·exact(hor hk3).isSl
   ·rcases hand hk3 with⟨q,_⟩ | ⟨_,q,_⟩
    ·omega
    ·rw[q];exact za.mk .no
  have hmi:=zIc hsl (by simpa using hao.ne) (by rw[List.length_map];omega) (zLV hao.ts (by omega));rw[zYY] at hmi;have hf2:=fun r hr=>zUd hao.min.ne (r:=r) hr;have hml:(yW out).length≤1048576:=Nat.le_trans (zDd _) (by omega);have hsz:=zOn hml;rw[zF8] at hsz;have hq:=hQ2 _ hE;rw[←hK] at hq;simp only at hq;clear hQ2 hfin hor hand hts hao hsl hkids hmo hsL hK;generalize yW out=M at *
  repeat' first|simp only[go_sem,zH0, *]|apply bc<;>intro hc
  refine(hmi _).mono ?_;rintro r h3 ⟨hq3,hr⟩;subst hq3;have hr:=hf2 r hr;subst hr;clear hmi hf2;cases hz:szd M with
  |none=>
   rw[hz] at hsz hq;simp only[zJB] at hq hsz
   repeat' first|simp only[go_sem,zH0, *]|apply bc<;>intro hc|(refine zA.mono (hsz _) ?_;rintro r h ⟨rfl,rfl⟩)
  |some M'=>
   rw[hz] at hsz hq;simp only[zJB] at hq hsz
   repeat' first|simp only[go_sem,zH0, *]|apply bc<;>intro hc|(refine zA.mono (hsz _) ?_;rintro r h ⟨rfl,rfl⟩)
def ofD (c:Cat) (e:Ex):D:=if(zAk c e==0)=true then zDz c e else .tuple [.nilsl, .int .i64 (zAk c e)]
theorem zag {c:Cat} {d:D} (hc:qg c d) (hs:c.Sm) {e:Ex} (hok:e.Ok) (hsz:e.size≤1048576) (g:Heap):
  zA Tryz.prog 48 [d, .agg e.cells] g fun r h'=>h'=g∧r=ofD c e:=by
 have hck:=zIR hc hs hok hsz;have hme:=fun(h:zAk c e=0)=>zUe hc hs e.size e (Nat.le_refl _) (zUb h).2.1 (zUb h).2.2 hok;obtain⟨ca,cb,ce,cp,rfl,_,_,_,_⟩:=hc;have hv4:∀a b c e:D,zS true 4 [a,b,c,e] 0=some (.agg [a,b,c,e]):=fun a b c e=>zB rfl (by omega);refine zA.post fun Q hQ=> ?_;have hq:=hQ (ofD c e) g ⟨rfl,rfl⟩;clear hQ;unfold ofD at hq;simp only[Ex.cells] at hck hme⊢;refine zA.of_fn (g:=zWC) mix Tryz.func48 zkA rfl rfl ?_;simp only[Tryz.f48,gJ];cases q:(zAk c e==0) with
 |false=>
  rw[if_neg (by rw[q];exact Bool.false_ne_true)] at hq;clear hme
  repeat' first|simp only[go_sem,zh3, *]|apply bc<;>intro hc|(refine zA.mono (hck _) ?_;rintro r h ⟨rfl,rfl⟩)
 |true=>
  rw[if_pos q] at hq;have hme2:=hme (by simpa using q);clear hme;unfold zDz at hq hme2;cases hm:zFU c e with
  |none=>
   rw[hm] at hq hme2;simp only[zJB] at hq hme2
   repeat' first|simp only[go_sem,zh3, *]|apply bc<;>intro hc|(refine zA.mono (hck _) ?_;rintro r h ⟨rfl,rfl⟩)|(refine zA.mono (hme2 _) ?_;rintro r h ⟨rfl,rfl⟩)
  |some l=>
   rw[hm] at hq hme2;simp only[zJB] at hq hme2
   repeat' first|simp only[go_sem,zh3, *]|apply bc<;>intro hc|(refine zA.mono (hck _) ?_;rintro r h ⟨rfl,rfl⟩)|(refine zA.mono (hme2 _) ?_;rintro r h ⟨rfl,rfl⟩)
def zNg (l:List (List Trm)):D:= .sl 1 (yK (l.map mkA)) .no
def zND (l:List (List (List Trm))):List (List D):=l.map fun a=>[zNg a]
theorem zBs (l:List (List (List Trm))):(zND l).length=l.length:=List.length_map ..
theorem zWy {l:List (List (List Trm))} {i:Nat} (h:i<l.length):(zND l)[i]? =some [zNg l[i]]:=by simp[zND,h]
theorem zWz (l:List (List (List Trm))):∀x∈zND l,x.length=1:=fun x hx=>by
 obtain⟨s,_,rfl⟩:=List.mem_map.1 hx;rfl
theorem zRf (l:List (List (List Trm))):∀x∈zND l,yS x:=fun x hx=>by
 obtain⟨s,_,rfl⟩:=List.mem_map.1 hx;obtain⟨h1,h2⟩:=zF9 s;exact⟨rfl,by simp only[zg];exact⟨h2,trivial⟩,by simp only[yE,zNg];rw[h1]⟩
theorem zLW {l:List (List (List Trm))} {d:D} (hd:za 1 (zND l) d) (h:Heap):zC1 Tryz.prog 65 d h=some (.int .i64 l.length):=by rw[qC hd Tryz.underlying65,zBs]
theorem zOp {l:List (List (List Trm))} {d:D} (hd:za 1 (zND l) d) {i:Nat} (hi:i<l.length):zX Tryz.prog 65 d (.int .i64 (i:Int))=some (.iptr [zNg l[i]] 0):=zd hd zKt zJk (zWy hi)
def zCO (c:Cat) (e:Ex):Int:=if(zAk c e==0)=true then(match zFU c e with
 |some _=>0
 |none=>10) else zAk c e
def ofL (c:Cat) (e:Ex):List (List Trm):=(zFU c e).getD []
abbrev zi1:=List (List (List Trm)) ×List (List UInt8) ×Int
def zEL (c:Cat):List Fac→List (List (List Trm))→List (List UInt8)→zi1
 | [],t,o=>(t,o,0)
 |f::fs,t,o=>if(f.kind==1)=true then(if(zCO c f.e==0)=true then zEL c fs (t++ [ofL c f.e]) o else([],[],zCO c f.e))
  else if(f.kind==2)=true then zEL c fs t (if(o.any (· ==f.out))=true then o else o++ [f.out]) else zEL c fs t o
def zG (c:Cat) (l:List Fac):zi1:=if(!((yw c l).2==0))=true then([],[],(yw c l).2) else zEL c l [] []
theorem zfJ {c:Cat} {e:Ex} (h:(zCO c e==0)=true):ofD c e= .tuple [zNg (ofL c e), .int .i64 0]:=by
 unfold zCO at h;unfold ofD ofL zDz;split at h
 ·rename_i q;rw[if_pos q];split at h
  ·rename_i l hl;rw[hl];rfl
  ·exact absurd h (by decide)
 ·rename_i q;exact absurd h q
theorem zah {c:Cat} {e:Ex} (h:(zCO c e==0)=false):ofD c e= .tuple [.nilsl, .int .i64 (zCO c e)]:=by
 unfold zCO at h⊢;unfold ofD zDz;split at h
 ·rename_i q;rw[if_pos q,if_pos q];split at h
  ·exact absurd h (by decide)
  ·rename_i hl;rw[hl];rfl
 ·rename_i q;rw[if_neg q,if_neg q]
theorem zai (a:List (List Trm)) (nid:Nat) (h:Heap):zM Tryz.prog false nid 65 1 [(0,zNg a)] h=some (.sl 1 [[zNg a]] .full,h):=
 yf (P:=Tryz.prog) (x:=zNg a) zKt zVl zJk rfl rfl (by omega) (by omega) rfl rfl
structure ValI (c:Cat) (l:List Fac) (R:zi1) (g:Heap) (i:Nat) (t:List (List (List Trm))) (o:List (List UInt8)) (td od:D) (h:Heap):Prop where
 own:Own2 g h 1 (zND t) td 1 (yI o) od
 eq:zEL c (l.drop i) t o=R
 tl:t.length≤i
 ol:o.length≤i
set_option maxHeartbeats 8000000 in
theorem zHK {c:Cat} {d x:D} (hc:qg c d) (hs:c.Sm) {l:List Fac} (hx:za 12 (zCz l) x) (hl:l.length≤1048576) (hok:∀f∈l,f.Ok) (g:Heap):
  zA Tryz.prog 24 [d,x] g fun r h'=>h'=g∧∃td od,r= .tuple [td,od, .int .i64 (zG c l).2.2]∧Fin 1 (zND (zG c l).1) td∧Fin 1 (yI (zG c l).2.1) od:=by
 have hck:=zOf hc hs hx hl hok;have hof:=fun f (hf:f∈l)=>zag hc hs (hok f hf).e (hok f hf).es;have hlen:=zAq hx;have h12:=zIS;obtain⟨ca,cb,ce,cp,rfl,_,_,_,_⟩:=hc;have hv4:∀a b c e:D,zS true 4 [a,b,c,e] 0=some (.agg [a,b,c,e]):=fun a b c e=>zB rfl (by omega);refine zA.pure (by kernel_rfl) fun hok'=>zA.strip ?_;refine zA.post fun Q hQ=> ?_;have hE0:=Own2.start (Ext.refl g) 1 1;refine zA.of_fn (g:=zWA) mix Tryz.func24 zj7 rfl rfl ?_;simp only[Tryz.f24,gJ];cases q1:((yw c l).2==0) with
 |false=>
  have hR:zG c l=([],[],(yw c l).2):=by unfold zG;rw[q1];rfl
  have hq:=hQ (.tuple [.nilsl, .nilsl, .int .i64 (yw c l).2]) g ⟨Ext.refl g,by simp[yJ,yE,below,zg], .nilsl, .nilsl,by rw[hR];rfl, .inl ⟨rfl,by rw[hR];rfl⟩, .inl ⟨rfl,by rw[hR];rfl⟩⟩;clear hQ hof hR
  repeat' first|simp only[go_sem,zTP, *]|apply bc<;>intro hc|(refine zA.mono (hck _) ?_;rintro r h ⟨rfl,rfl⟩)
 |true=>
 have hR:zG c l=zEL c l [] []:=by unfold zG;rw[q1];rfl
 obtain⟨R,eR⟩:∃R,zEL c l [] []=R:=⟨_,rfl⟩;rw[hR,eR] at hQ;clear hR
 repeat' first|simp only[go_sem,zTP, *]|apply bc<;>intro hc|(refine zA.mono (hck _) ?_;rintro r h ⟨hq,rfl⟩)
 refine zH (fun i fr h=>∃t o td od,fr 2= .iptr [ca,cb,ce,cp] 0∧fr 24=x∧fr 25= .int .i64 (l.length:Int)∧fr 26= .int .i64 (i:Int)∧fr 9=td∧fr 10=od∧ValI c l R g i t o td od h) l.length (by omega) ?_ ?_ ?_
 ·have h0:ValI c l R g 0 [] [] .nilsl .nilsl g:=⟨hE0,eR,Nat.le_refl _,Nat.le_refl _⟩;simp only[go_sem,zTP,true_and,and_true,Int.ofNat_zero];exact⟨_,_,_,_,rfl,rfl,h0⟩
 ·clear hck;rintro i fr h2 hlt ec ew ⟨t,o,td,od,f2,f24,f25,f26,f9,f10,⟨hown,hK,htl,hol⟩⟩;have a1:=qh hx hlt;have hfo:=hok _ (List.getElem_mem hlt);have hfc:=hof _ (List.getElem_mem hlt);have hst:=zJ3 hfo h2 h2.next;rw[List.drop_eq_getElem_cons hlt,zEL] at hK;have hrow:(h2.new h2.next (.row l[i].cells)).at' h2.next=some (.row l[i].cells):=zJ _ _ _;have hown2:=hown.ext ((Ext.refl h2).new (Nat.le_refl _) (.row l[i].cells));have hcon:=fun(h:Heap)=>zBp hown.b.isSl (by omega:o.length≤1048576) l[i].out h;generalize l[i]=f at *
  simp only[Fac.cells,Ex.cells] at a1 hst hrow hown2 hfc;generalize hH:h2.new h2.next (.row [.int .i64 f.kind, .str f.comp, .str f.out, .int .i64 f.rel, .int .i64 f.way, .int .i64 f.duty, .bool f.chg, .int .i64 f.e.kind, .str f.e.name, .str f.e.exc,f.e.d,f.d])=H at *
  have hpe:zS true 4 [.int .i64 f.kind, .str f.comp, .str f.out, .int .i64 f.rel, .int .i64 f.way, .int .i64 f.duty, .bool f.chg, .int .i64 f.e.kind, .str f.e.name, .str f.e.exc,f.e.d,f.d] 7=some (.agg [.int .i64 f.e.kind, .str f.e.name, .str f.e.exc,f.e.d]):=rfl;clear hown hof;cases q2:(f.kind==1) with
  |true=>
   rw[if_pos q2] at hK;cases q3:(zCO c f.e==0) with
   |true=>
    rw[if_pos q3] at hK;rw[zfJ q3] at hfc;have hone:=zai (ofL c f.e);clear hQ hcon
    repeat' first|simp only[go_sem,zTP, *]|apply bc<;>intro hc|(refine zA.mono (hfc _) ?_;rintro r h ⟨hq,rfl⟩)
    subst hq;refine hown2.appH (zs:=zND [ofL c f.e]) zKt zZB zJk (by omega) (zWz _) (by simp[zND]) (by rw[zBs,zBs,zSk];unfold lim;simp;omega) (by rw[zBs,zBs];unfold lim;simp;omega) fun d' h' ho'=> ?_;have hres:ValI c l R g (i+1) (t++ [ofL c f.e]) o d' od h':=⟨by
     have:zND (t++ [ofL c f.e])=zND t++zND [ofL c f.e]:=by simp[zND]
     rw[this];exact ho',hK,by simp;omega,by omega⟩
    clear ho' hown2 hK
    repeat' first|simp only[go_sem,zTP, *]|apply bc<;>intro hc
    exact⟨_,_,_,_,rfl,rfl,hres⟩
   |false=>
    rw[if_neg (by rw[q3];exact Bool.false_ne_true)] at hK;rw[zah q3] at hfc;have hq:=hQ (.tuple [.nilsl, .nilsl, .int .i64 (zCO c f.e)]) H ⟨hown2.a.1,by simp[yJ,yE,below,zg], .nilsl, .nilsl,by rw[←hK];rfl, .inl ⟨rfl,by rw[←hK];rfl⟩, .inl ⟨rfl,by rw[←hK];rfl⟩⟩;clear hQ hcon hown2 hK
    repeat' first|simp only[go_sem,zTP, *]|apply bc<;>intro hc|(refine zA.mono (hfc _) ?_;rintro r h ⟨rfl,rfl⟩)
  |false=>
   rw[if_neg (by rw[q2];exact Bool.false_ne_true)] at hK;clear hQ hfc;cases q3:(f.kind==2) with
   |true=>
    rw[if_pos q3] at hK;cases q4:(o.any (· ==f.out)) with
    |true=>
     rw[if_pos q4] at hK;rw[q4] at hcon;have hres:ValI c l R g (i+1) t o td od H:=⟨hown2,hK,by omega,by omega⟩;clear hown2 hK
     repeat' first|simp only[go_sem,zTP, *]|apply bc<;>intro hc|(refine zA.mono (hcon _) ?_;rintro r h ⟨hq,rfl⟩)
     subst hq;exact⟨_,_,_,_,rfl,rfl,hres⟩
    |false=>
     rw[if_neg (by rw[q4];exact Bool.false_ne_true)] at hK;rw[q4] at hcon;have hone:=zCj f.out
     repeat' first|simp only[go_sem,zTP, *]|apply bc<;>intro hc|(refine zA.mono (hcon _) ?_;rintro r h ⟨hq,rfl⟩)
     subst hq;refine hown2.swap.appH (zs:=yI [f.out]) yq zGS zAe (by omega) zHD (by simp[yI]) (by rw[zp,zAo];unfold lim;simp[yI];omega) (by rw[zp];unfold lim;simp[yI];omega) fun d' h' ho'=> ?_;have hres:ValI c l R g (i+1) t (o++ [f.out]) td d' h':=⟨by
      have:yI (o++ [f.out])=yI o++yI [f.out]:=by simp[yI]
      rw[this];exact ho'.swap,hK,by omega,by simp;omega⟩
     clear ho' hown2 hK
     repeat' first|simp only[go_sem,zTP, *]|apply bc<;>intro hc
     exact⟨_,_,_,_,rfl,rfl,hres⟩
   |false=>
    rw[if_neg (by rw[q3];exact Bool.false_ne_true)] at hK;have hres:ValI c l R g (i+1) t o td od H:=⟨hown2,hK,by omega,by omega⟩;clear hown2 hK hcon
    repeat' first|simp only[go_sem,zTP, *]|apply bc<;>intro hc
    exact⟨_,_,_,_,rfl,rfl,hres⟩
 ·rintro fr h2 ec ⟨t,o,td,od,f2,f24,f25,f26,f9,f10,⟨hown,hK,htl,hol⟩⟩;rw[List.drop_length,zEL] at hK;have hf1:=hown.a.2.1.fin (zRf t);have hf2:=hown.b.2.1.fin (qT (l:=o));have hq:=hQ (.tuple [td,od, .int .i64 0]) h2 ⟨hown.a.1,by
   simp only[yJ,yE,below,zg];exact⟨z6 (Nat.zero_le _) _ hf1.1,z6 (Nat.zero_le _) _ hf2.1,trivial,trivial⟩,yJ td,yJ od,by rw[←hK];rfl,by rw[←hK];exact hf1.2,by rw[←hK];exact hf2.2⟩
  clear hQ hown hK hf1 hf2
  repeat' first|simp only[go_sem,zTP, *]|apply bc<;>intro hc
def zLr (a b:List Trm):Bool:=zGf zO a b==0
theorem zCs (a b:List Trm):zLr a b=true↔a=b:=by
 unfold zLr;constructor
 ·intro h;exact zLM zFT _ _ (by simpa using h)
 ·rintro rfl;simp[zDW.list.refl]
theorem zaj (a b:Nat):((a:Int)==(b:Int))=(a==b):=by
 by_cases h:a=b
 ·simp[h]
 ·rw[beq_eq_false_iff_ne.2 h,beq_eq_false_iff_ne.2 (by omega)]
theorem zak (x y:Trm) (c:Bool):zDv Tryz.prog .neq 79 c (.agg [.str x.a, .str x.b]) (.agg [.str y.a, .str y.b])=some (.bool (!(zO x y==0))):=by
 have he:eqT Tryz.prog 79=some [.s, .s]:=by kernel_rfl
 rw[zDq];simp only[zDv,he,zQn,eqK,Option.map_some,Bool.and_true,zAs]
theorem zW0 {a b:List Trm} {x y:D} (hx:za 2 (qU a) x) (hy:za 2 (qU b) y) (hl:a.length≤1048576) (g:Heap):
  zA Tryz.prog 72 [x,y] g fun r h'=>h'=g∧r= .bool (zLr a b):=by
 have l1:=wG hx;have l2:=wG hy;have hv2:∀a b:D,zS true 2 [a,b] 0=some (.agg [a,b]):=fun a b=>zB rfl (by omega);refine zA.post fun Q hQ=> ?_;have hq:=hQ _ _ ⟨rfl,rfl⟩;clear hQ;refine zA.of_fn (g:=zWD) mix Tryz.func72 zkC rfl rfl ?_;simp only[Tryz.f72,gJ];cases q:((a.length:Int)==(b.length:Int)) with
 |false=>
  have hne:zLr a b=false:=by
   cases h:zLr a b with
   |false=>rfl
   |true=>rw[(zCs _ _).1 h] at q;simp at q
  rw[hne] at hq
  repeat' first|simp only[go_sem,zYD, *]|apply bc<;>intro hc
 |true=>
 have hle:a.length≤b.length∧b.length≤a.length:=by have:=of_decide_eq_true q;omega
 obtain⟨hle1,hle2⟩:=hle
 repeat' first|simp only[go_sem,zYD, *]|apply bc<;>intro hc
 refine zH (fun i fr h=>fr 0=x∧fr 1=y∧fr 12= .int .i64 (a.length:Int)∧fr 13= .int .i64 (i:Int)∧h=g∧a.take i=b.take i) a.length (by omega) ?_ ?_ ?_
 ·simp only[go_sem,zYD,true_and,and_true,Int.ofNat_zero];rfl
 ·rintro i fr h hlt ec ew ⟨f0,f1,f12,f13,rfl,ht⟩;have hlt2:i<b.length:=by omega
  have a1:=zCq hx hlt;have a2:=zCq hy hlt2;have hn:=zak a[i] b[i];have h1:∀ (e:(zO a[i] b[i]==0)=true),a.take (i+1)=b.take (i+1):=fun e=>by
   have he:=zFT a[i] b[i] (by simpa using e);rw[List.take_succ_eq_append_getElem hlt,List.take_succ_eq_append_getElem hlt2,ht,he]
  have h2:∀ (e:(zO a[i] b[i]==0)=false),zLr a b=false:=fun e=>by
   cases h:zLr a b with
   |false=>rfl
   |true=>
    have:=(zCs _ _).1 h;subst this;rw[zDW.refl] at e;exact absurd e (by decide)
  generalize a[i]=u at *
  generalize b[i]=v at *
  simp only[Trm.cells] at a1 a2;cases qq:(zO u v==0) with
  |true=>
   have hres:=h1 qq;rw[qq] at hn;clear h1 h2 ht hq
   repeat' first|simp only[go_sem,zYD, *]|apply bc<;>intro hc
   refine zQ (by kernel_rfl) ?_
   repeat' first|simp only[go_sem,zYD, *]|apply bc<;>intro hc
  |false=>
   rw[h2 qq] at hq;rw[qq] at hn;clear h1 h2 ht
   repeat' first|simp only[go_sem,zYD, *]|apply bc<;>intro hc
   refine zQ (by kernel_rfl) ?_
   repeat' first|simp only[go_sem,zYD, *]|apply bc<;>intro hc
 ·rintro fr h ec ⟨f0,f1,f12,f13,rfl,ht⟩
  have:a=b:=by
   rw[List.take_length,show a.length=b.length by omega,List.take_length] at ht;exact ht
  rw[(zCs _ _).2 this] at hq;clear ht this
  repeat' first|simp only[go_sem,zYD, *]|apply bc<;>intro hc
theorem zi2 {a b:List Trm} {x y:D} (hx:za 2 (qU a) x) (hy:za 2 (qU b) y) (hl:a.length≤1048576) {id:Nat} {g:Heap} (hi:g.at' id=some (.row [x])):
  zA Tryz.prog 71 [y, .ptr id 0] g fun r h'=>h'=g∧r= .bool (zLr a b):=by
 have hc:=zW0 hx hy hl;refine zA.of_fn (g:=zV5) mix Tryz.func71 zj3 rfl rfl ?_;simp only[Tryz.f71,gJ]
 repeat' first|simp only[go_sem,zk4, *]|apply bc<;>intro hc|(refine zA.mono (hc _) ?_;rintro r h ⟨rfl,rfl⟩)
theorem zNE {l:List Lic} {d:D} (hd:za 4 (zCl l) d) (hl:l.length≤1048576) {f:FuncId} {cap:List D} {p:Lic→Bool} {g:Heap} (hp:∀s∈l,zA Tryz.prog f ([]++ [.agg s.cells]++cap) g fun r h'=>h'=g∧r= .bool (p s)):
  zA Tryz.prog 105 [d, .fn (.func f) [] cap] g fun r h'=>h'=g∧r= .int .i64 (zMr p l):=by
 have hlen:=wv hd;have hv4:∀a b c e:D,zS true 4 [a,b,c,e] 0=some (.agg [a,b,c,e]):=fun a b c e=>zB rfl (by omega);refine zA.of_fn (g:=zPX) mix Tryz.func105 zc8 rfl rfl ?_;simp only[Tryz.f105,gJ]
 repeat' first|simp only[go_sem,zSs, *]|apply bc<;>intro hc
 refine zH (fun i fr h=>fr 1= .fn (.func f) [] cap∧fr 0=d∧fr 6=d∧fr 7= .int .i64 (l.length:Int)∧fr 8= .int .i64 (i:Int)∧h=g∧∀j (hj:j<l.length),j<i→p l[j]=false) l.length (by omega) ?_ ?_ ?_
 ·simp only[go_sem,zSs,true_and,and_true,Int.ofNat_zero];exact fun j hj h0=>by omega
 ·rintro i fr h hlt e1 ew ⟨f1,f0,f6,f7,f8,rfl,hj⟩;have a1:=zAC hd hlt;have hq:=hp _ (List.getElem_mem hlt);simp only[List.nil_append,List.cons_append,Lic.cells] at hq;simp only[Lic.cells] at a1;cases hb:p l[i] with
  |true=>
   have hx:=zDN hlt hj hb;rw[hb] at hq;clear hj hp hd
   repeat' first|simp only[go_sem,zSs, *]|apply bc<;>intro hc|(refine zA.mono hq ?_;rintro r h ⟨rfl,rfl⟩)
  |false=>
   have hn:=qG (p:=p) hlt hj hb;rw[hb] at hq;clear hj hp hd
   repeat' first|simp only[go_sem,zSs, *]|apply bc<;>intro hc|(refine zA.mono hq ?_;rintro r h ⟨rfl,rfl⟩)
   exact hn
 ·rintro fr h e1 ⟨f1,f0,f6,f7,f8,rfl,hj⟩;have hx:=zDO (p:=p) fun j hj'=>hj j hj' hj';clear hj hp hd
  repeat' first|simp only[go_sem,zSs, *]|apply bc<;>intro hc
theorem zIg {l:List Lic} {d:D} (hd:za 4 (zCl l) d) (hl:l.length≤1048576) {f:FuncId} {cap:List D} {p:Lic→Bool} {g:Heap} (hp:∀s∈l,zA Tryz.prog f ([]++ [.agg s.cells]++cap) g fun r h'=>h'=g∧r= .bool (p s)):
  zA Tryz.prog 73 [d, .fn (.func f) [] cap] g fun r h'=>h'=g∧r= .bool (l.any p):=by
 have hix:=zNE hd hl hp;have hge:=zEX (l:=l) (p:=p);refine zA.of_fn (g:=zWH) mix Tryz.func73 zkH rfl rfl ?_;simp only[Tryz.f73,gJ]
 repeat' first|simp only[go_sem,zlK, *]|apply bc<;>intro hc|(refine zA.mono hix ?_;rintro r h ⟨rfl,rfl⟩)
theorem zi3 (x:Lic) (s:List UInt8) {id:Nat} {g:Heap} (hi:g.at' id=some (.row [.str s])):
  zA Tryz.prog 74 [.agg x.cells, .ptr id 0] g fun r h'=>h'=g∧r= .bool (x.name==s):=by
 refine zA.of_fn (g:=zWQ) mix Tryz.func74 zkP rfl rfl ?_;simp only[Tryz.f74,gJ];simp only[Lic.cells]
 repeat' first|simp only[go_sem,zlR, *]|apply bc<;>intro hc
structure Cho where
 ts:List Alt
 own:List (List UInt8)
structure Alt.Sm (a:Alt):Prop where
 sl:za 2 (qU a.ts) a.d
 len:a.ts.length≤1048576
def zal (y:Cho) (d:D):Prop:=∃a b,d= .agg [a,b]∧za 1 (yK y.ts) a∧za 1 (yI y.own) b
structure Cho.Sm (y:Cho):Prop where
 tl:y.ts.length≤1048576
 ol:y.own.length≤1048576
 ts:∀a∈y.ts,a.Sm
def zCA (v:List (List (List Trm))) (ts:List Alt) (p:Bool) (i:Nat):Int:=match ts[i]? with
 |none=>0
 |some a=>if(p&&((a.ts.length:Int)==0))=true then 0 else if(!((v.getD i []).any fun b=>zLr a.ts b))=true then 1 else 0
def zRg (c:Cat) (own:List (List UInt8)) (p:Bool) (i:Nat):Int:=match own[i]? with
 |none=>0
 |some s=>if(p&&(s== []))=true then 0 else if(!(c.ls.any fun x=>x.name==s))=true then 7 else 0
def yO (c:Cat) (l:List Fac) (y:Cho) (p:Bool):Int:=
 if(!((zG c l).2.2==0))=true then(zG c l).2.2
 else if(!((y.ts.length:Int)==((zG c l).1.length:Int))|| !((y.own.length:Int)==((zG c l).2.1.length:Int)))=true then 9
 else if(!(zDy (zCA (zG c l).1 y.ts p) y.ts.length==0))=true then zDy (zCA (zG c l).1 y.ts p) y.ts.length
 else zDy (zRg c y.own p) y.own.length
theorem zfK {c:Cat} {e:Ex} (h:(zCO c e==0)=true):(ofL c e).length≤64∧AltsOk 64 (ofL c e):=by
 unfold zCO at h;unfold ofL;split at h
 ·rename_i q;obtain⟨_,h2,h3⟩:=zUb (show zAk c e=0 by simpa using q);split at h
  ·rename_i l hl;have:=(zOo (c:=c) e.size).1 e (Nat.le_refl _) h3 l hl;rw[hl];exact⟨this.1,this.2.mono h2⟩
  ·exact absurd h (by decide)
 ·rename_i q;exact absurd h q
theorem zLX {c:Cat} :∀ {l:List Fac} {t:List (List (List Trm))} {o:List (List UInt8)},(∀a∈t,a.length≤64∧AltsOk 64 a)→∀a∈(zEL c l t o).1,a.length≤64∧AltsOk 64 a
 | [],t,o,h=>by rw[zEL];exact h
 |f::fs,t,o,h=>by
  rw[zEL];split
  ·split
   ·rename_i q;exact zLX fun a ha=>by
     rcases List.mem_append.1 ha with g|g
     ·exact h a g
     ·cases List.mem_singleton.1 g;exact zfK q
   ·intro a ha;cases ha
  ·split
   ·exact zLX h
   ·exact zLX h
theorem zBt {c:Cat} {l:List Fac} :∀a∈(zG c l).1,a.length≤64∧AltsOk 64 a:=by
 unfold zG;split
 ·intro a ha;cases ha
 ·exact zLX fun a ha=>by cases ha
set_option maxHeartbeats 8000000 in
theorem zLY {c:Cat} {d x z:D} (hc:qg c d) (hs:c.Sm) {l:List Fac} (hx:za 12 (zCz l) x) (hl:l.length≤1048576) (hok:∀f∈l,f.Ok) {y:Cho} (hy:zal y z) (hys:y.Sm) (p:Bool) (g:Heap):
  zA Tryz.prog 39 [d,x,z, .bool p] g fun r h'=>h'=g∧r= .int .i64 (yO c l y p):=by
 have hva:=zHK hc hs hx hl hok;have hcd:=hc;obtain⟨ca,cb,ce,cp,rfl,hca,_,_,_⟩:=hc;obtain⟨ya,yb,rfl,ha,hb⟩:=hy;obtain⟨y1,y2,y3⟩:=hys;have hv4:∀a b c e:D,zS true 4 [a,b,c,e] 0=some (.agg [a,b,c,e]):=fun a b c e=>zB rfl (by omega);have hlA:=zB2 ha;have hlB:=yV hb;refine zA.pure (by kernel_rfl) fun hok'=> ?_;refine zA.post fun Q hQ=> ?_;obtain⟨E,hE⟩:∃E,yO c l y p=E:=⟨_,rfl⟩;have hQ2:∀h',Ext g h'→Q (.int .i64 E) h':=fun h' he=>hQ _ _ ⟨he,trivial,by rw[hE]⟩;clear hQ;unfold yO at hE;refine zA.of_fn (g:=zVs) mix Tryz.func39 zjm rfl rfl ?_;simp only[Tryz.f39,gJ]
 repeat' first|simp only[go_sem,zKx, *]|apply bc<;>intro hc
 refine(hva _).mono ?_;rintro r h ⟨hq,td,od,rfl,htd,hod⟩;subst hq;clear hva;have e0:=Ext.refl h;have htd:za 1 (zND (zG c l).1) td:=htd.isSl;have hod:za 1 (yI (zG c l).2.1) od:=hod.isSl;have hl1:=zLW htd;have hl2:=yV hod;have hvo:∀a∈(zG c l).1,a.length≤1048576:=fun a ha=>Nat.le_trans (zBt a ha).1 (by omega);cases q1:((zG c l).2.2==0) with
 |false=>
  rw[if_pos (by rw[q1];rfl)] at hE;have hq:=hQ2 h e0;rw[←hE] at hq;clear hQ2 hE
  repeat' first|simp only[go_sem,zKx, *]|apply bc<;>intro hc
 |true=>
 rw[if_neg (by rw[q1];decide)] at hE;generalize zG c l=v at *
 cases q2:((y.ts.length:Int)==(v.1.length:Int)) with
 |false=>
  rw[if_pos (by rw[q2];rfl)] at hE;have hq:=hQ2 h e0;rw[←hE] at hq;clear hQ2 hE
  repeat' first|simp only[go_sem,zKx, *]|apply bc<;>intro hc
 |true=>
 cases q3:((y.own.length:Int)==(v.2.1.length:Int)) with
 |false=>
  rw[if_pos (by rw[q2,q3];rfl)] at hE;have hq:=hQ2 h e0;rw[←hE] at hq;clear hQ2 hE
  repeat' first|simp only[go_sem,zKx, *]|apply bc<;>intro hc
 |true=>
 rw[if_neg (by rw[q2,q3];decide)] at hE;have hlt1:y.ts.length≤v.1.length:=by have:=of_decide_eq_true q2;omega
 obtain⟨F,hF⟩:∃F,zDy (zCA v.1 y.ts p) y.ts.length=F:=⟨_,rfl⟩;rw[hF] at hE
 repeat' first|simp only[go_sem,zKx, *]|apply bc<;>intro hc
 clear q1;refine zH (fun i fr h2=>fr 3= .bool p∧fr 4= .iptr [ca,cb,ce,cp] 0∧fr 6= .iptr [ya,yb] 0∧fr 9=td∧fr 41=ya∧fr 42= .int .i64 (y.ts.length:Int)∧fr 43= .int .i64 (i:Int)∧Ext h h2∧∀j,j<i→zCA v.1 y.ts p j=0) y.ts.length (by omega) ?_ ?_ ?_
 ·have h0:∀j,j<0→zCA v.1 y.ts p j=0:=fun j hj=>absurd hj (Nat.not_lt_zero _);simp only[go_sem,zKx,true_and,and_true,Int.ofNat_zero];exact⟨e0,h0⟩
 ·rintro i fr h2 hlt ec ew ⟨f3,f4,f6,f9,f41,f42,f43,he,hj⟩;have a1:=zDX ha hlt;have a2:=zOp htd (show i<v.1.length by omega);have sm:=y3 _ (List.getElem_mem hlt);have hte:zCA v.1 y.ts p i=if(p&&((y.ts[i].ts.length:Int)==0))=true then 0 else if(!(v.1[i].any fun b=>zLr y.ts[i].ts b))=true then 1 else 0:=by
   unfold zCA;rw[List.getElem?_eq_getElem hlt];simp only;rw[List.getD_eq_getElem?_getD,List.getElem?_eq_getElem (by omega)];rfl
  have hnx:=fun(e:zCA v.1 y.ts p i=0)=>wj (f:=zCA v.1 y.ts p) hj e;have hat:=fun(e:zCA v.1 y.ts p i≠0)=>zCn (f:=zCA v.1 y.ts p) hlt hj e;rw[hF] at hat;have hrow:(h2.new h2.next (.row [y.ts[i].d])).at' h2.next=some (.row [y.ts[i].d]):=zJ _ _ _;have heN:=he.new he.1 (.row [y.ts[i].d]);have hcf:=zDY (l:=v.1[i].map mkA) (d:=zNg v.1[i]) (za.mk .no) (by rw[List.length_map];exact hvo _ (List.getElem_mem _)) (f:=71) (cap:=[.ptr h2.next 0]) (p:=fun b=>zLr y.ts[i].ts b.ts) (g:=h2.new h2.next (.row [y.ts[i].d])) (fun s hs=>by
   obtain⟨t,ht,rfl⟩:=List.mem_map.1 hs;exact⟨za.mk .no,zi2 sm.sl (za.mk .no) sm.len hrow⟩)
  have hany:(v.1[i].map mkA).any (fun b=>zLr y.ts[i].ts b.ts)=v.1[i].any fun b=>zLr y.ts[i].ts b:=by rw[List.any_map];rfl
  rw[hany] at hcf;clear hany;obtain⟨k1,k2,k3⟩:=zN sm.sl;have hla:=wG sm.sl;generalize y.ts[i]=a at *
  generalize v.1[i]=b at *
  have hst:zW Tryz.prog 62 (.ptr h2.next 0) a.d (h2.new h2.next (.row [.nilsl]))=some (h2.new h2.next (.row [a.d])):=by
   rw[zT (off:=0) (zJ _ _ _) zBk (by simp) k1 k3,zEU];rfl
  have had:(zNg b).notTuple=true:=rfl;generalize h2.new h2.next (.row [a.d])=H at *
  clear hj hF ha hb htd hod y3 sm q2 q3;cases hp:p with
  |true=>
   subst hp;cases qa:((a.ts.length:Int)==0) with
   |true=>
    have hn:=hnx (by rw[hte,qa];rfl);clear hnx hat hte hcf hQ2 hE
    repeat' first|simp only[go_sem,zKx, *]|apply bc<;>intro hc
    exact hn
   |false=>
    rw[if_neg (by rw[qa];decide)] at hte;cases qb:(b.any fun t=>zLr a.ts t) with
    |true=>
     have hn:=hnx (by rw[hte,qb];rfl);rw[qb] at hcf;clear hnx hat hte hQ2 hE
     repeat' first|simp only[go_sem,zKx, *]|apply bc<;>intro hc|(refine zA.mono hcf ?_;rintro r h ⟨hq,rfl⟩)
     subst hq;exact hn
    |false=>
     have h1:F=1:=by rw[hat (by rw[hte,qb];decide),hte,qb];rfl
     subst h1;rw[if_pos (by decide)] at hE;have hq:=hQ2 H heN;rw[←hE] at hq;rw[qb] at hcf;clear hnx hat hte hQ2 hE
     repeat' first|simp only[go_sem,zKx, *]|apply bc<;>intro hc|(refine zA.mono hcf ?_;rintro r h ⟨rfl,rfl⟩)
  |false=>
   subst hp;rw[if_neg (by rw[Bool.false_and];decide)] at hte;cases qb:(b.any fun t=>zLr a.ts t) with
   |true=>
    have hn:=hnx (by rw[hte,qb];rfl);rw[qb] at hcf;clear hnx hat hte hQ2 hE
    repeat' first|simp only[go_sem,zKx, *]|apply bc<;>intro hc|(refine zA.mono hcf ?_;rintro r h ⟨hq,rfl⟩)
    subst hq;exact hn
   |false=>
    have h1:F=1:=by rw[hat (by rw[hte,qb];decide),hte,qb];rfl
    subst h1;rw[if_pos (by decide)] at hE;have hq:=hQ2 H heN;rw[←hE] at hq;rw[qb] at hcf;clear hnx hat hte hQ2 hE
    repeat' first|simp only[go_sem,zKx, *]|apply bc<;>intro hc|(refine zA.mono hcf ?_;rintro r h ⟨rfl,rfl⟩)
 ·rintro fr h2 ec ⟨f3,f4,f6,f9,f41,f42,f43,he,hj⟩;have hF0:F=0:=by rw[←hF];exact ql hj
  subst hF0;rw[if_neg (by decide)] at hE;clear hF hj htd hl1 hlt1 q2 q3
  repeat' first|simp only[go_sem,zKx, *]|apply bc<;>intro hc
  refine zH (fun i fr h2=>fr 3= .bool p∧fr 4= .iptr [ca,cb,ce,cp] 0∧fr 63=yb∧fr 64= .int .i64 (y.own.length:Int)∧fr 65= .int .i64 (i:Int)∧Ext h h2∧∀j,j<i→zRg c y.own p j=0) y.own.length (by omega) ?_ ?_ ?_
  ·have h0:∀j,j<0→zRg c y.own p j=0:=fun j hj=>absurd hj (Nat.not_lt_zero _);simp only[go_sem,zKx,true_and,and_true,Int.ofNat_zero];exact⟨f3,f4,he,h0⟩
  ·clear he;rintro i fr h2 hlt ec ew ⟨f3,f4,f63,f64,f65,he,hj⟩;have a1:=wb hb hlt;have hte:zRg c y.own p i=if(p&&(y.own[i]== []))=true then 0 else if(!(c.ls.any fun x=>x.name==y.own[i]))=true then 7 else 0:=by
    unfold zRg;rw[List.getElem?_eq_getElem hlt]
   have hnx:=fun(e:zRg c y.own p i=0)=>wj (f:=zRg c y.own p) hj e;have hat:=fun(e:zRg c y.own p i≠0)=>zCn (f:=zRg c y.own p) hlt hj e;rw[hE] at hat;generalize y.own[i]=s at *
   have hrow:(h2.new h2.next (.row [.str s])).at' h2.next=some (.row [.str s]):=zJ _ _ _;have heN:=he.new he.1 (.row [.str s]);have hcf:=zIg hca hs.ls.1 (f:=74) (cap:=[.ptr h2.next 0]) (p:=fun x=>x.name==s) (g:=h2.new h2.next (.row [.str s])) (fun x _=>zi3 x s hrow);have hst:zW Tryz.prog 9 (.ptr h2.next 0) (.str s) (h2.new h2.next (.row [.str []]))=some (h2.new h2.next (.row [.str s])):=by
    rw[zT (off:=0) (zJ _ _ _) zAe (by simp) rfl rfl,zEU];rfl
   generalize h2.new h2.next (.row [.str s])=H at *
   clear hj hE ha hb hod y3;cases hp:p with
   |true=>
    subst hp;cases qa:(s== []) with
    |true=>
     have hn:=hnx (by rw[hte,qa];rfl);clear hnx hat hte hcf hQ2
     repeat' first|simp only[go_sem,zKx, *]|apply bc<;>intro hc
     exact hn
    |false=>
     rw[if_neg (by rw[qa];decide)] at hte;cases qb:(c.ls.any fun x=>x.name==s) with
     |true=>
      have hn:=hnx (by rw[hte,qb];rfl);rw[qb] at hcf;clear hnx hat hte hQ2
      repeat' first|simp only[go_sem,zKx, *]|apply bc<;>intro hc|(refine zA.mono hcf ?_;rintro r h ⟨hq,rfl⟩)
      subst hq;exact hn
     |false=>
      have h1:E=7:=by rw[hat (by rw[hte,qb];decide),hte,qb];rfl
      subst h1;have hq:=hQ2 H heN;rw[qb] at hcf;clear hnx hat hte hQ2
      repeat' first|simp only[go_sem,zKx, *]|apply bc<;>intro hc|(refine zA.mono hcf ?_;rintro r h ⟨rfl,rfl⟩)
   |false=>
    subst hp;rw[if_neg (by rw[Bool.false_and];decide)] at hte;cases qb:(c.ls.any fun x=>x.name==s) with
    |true=>
     have hn:=hnx (by rw[hte,qb];rfl);rw[qb] at hcf;clear hnx hat hte hQ2
     repeat' first|simp only[go_sem,zKx, *]|apply bc<;>intro hc|(refine zA.mono hcf ?_;rintro r h ⟨hq,rfl⟩)
     subst hq;exact hn
    |false=>
     have h1:E=7:=by rw[hat (by rw[hte,qb];decide),hte,qb];rfl
     subst h1;have hq:=hQ2 H heN;rw[qb] at hcf;clear hnx hat hte hQ2
     repeat' first|simp only[go_sem,zKx, *]|apply bc<;>intro hc|(refine zA.mono hcf ?_;rintro r h ⟨rfl,rfl⟩)
  ·clear he;rintro fr h2 ec ⟨f3,f4,f63,f64,f65,he,hj⟩;have h1:E=0:=by rw[←hE];exact ql hj
   subst h1;have hq:=hQ2 h2 he;clear hj hQ2 hE
   repeat' first|simp only[go_sem,zKx, *]|apply bc<;>intro hc
theorem zNF (l:List Int):∀x∈wa l,x.length=1:=fun x hx=>by
 obtain⟨s,_,rfl⟩:=List.mem_map.1 hx;rfl
theorem zOq (l:List Int):∀x∈wa l,yS x:=fun x hx=>by
 obtain⟨s,_,rfl⟩:=List.mem_map.1 hx;exact⟨rfl,by simp[zg,below],rfl⟩
theorem zQc (n:Int) (nid:Nat) (h:Heap):zM Tryz.prog false nid 31 1 [(0, .int .i64 n)] h=some (.sl 1 [[.int .i64 n]] .full,h):=
 yf (P:=Tryz.prog) (x:= .int .i64 n) yM zAd wV rfl rfl (by omega) (by omega) rfl rfl
def zLZ (c:Cat) (t:List (List (List Trm))) (o:List (List UInt8)) (cs:List D):Prop:=∃td od a b e p,cs= [td,od,a,b,e,p]∧za 1 (zND t) td∧za 1 (yI o) od∧qg c (.agg [a,b,e,p])
def zD0 (c:Cat) (t:List (List (List Trm))) (o:List (List UInt8)):List Nat:=t.map List.length++o.map fun _=>c.ls.length
def zEM (l:List Nat):List Int:=l.map fun(n:Nat)=>(n:Int)
theorem zNG (l:List Int) (n:Int):wa (l++ [n])=wa l++wa [n]:=by simp[wa]
theorem zUf (a b c d e f:D):zS true 6 [a,b,c,d,e,f] 0=some (.agg [a,b,c,d,e,f]):=zB rfl (by omega)
set_option maxHeartbeats 4000000 in
theorem zNH {c:Cat} {t:List (List (List Trm))} {o:List (List UInt8)} {cs:List D} (hk:zLZ c t o cs) (hs:c.Sm) (htl:t.length≤1048576) (hol:o.length≤1048576) (g:Heap):
  zA Tryz.prog 68 [.agg cs] g fun r h'=>h'=g∧Fin 1 (wa (zEM (zD0 c t o))) r:=by
 obtain⟨td,od,a,b,e,p,rfl,ht,ho,hc⟩:=hk;obtain⟨_,_,_,_,hce,hca,_,_,_⟩:=hc;cases hce;have l1:=zLW ht;have l2:=yV ho;have l3:=wv hca;have l4:=fun(x:List (List Trm)) (h:Heap)=>zB2 (l:=x.map mkA) (d:=zNg x) (za.mk .no) h;have l5:∀ (x:List (List Trm)) (h:Heap),zC1 Tryz.prog 39 (zNg x) h=some (.int .i64 (x.length:Int)):=fun x h=>by have:=l4 x h;rwa [List.length_map] at this
 clear l4;refine zA.pure (by kernel_rfl) fun hok'=>zA.strip ?_;refine zA.post fun Q hQ=> ?_;have hE0:=Own.start (Ext.refl g) 1;refine zA.of_fn (g:=zWO) mix Tryz.func68 zkO rfl rfl ?_;simp only[Tryz.f68,gJ]
 repeat' first|simp only[go_sem,zWP, *]|apply bc<;>intro hc
 refine zH (fun i fr h=>∃s,fr 1= .iptr [td,od,a,b,e,p] 0∧fr 7=td∧fr 8= .int .i64 (t.length:Int)∧fr 9= .int .i64 (i:Int)∧fr 3=s∧Own g h 1 (wa (zEM ((t.take i).map List.length))) s) t.length (by omega) ?_ ?_ ?_
 ·simp only[go_sem,zWP,true_and,and_true,Int.ofNat_zero];exact⟨_,rfl,hE0⟩
 ·rintro i fr h hlt ec ew ⟨s,f1,f7,f8,f9,f3,hown⟩;have a1:=zOp ht hlt;have hl:=l5 t[i];have htk:zEM ((t.take (i+1)).map List.length)=zEM ((t.take i).map List.length)++ [(t[i].length:Int)]:=by rw[List.take_succ_eq_append_getElem hlt,List.map_append];simp only[zEM,List.map_append];rfl
  have hli:(zEM ((t.take i).map List.length)).length=i:=by simp[zEM];omega
  rw[htk];clear htk;generalize t[i]=x at *
  generalize zEM ((t.take i).map List.length)=pre at *
  have hone:=zQc (x.length:Int);have hnt:(zNg x).notTuple=true:=rfl;clear hQ ht ho hca
  repeat' first|simp only[go_sem,zWP, *]|apply bc<;>intro hc
  refine hown.appH (ys:=wa [(x.length:Int)]) yM zSi wV (by omega) (zNF _) (by simp[wa]) (by rw[yv,zG8,hli];unfold lim;simp[wa];omega) (by rw[yv,hli];unfold lim;simp[wa];omega) fun d' h' ho'=> ?_;rw[←zNG] at ho';clear hown
  repeat' first|simp only[go_sem,zWP, *]|apply bc<;>intro hc
  exact⟨_,rfl,ho'⟩
 ·rintro fr h ec ⟨s,f1,f7,f8,f9,f3,hown⟩;rw[List.take_length] at hown;have hrad:∀j,zEM (t.map List.length++(o.take j).map fun _=>c.ls.length)=zEM (t.map List.length)++zEM ((o.take j).map fun _=>c.ls.length):=fun j=>by simp[zEM]
  repeat' first|simp only[go_sem,zWP, *]|apply bc<;>intro hc
  refine zH (fun i fr h=>∃s,fr 1= .iptr [td,od,a,b,e,p] 0∧fr 20=od∧fr 21= .int .i64 (o.length:Int)∧fr 22= .int .i64 (i:Int)∧fr 3=s∧Own g h 1 (wa (zEM (t.map List.length++(o.take i).map fun _=>c.ls.length))) s) o.length (by omega) ?_ ?_ ?_
  ·have h0:Own g h 1 (wa (zEM (t.map List.length++(o.take 0).map fun _=>c.ls.length))) s:=by simpa using hown
   simp only[go_sem,zWP,true_and,and_true,Int.ofNat_zero];exact⟨s,f1,f3,h0⟩
  ·clear hown;rintro i fr h hlt ec ew ⟨s,f1,f20,f21,f22,f3,hown⟩;have htk:zEM (t.map List.length++(o.take (i+1)).map fun _=>c.ls.length)=zEM (t.map List.length++(o.take i).map fun _=>c.ls.length)++ [(c.ls.length:Int)]:=by rw[List.take_succ_eq_append_getElem hlt,List.map_append,←List.append_assoc];simp only[zEM,List.map_append];rfl
   have hli:(zEM (t.map List.length++(o.take i).map fun _=>c.ls.length)).length=t.length+i:=by simp[zEM];omega
   rw[htk];clear htk hrad;generalize zEM (t.map List.length++(o.take i).map fun _=>c.ls.length)=pre at *
   have hone:=zQc (c.ls.length:Int);clear hQ ht ho hca
   repeat' first|simp only[go_sem,zWP, *]|apply bc<;>intro hc
   refine hown.appH (ys:=wa [(c.ls.length:Int)]) yM zSi wV (by omega) (zNF _) (by simp[wa]) (by rw[yv,zG8,hli];unfold lim;simp[wa];omega) (by rw[yv,hli];unfold lim;simp[wa];omega) fun d' h' ho'=> ?_;rw[←zNG] at ho';clear hown
   repeat' first|simp only[go_sem,zWP, *]|apply bc<;>intro hc
   exact⟨_,rfl,ho'⟩
  ·clear hown;rintro fr h ec ⟨s,f1,f20,f21,f22,f3,hown⟩;rw[List.take_length] at hown;have hf:=hown.2.1.fin (zOq _);have hq:=hQ s h ⟨hown.1,z6 (Nat.zero_le _) _ hf.1,hf.2⟩;clear hQ hown hf hrad
   repeat' first|simp only[go_sem,zWP, *]|apply bc<;>intro hc
def zb9:List Nat→Nat→Nat
 | [],n=>n
 |r::rs,n=>if n*r>4096 then n*r else zb9 rs (n*r)
def zYZ (l:List Nat):Nat:=if l.any (· ==0) then 0 else zb9 l 1
set_option maxHeartbeats 4000000 in
theorem zOr {c:Cat} {t:List (List (List Trm))} {o:List (List UInt8)} {cs:List D} (hk:zLZ c t o cs) (hs:c.Sm) (htl:t.length≤524288) (hol:o.length≤524288) (hr:∀x∈t,x.length≤1048576) (g:Heap):
  zA Tryz.prog 37 [.agg cs] g fun r h'=>h'=g∧r= .int .i64 ((zYZ (zD0 c t o):Nat):Int):=by
 have hra:=zNH hk hs (by omega) (by omega);obtain⟨td,od,a,b,e,p,rfl,ht,ho,hc⟩:=hk;have h6:=zUf;have hrl:∀r∈zD0 c t o,r≤1048576:=fun r hr'=>by
  rcases List.mem_append.1 hr' with q|q
  ·obtain⟨x,hx,rfl⟩:=List.mem_map.1 q;exact hr x hx
  ·obtain⟨x,hx,rfl⟩:=List.mem_map.1 q;exact hs.ls.1
 have hll:(zD0 c t o).length≤1048576:=by simp[zD0];omega
 refine zA.post fun Q hQ=> ?_;have hq0:=hQ _ _ ⟨rfl,rfl⟩;clear hQ;unfold zYZ at hq0;generalize zD0 c t o=L at *
 refine zA.of_fn (g:=zWG) mix Tryz.func37 zkE rfl rfl ?_;simp only[Tryz.f37,gJ]
 repeat' first|simp only[go_sem,zZw, *]|apply bc<;>intro hc
 refine(hra _).mono ?_;rintro r h ⟨hq,hf⟩;subst hq;have hsl:=hf.isSl;have hnl:(zEM L).length=L.length:=by simp[zEM]
 have hco:=zIN hsl (by omega) 0;have hlen:=zAp hsl;rw[hnl] at hlen;have hcz:((zEM L).any fun x=>x==0)=L.any (· ==0):=by
  rw[zEM,List.any_map];congr 1
  funext x
  exact zaj x 0
 rw[hcz] at hco;clear hra;cases q:L.any (· ==0) with
 |true=>
  rw[if_pos q] at hq0;have hq1:Q (.int .i64 0) h:=hq0;rw[q] at hco
  repeat' first|simp only[go_sem,zZw, *]|apply bc<;>intro hc|(refine zA.mono (hco _) ?_;rintro r h ⟨rfl,rfl⟩)
 |false=>
 rw[if_neg (by rw[q];exact Bool.false_ne_true)] at hq0;rw[q] at hco;obtain⟨R,hR⟩:∃R,zb9 L 1=R:=⟨_,rfl⟩;rw[hR] at hq0;clear hcz
 repeat' first|simp only[go_sem,zZw, *]|apply bc<;>intro hc|(refine zA.mono (hco _) ?_;rintro r h ⟨hq,rfl⟩)
 subst hq
 rename Heap=>g
 refine zH (fun i fr h=>∃n:Nat,fr 11=r∧fr 12= .int .i64 (L.length:Int)∧fr 13= .int .i64 (i:Int)∧fr 4= .int .i64 (n:Int)∧h=g∧n≤4096∧zb9 (L.drop i) n=R) L.length (by omega) ?_ ?_ ?_
 ·simp only[go_sem,zZw,true_and,and_true,Int.ofNat_zero];exact⟨1,rfl,by omega,hR⟩
 ·rintro i fr h hlt ec ew ⟨n,f11,f12,f13,f4,rfl,hn,hK⟩;have a1:=zCk hsl (show i<(zEM L).length by omega);have hni:(zEM L)[i]'(by omega)=((L[i]:Nat):Int):=by simp[zEM]
  rw[hni] at a1;have hLi:=hrl _ (List.getElem_mem hlt);rw[List.drop_eq_getElem_cons hlt,zb9] at hK;generalize L[i]=y at *
  have hm:n*y≤4096*1048576:=Nat.mul_le_mul hn hLi;have hw:IntKind.i64.wrap ((n:Int)*(y:Int))=((n*y:Nat):Int):=by rw[zZ (by rw[←Int.natCast_mul];omega) (by rw[←Int.natCast_mul];omega),Int.natCast_mul]
  generalize hny:n*y=m at *
  clear hr hrl hsl hni;by_cases hb:m>4096
  ·have e1:decide ((m:Int)>4096)=true:=decide_eq_true (by omega);rw[if_pos hb] at hK;subst hK
   repeat' first|simp only[go_sem,zZw, *]|apply bc<;>intro hc
  ·have e1:decide ((m:Int)>4096)=false:=decide_eq_false (by omega);rw[if_neg hb] at hK;have hn2:m≤4096:=by omega
   clear hq0 hny hm
   repeat' first|simp only[go_sem,zZw, *]|apply bc<;>intro hc
   exact⟨m,rfl,hn2,hK⟩
 ·rintro fr h ec ⟨n,f11,f12,f13,f4,rfl,hn,hK⟩;rw[List.drop_length,zb9] at hK;subst hK;clear hr hrl hsl
  repeat' first|simp only[go_sem,zZw, *]|apply bc<;>intro hc
def zEh:List Nat→Nat→List Nat×Nat
 | [],n=>([],n)
 |r::rs,n=>(((zEh rs n).2%r)::(zEh rs n).1,(zEh rs n).2/r)
theorem zQd:∀ (l:List Nat) (n:Nat),(zEh l n).1.length=l.length
 | [],_=>rfl
 |r::rs,n=>by simp[zEh,zQd rs n]
theorem zUg:∀ (l:List Nat) (n:Nat),(zEh l n).2≤n
 | [],_=>Nat.le_refl _
 |r::rs,n=>Nat.le_trans (Nat.div_le_self _ _) (zUg rs n)
theorem zOs:∀ {l:List Nat} {n:Nat},(∀r∈l,0<r)→∀i (hi:i<l.length),((zEh l n).1.getD i 0)<l[i]
 |r::rs,n,h,0,_=>by simp[zEh];exact Nat.mod_lt _ (h r (by simp))
 |r::rs,n,h,i+1,hi=>by
  have:=zOs (l:=rs) (n:=n) (fun x hx=>h x (List.mem_cons_of_mem _ hx)) i (by simpa using hi);simpa [zEh] using this
def yt (t:List (List (List Trm))) (ds:List Nat):List (List Trm):=(List.range t.length).map fun i=>(t.getD i []).getD (ds.getD i 0) []
def zA0 (c:Cat) (n m:Nat) (ds:List Nat):List (List UInt8):=(List.range m).map fun i=>((c.ls.map Lic.name).getD (ds.getD (n+i) 0) [])
theorem zi4:zf Tryz.prog zRM Tryz.f69=true:=by kernel_rfl
theorem zUh {ts:List Trm} (h0:ts≠[]) (hl:ts.length≤1048576) (g:Heap):
  zA Tryz.prog 69 [(mkA ts).d] g fun r h'=>h'=g∧r=(mkA ts).d:=by
 refine zA.pure (by kernel_rfl) fun hok=>zA.strip ?_;have hE0:Ext g g:=Ext.refl g;have hd:(mkA ts).d= .sl 2 (qU ts) .no:=rfl;rw[hd];have hn:zDv Tryz.prog .eql 62 true (.sl 2 (qU ts) .no) .nilsl=some (.bool false):=by rw[zBn (za.mk .no) Tryz.underlying62];rfl
 have hz:=fun nid h=>wu (P:=Tryz.prog) (nid:=nid) (h:=h) qD zB0 wP rfl rfl (by omega:0<2);have hap:yD Tryz.prog false g.next 62 (.sl 2 [] .full) (.sl 2 (qU ts) .no) g=some (.sl 2 (qU ts) (.own g.next),g.new g.next .tok):=by
  rw[zGW qD zN9 wP (by omega) (zAP ts) (by rw[zE6,ym];unfold lim;omega) (by rw[ym];unfold lim;omega),if_neg (by rw[ym];exact fun q=>h0 (List.length_eq_zero_iff.1 q))]
 have hE1:=hE0.new (Nat.le_refl _) .tok;have hst:=yh (sz:=2) (xs:=qU ts) (fun x hx=>by
  obtain⟨y,_,rfl⟩:=List.mem_map.1 hx;exact⟨rfl,by simp[Trm.cells,zg,below],rfl⟩) (.own g.next)
 have hfin:below g.next (yJ (.sl 2 (qU ts) (.own g.next)))∧yJ (.sl 2 (qU ts) (.own g.next))= .sl 2 (qU ts) .no:=⟨by rw[hst.1];exact z6 (Nat.zero_le _) _ hst.2,hst.1⟩;obtain⟨q1,q2⟩:=hfin;refine zA.post fun Q hQ=> ?_;have hq:=hQ _ _ ⟨hE1,q1,q2⟩;clear hst q1 q2 hQ hd;refine zA.of_fn (g:=zRM) mix Tryz.func69 zi4 rfl rfl ?_;simp only[Tryz.f69,gJ]
 repeat' first|simp only[go_sem,zgg, *]|apply bc<;>intro hc
def dI (ds:List Nat):List D:=ds.map fun(x:Nat)=>D.int .i64 (x:Int)
theorem zW1 (i:Nat) (rest:List D) (v z:D):(List.replicate (i+1) z++rest).set i v=List.replicate i z++v::rest:=by
 induction i with
 |zero=>rfl
 |succ i ih=>rw[List.replicate_succ,List.cons_append,List.set_cons_succ,ih,List.replicate_succ,List.cons_append]
def zcA (sz:Nat) (xs:List (List D)) (d:D):Prop:=Fin sz xs d∧(xs= []→d= .nilsl)
def nd (sz:Nat):List (List D)→D
 | []=> .nilsl
 |x::xs=> .sl sz (x::xs) .no
theorem zcA.det {sz : Nat} {xs : List (List D)} {d : D} (h : zcA sz xs d) : d = nd sz xs := by
  cases xs with
  | nil => exact h.2 rfl
  | cons x xs => rcases h.1 with ⟨_, q⟩ | q
                 · cases q
                 · exact q
set_option maxHeartbeats 8000000 in
theorem zW2 {c:Cat} {t:List (List (List Trm))} {o:List (List UInt8)} {cs:List D} (hk:zLZ c t o cs) (hs:c.Sm) (htl:t.length≤524288) (hol:o.length≤524288) (hr:∀x∈t,x.length≤64∧AltsOk 64 x) (hpos:∀r∈zD0 c t o,0<r) {n:Nat} (hn:n≤1048576) (g:Heap):
  zA Tryz.prog 38 [.agg cs, .int .i64 (n:Int)] g fun r h'=>h'=g∧∃td od,r= .agg [td,od]∧zcA 1 (yK ((yt t (zEh (zD0 c t o) n).1).map mkA)) td∧zcA 1 (yI (zA0 c t.length o.length (zEh (zD0 c t o) n).1)) od:=by
 have hra:=zNH hk hs (by omega) (by omega);obtain⟨td,od,a,b,e,p,rfl,ht,ho,hc⟩:=hk;have h6:=zUf;have hrl:∀r∈zD0 c t o,r≤1048576:=fun r hr'=>by
  rcases List.mem_append.1 hr' with q|q
  ·obtain⟨x,hx,rfl⟩:=List.mem_map.1 q;exact Nat.le_trans (hr x hx).1 (by omega)
  ·obtain⟨x,hx,rfl⟩:=List.mem_map.1 q;exact hs.ls.1
 have hlL:(zD0 c t o).length≤t.length+o.length∧t.length+o.length≤(zD0 c t o).length:=by simp[zD0]
 have hll:(zD0 c t o).length≤1048576:=by omega
 obtain⟨_,_,_,_,hce,hca,_,_,_⟩:=hc;cases hce;have l1:=zLW ht;have l2:=yV ho;refine zA.pure (by kernel_rfl) fun hok'=>zA.strip ?_;refine zA.post fun Q hQ=> ?_;generalize hLL:zD0 c t o=L at *
 obtain⟨G1,B,hG1,r1,E1,n1,hB⟩:∃G B,g.new g.next (.row [.nilsl, .nilsl])=G∧G.at' g.next=some (.row [.nilsl, .nilsl])∧Ext g G∧G.next=B∧g.next<B:=⟨_,_,rfl,zJ _ _ _,(Ext.refl g).new (Nat.le_refl _) _,rfl,by rw[zF];omega⟩;refine zA.of_fn (g:=zWM) mix Tryz.func38 zkM rfl rfl ?_;simp only[Tryz.f38,gJ]
 repeat' first|simp only[go_sem,zNe, *]|apply bc<;>intro hc
 refine(hra _).mono ?_;rintro r h ⟨hq,hf⟩;have hsl:=hf.isSl;have hnl:(zEM L).length=L.length:=by simp[zEM]
 have hlen:=zAp hsl;rw[hnl] at hlen;clear hra;have hmk:∀nid H,qM Tryz.prog true nid 31 (.int .i64 (L.length:Int)) (.int .i64 (L.length:Int)) H=some (.rs nid 1 0 L.length,H.new nid (.row (List.replicate L.length (.int .i64 0)))):=fun nid H=>by
  have hb:L.length*8≤lim:=by unfold lim;omega
  have hb2:L.length≤lim:=by unfold lim;omega
  simp only[qM,yM,zAd,wV,zG8,Int.toNat_natCast];rw[if_pos (by simp[D.notTuple,D.cells,hb,hb2])]
  have:∀m,zA7 m (D.int .i64 0).cells=List.replicate m (.int .i64 0):=fun m=>by
   unfold zA7;simp only[D.cells]
   induction m with
   |zero=>rfl
   |succ m ih=>rw[List.replicate_succ,List.flatten_cons,ih,List.replicate_succ];rfl
  simp only[if_true,this]
 obtain⟨G2,C,hG2,r2,E2,n2,hC⟩:∃G C,G1.new B (.row (List.replicate L.length (.int .i64 0)))=G∧G.at' B=some (.row (List.replicate L.length (.int .i64 0)))∧Ext G1 G∧G.next=C∧B<C:=⟨_,_,rfl,zJ _ _ _,(Ext.refl G1).new (by omega) _,rfl,by rw[←n1,zF];omega⟩
 repeat' first|simp only[go_sem,zNe, *]|apply bc<;>intro hc
 have hgn:∀cs,(G2.set B (.row cs)).next=G2.next:=fun cs=>rfl;refine yC (fun j fr h=>fr 2= .iptr [td,od,a,b,e,p] 0∧fr 4= .ptr g.next 0∧fr 5=r∧fr 6= .rs B 1 0 L.length∧fr 7= .int .i64 ((L.length:Int)-1-j)∧fr 1= .int .i64 (((zEh (L.drop (L.length-j)) n).2:Nat):Int)∧h=G2.set B (.row (List.replicate (L.length-j) (.int .i64 0)++dI (zEh (L.drop (L.length-j)) n).1))) L.length ?_ ?_
 ·have h0:D.int .i64 (n:Int)= .int .i64 (((zEh (L.drop (L.length-0)) n).2:Nat):Int)∧G2=G2.set B (.row (List.replicate (L.length-0) (.int .i64 0)++dI (zEh (L.drop (L.length-0)) n).1)):=by
   rw[Nat.sub_zero,List.drop_length];exact⟨rfl,by rw[show dI (zEh [] n).1= [] from rfl,List.append_nil,zBK r2]⟩
  have h1:IntKind.i64.wrap ((L.length:Int)-1)=(L.length:Int)-1- ((0:Nat):Int):=by rw[zZ (by omega) (by omega)];omega
  clear hmk;simp only[go_sem,zNe,true_and,and_true,Int.ofNat_zero];exact⟨congrArg (D.int .i64) h1,h0⟩
 ·rintro j fr h2 hj ⟨f2,f4,f5,f6,f7,f1,rfl⟩;by_cases hlt:j<L.length
  ·obtain⟨i,hi⟩:∃i,L.length=i+1+j:=⟨L.length-1-j,by omega⟩;have e1:((L.length:Int)-1- (j:Int))=(i:Int):=by omega
   rw[e1] at f7;have e2:decide ((i:Int)≥0)=true:=decide_eq_true (by omega);have e3:IntKind.i64.wrap ((i:Int)-1)=(L.length:Int)-1- ((j+1:Nat):Int):=by rw[zZ (by omega) (by omega)];omega
   have hiL:i<L.length:=by omega
   have a1:=zCk hsl (show i<(zEM L).length by omega);have hni:(zEM L)[i]'(by omega)=((L[i]:Nat):Int):=by simp[zEM]
   rw[hni] at a1;have hp:=hpos _ (List.getElem_mem hiL);have hd:zEh (L.drop (L.length- (j+1))) n=(((zEh (L.drop (L.length-j)) n).2%L[i])::(zEh (L.drop (L.length-j)) n).1,(zEh (L.drop (L.length-j)) n).2/L[i]):=by
    have:L.drop i=L[i]::L.drop (i+1):=List.drop_eq_getElem_cons hiL;rw[show L.length- (j+1)=i by omega,this,show L.length-j=i+1 by omega];rfl
   have hrs:L.length-j=i+1:=by omega
   have hrs2:L.length- (j+1)=i:=by omega
   have hm:=Nat.le_trans (zUg (L.drop (L.length-j)) n) hn;generalize L[i]=y at *
   generalize zEh (L.drop (L.length-j)) n=dd at *
   rw[hrs];have a3:=zx (P:=Tryz.prog) (sz:=1) (id:=B) yM wV (k:= .i64) hiL;rw[Nat.mul_one] at a3;have hrow2:(G2.set B (.row (List.replicate (i+1) (.int .i64 0)++dI dd.1))).at' B=some (.row (List.replicate (i+1) (.int .i64 0)++dI dd.1)):=zC _ _ _;have hst:=zT (P:=Tryz.prog) (t:=3) (off:=i) (x:= .int .i64 ((dd.2%y:Nat):Int)) hrow2 wV (by simp;omega) rfl rfl;rw[zW1,zDU] at hst;have b0:¬(y:Int)=0:=by omega
   have b1:(dd.2:Int).tmod (y:Int)=((dd.2%y:Nat):Int):=by rw[Int.tmod_eq_emod_of_nonneg (by omega)];rfl
   have b2:(dd.2:Int).tdiv (y:Int)=((dd.2/y:Nat):Int):=by rw[Int.tdiv_eq_ediv_of_nonneg (by omega)];rfl
   have b3:((y:Int)=0)=False:=by simp;omega
   have b4:IntKind.i64.wrap (((dd.2/y:Nat):Int))=((dd.2/y:Nat):Int):=by
    have:=Nat.div_le_self dd.2 y;generalize dd.2/y=q at this⊢;rw[zZ (by omega) (by omega)]
   have hrem:wZ .rem .i64 .i64 (dd.2:Int) (y:Int)=some (.int .i64 ((dd.2%y:Nat):Int)):=by simp only[wZ,zLn,if_true];rw[if_neg b0,b1]
   have hquo:wZ .quo .i64 .i64 (dd.2:Int) (y:Int)=some (.int .i64 ((dd.2/y:Nat):Int)):=by simp only[wZ,zLn,if_true];rw[if_neg b0,b2,b4]
   clear b0 b1 b2 b3 b4;have hres:G2.set B (.row (List.replicate i (.int .i64 0)++ .int .i64 ((dd.2%y:Nat):Int)::dI dd.1))=G2.set B (.row (List.replicate (L.length- (j+1)) (.int .i64 0)++dI (zEh (L.drop (L.length- (j+1))) n).1)):=by
    rw[hd,hrs2];rfl
   have hres2:((dd.2/y:Nat):Int)=(((zEh (L.drop (L.length- (j+1))) n).2:Nat):Int):=by rw[hd]
   clear hd hrs hrs2 hpos hp hr hrl hni hsl ht ho hmk hQ hm hi hj
   repeat' first|simp only[go_sem,zNe, *]|apply bc<;>intro hc
   refine zQ (by kernel_rfl) ?_
   repeat' first|simp only[go_sem,zNe, *]|apply bc<;>intro hc
  ·have hje:j=L.length:=by omega
   subst hje;have e1:((L.length:Int)-1- ((L.length:Nat):Int))= -1:=by omega
   rw[e1] at f7;have e2:decide ((-1:Int)≥0)=false:=rfl;have hd0:L.drop (L.length-L.length)=L:=by rw[Nat.sub_self,List.drop_zero]
   have hr0:List.replicate (L.length-L.length) (D.int .i64 0)= []:=by rw[Nat.sub_self];rfl
   rw[hd0,hr0,List.nil_append];clear f1 hd0 hr0 hj hlt e1;have hdl:(zEh L n).1.length=L.length:=zQd L n;have hdlt:=fun i (hi:i<L.length)=>zOs (n:=n) hpos i hi;generalize(zEh L n).1=ds at *
   have r3:(G2.set B (.row (dI ds))).at' B=some (.row (dI ds)):=zC _ _ _;have hn3:(G2.set B (.row (dI ds))).next=C:=n2;have E3:Ext g (G2.set B (.row (dI ds))):=(E1.trans E2).set (by omega) _;have rA:(G2.set B (.row (dI ds))).at' g.next=some (.row [.nilsl, .nilsl]):=by rw[zE (by omega),E2.2 _ (by omega)];exact r1
   clear hgn hnl hll r2 hG2 hmk hG1;generalize G2.set B (.row (dI ds))=G3 at *
   clear r1 E1 E2 n1 n2;obtain⟨G4,hG4,r4,E4,n4⟩:∃G,G3.new C (.row [.nilsl, .nilsl])=G∧G.at' C=some (.row [.nilsl, .nilsl])∧Ext G3 G∧C<G.next:=⟨_,rfl,zJ _ _ _,(Ext.refl G3).new (by omega) _,by rw[←hn3,zF];omega⟩;have hd6:∀i,i<L.length→(dI ds)[i]? =some (.int .i64 ((ds.getD i 0:Nat):Int)):=fun i hi=>by simp[dI,show i<ds.length by omega]
   repeat' first|simp only[go_sem,zNe, *]|apply bc<;>intro hc
   have hct:(yt t ds).length=t.length:=by simp[yt]
   have hget:∀i (hi:i<t.length),(yt t ds).take (i+1)=(yt t ds).take i++ [t[i].getD (ds.getD i 0) []]:=fun i hi=>by
    rw[List.take_succ_eq_append_getElem (by rw[hct];exact hi)];simp[yt,hi]
   have hLt:∀i (hi:i<t.length),ds.getD i 0<t[i].length:=fun i hi=>by
    have:=hdlt i (by omega);have e:L[i]'(by omega)=t[i].length:=by
     simp only[←hLL,zD0];rw[List.getElem_append_left (by simpa using hi),List.getElem_map]
    rwa [e] at this
   have hnx:∀h:Heap,Ext G3 h→h.at' B=some (.row (dI ds)):=fun h he=>by rw[he.2 _ (by omega)];exact r3
   refine zH (fun i fr h=>∃s,fr 2= .iptr [td,od,a,b,e,p] 0∧fr 4= .ptr g.next 0∧fr 6= .rs B 1 0 L.length∧fr 8= .ptr C 0∧fr 40=td∧fr 41= .int .i64 (t.length:Int)∧fr 42= .int .i64 (i:Int)∧Own G3 h 1 (yK (((yt t ds).take i).map mkA)) s∧h.at' C=some (.row [s, .nilsl])∧C<h.next∧(i=0→s= .nilsl)) t.length (by omega) ?_ ?_ ?_
   ·have h0:=Own.start E4 1;simp only[go_sem,zNe,true_and,and_true,Int.ofNat_zero];exact⟨.nilsl,f2,f4,f6,h0,r4,n4,rfl⟩
   ·rintro i fr h2 hlt ec ew ⟨s,f2,f4,f6,f8,f40,f41,f42,hown,hrC,hnC,hz⟩;have a1:=zOp ht hlt;have hx:=hr _ (List.getElem_mem hlt);have hdi:=hLt i hlt;have hrB:=hnx h2 hown.1;have hiL:i<L.length:=by omega
    have a2:=zx (P:=Tryz.prog) (sz:=1) (id:=B) yM wV (k:= .i64) hiL;rw[Nat.mul_one] at a2;have c2:=hd6 i hiL;have a3:=zDX (l:=t[i].map mkA) (d:=zNg t[i]) (za.mk .no) (i:=ds.getD i 0) (by rw[List.length_map];exact hdi);rw[List.getElem_map] at a3;rw[hget i hlt];have hgd:t[i].getD (ds.getD i 0) []=t[i][ds.getD i 0]:=by rw[List.getD_eq_getElem?_getD (l:=t[i]),List.getElem?_eq_getElem hdi];rfl
    rw[hgd];obtain⟨k1,k2⟩:=hx.2.ts _ (List.getElem_mem hdi);have had:(zNg t[i]).notTuple=true:=rfl;generalize t[i][ds.getD i 0]=ts at *
    generalize zNg t[i]=x at *
    generalize ds.getD i 0=di at *
    have hcl:=zUh k1 (by omega);have hone:=fun nid h=>zEa (mkA ts).d nid h rfl rfl rfl;have hcl2:(yt t ds).take i=(yt t ds).take i:=rfl;have hpl:((yt t ds).take i).length=i:=by rw[List.length_take];omega
    generalize(yt t ds).take i=pre at *
    obtain⟨w1,w2,w3⟩:=hown.flat;clear hQ hget hLt hr hdlt hd6 hgd hnx hcl2 hz
    repeat' first|simp only[go_sem,zNe, *]|apply bc<;>intro hc
    refine z8 h2 [(0, .no,true),(1, .st,true),(2, .no,true),(3, .no,true),(4, .no,true),(5, .no,true),(6, .no,true),(7, .no,true),(8, .no,true),(9, .no,true),(10, .no,true),(11, .no,false),(12, .no,false),(13, .no,false)] (by kernel_rfl) (by kernel_rfl) (fun _ _ e=>e) ?_
    repeat' first|simp only[go_sem,zNe, *]|apply bc<;>intro hc|(refine zA.mono (hcl _) ?_;rintro r h ⟨hq,rfl⟩)
    subst hq;refine hown.appK (ys:=yK [mkA ts]) wW zER zBk (by omega) (zDr _) (by simp[yK]) (by rw[yP,List.length_map,hpl,zBl];unfold lim;simp[yK];omega) (by rw[yP,List.length_map,hpl];unfold lim;simp[yK];omega) fun d' h' ho' hn' hk'=> ?_;have hrC':h'.at' C=some (.row [s, .nilsl]):=by rw[hk' C hnC (by rw[hrC];intro q;cases q)];exact hrC
    obtain⟨v1,v2,v3⟩:=ho'.flat;have hst:=zT (P:=Tryz.prog) (t:=39) (off:=0) (x:=d') hrC' zJk (by simp) v2 v1;rw[List.set_cons_zero] at hst;have hres:Own G3 (h'.set C (.row [d', .nilsl])) 1 (yK ((pre++ [ts]).map mkA)) d':=by
     have:yK ((pre++ [ts]).map mkA)=yK (pre.map mkA)++yK [mkA ts]:=by simp[yK]
     rw[this];exact ho'.setK (by omega) hrC' (fun q=>by cases q) _
    have hres2:(h'.set C (.row [d', .nilsl])).at' C=some (.row [d', .nilsl]):=zC _ _ _;have hres3:C<(h'.set C (.row [d', .nilsl])).next:=Nat.lt_of_lt_of_le hnC hn';generalize h'.set C (.row [d', .nilsl])=h5 at *
    clear ho' hown hk'
    repeat' first|simp only[go_sem,zNe, *]|apply bc<;>intro hc
    exact⟨d',hres,rfl⟩
   ·rintro fr h2 ec ⟨s,f2,f4,f6,f8,f40,f41,f42,hown,hrC,hnC,hz⟩;have htk:(yt t ds).take t.length=yt t ds:=by rw[←hct,List.take_length]
    rw[htk] at hown;have hco:(zA0 c t.length o.length ds).length=o.length:=by simp[zA0]
    have hLo:∀i (hi:i<o.length),ds.getD (t.length+i) 0<c.ls.length:=fun i hi=>by
     have:=hdlt (t.length+i) (by omega);have e:L[t.length+i]'(by omega)=c.ls.length:=by
      simp only[←hLL,zD0];rw[List.getElem_append_right (by simp),List.getElem_map]
     rwa [e] at this
    have hget2:∀i (hi:i<o.length),(zA0 c t.length o.length ds).take (i+1)=(zA0 c t.length o.length ds).take i++ [(c.ls[ds.getD (t.length+i) 0]'(hLo i hi)).name]:=fun i hi=>by
     rw[List.take_succ_eq_append_getElem (by rw[hco];exact hi)];congr 2;simp only[zA0,List.getElem_map,List.getElem_range];rw[List.getD_eq_getElem?_getD,List.getElem?_map,List.getElem?_eq_getElem (hLo i hi)];rfl
    have hown2:Own2 G3 h2 1 (yK ((yt t ds).map mkA)) s 1 (yI []) .nilsl:=⟨hown,⟨hown.1, .inl ⟨rfl,rfl⟩,fun i q=>q.elim⟩,fun i _ q=>q.elim⟩;have htl2:=hct;clear htk hget hown hLt hr hdlt hct;generalize yt t ds=T at *
    repeat' first|simp only[go_sem,zNe, *]|apply bc<;>intro hc
    refine zH (fun i fr h=>∃s2,fr 2= .iptr [td,od,a,b,e,p] 0∧fr 4= .ptr g.next 0∧fr 6= .rs B 1 0 L.length∧fr 8= .ptr C 0∧fr 62=od∧fr 63= .int .i64 (o.length:Int)∧fr 64= .int .i64 (i:Int)∧Own2 G3 h 1 (yK (T.map mkA)) s 1 (yI ((zA0 c t.length o.length ds).take i)) s2∧h.at' C=some (.row [s,s2])∧C<h.next∧(i=0→s2= .nilsl)) o.length (by omega) ?_ ?_ ?_
    ·simp only[go_sem,zNe,true_and,and_true,Int.ofNat_zero];exact⟨.nilsl,f2,f4,f6,f8,hown2,hrC,hnC,rfl⟩
    ·clear hown2 hrC hnC;rintro i fr h2 hlt ec ew ⟨s2,f2,f4,f6,f8,f62,f63,f64,hown,hrC,hnC,hz2⟩;have hdi:=hLo i hlt;have hrB:=hnx h2 hown.a.1;have hiL:t.length+i<L.length:=by omega
     have ew3:IntKind.i64.wrap (((t.length:Nat):Int)+((i:Nat):Int))=((t.length+i:Nat):Int):=by rw[zZ (by omega) (by omega)];omega
     have a2:=zx (P:=Tryz.prog) (sz:=1) (id:=B) yM wV (k:= .i64) hiL;rw[Nat.mul_one] at a2;have c2:=hd6 _ hiL;have a3:=zAC hca hdi;rw[hget2 i hlt];generalize c.ls[ds.getD (t.length+i) 0]=x at *
     generalize ds.getD (t.length+i) 0=di at *
     simp only[Lic.cells] at a3;have hpl:((zA0 c t.length o.length ds).take i).length=i:=by rw[List.length_take];omega
     generalize(zA0 c t.length o.length ds).take i=pre at *
     obtain⟨w1,w2,w3⟩:=hown.b.flat;have hone:=zCj x.name;have hpl2:pre.length≤i:=by omega
     clear hQ hget2 hLo hd6 hnx hpl hz hz2
     repeat' first|simp only[go_sem,zNe, *]|apply bc<;>intro hc
     refine zQ (by kernel_rfl) ?_
     repeat' first|simp only[go_sem,zNe, *]|apply bc<;>intro hc
     refine hown.swap.appK (zs:=yI [x.name]) yq zGS zAe (by omega) zHD (by simp[yI]) (by rw[zp,zAo];unfold lim;simp[yI];omega) (by rw[zp];unfold lim;simp[yI];omega) fun d' h' ho' hn' hk'=> ?_;have hrC':h'.at' C=some (.row [s,s2]):=by rw[hk' C hnC (by rw[hrC];intro q;cases q)];exact hrC
     obtain⟨v1,v2,v3⟩:=ho'.a.flat;have hst:=zT (P:=Tryz.prog) (t:=40) (off:=1) (x:=d') hrC' zPT (by simp) v2 v1;rw[List.set_cons_succ,List.set_cons_zero] at hst;have hres:Own2 G3 (h'.set C (.row [s,d'])) 1 (yK (T.map mkA)) s 1 (yI (pre++ [x.name])) d':=by
      have:yI (pre++ [x.name])=yI pre++yI [x.name]:=by simp[yI]
      rw[this];exact ho'.swap.setK (by omega) hrC' (fun q=>by cases q) _
     have hres2:(h'.set C (.row [s,d'])).at' C=some (.row [s,d']):=zC _ _ _;have hres3:C<(h'.set C (.row [s,d'])).next:=Nat.lt_of_lt_of_le hnC hn';generalize h'.set C (.row [s,d'])=h5 at *
     clear ho' hown hk'
     repeat' first|simp only[go_sem,zNe, *]|apply bc<;>intro hc
     exact⟨d',hres,rfl⟩
    ·clear hown2 hrC hnC;rintro fr h2 ec ⟨s2,f2,f4,f6,f8,f62,f63,f64,hown,hrC,hnC,hz2⟩;have htk:(zA0 c t.length o.length ds).take o.length=zA0 c t.length o.length ds:=List.take_of_length_le (by omega);rw[htk] at hown;have hrA2:h2.at' g.next=some (.row [.nilsl, .nilsl]):=by rw[hown.a.1.2 _ (by omega)];exact rA
     obtain⟨v1,v2,v3⟩:=hown.a.flat;obtain⟨w1,w2,w3⟩:=hown.b.flat;have hst:zW Tryz.prog 42 (.ptr g.next 0) (.agg [s,s2]) h2=some (h2.set g.next (.row [s,s2])):=yg hrA2 zJl rfl (by simp) (by simp[v1,w1]);have hv2:∀a b:D,zS true 2 [a,b] 0=some (.agg [a,b]):=fun a b=>zB rfl (by omega);have hf1:=hown.a.2.1.fin (zLT T);have hf2:=hown.b.2.1.fin (qT (l:=zA0 c t.length o.length ds));have hq:=hQ (.agg [s,s2]) (h2.set g.next (.row [s,s2])) ⟨(E3.trans hown.a.1).set (Nat.le_refl _) _,by
      simp only[yJ,yE,below,zg];exact⟨z6 (Nat.zero_le _) _ hf1.1,z6 (Nat.zero_le _) _ hf2.1,trivial⟩,yJ s,yJ s2,by simp only[yJ,yE],⟨hf1.2,fun q=>by
       have e:T= []:=by cases T with
        |nil=>rfl
        |cons x xs=>cases q
       have:s= .nilsl:=hz (by rw[←htl2,e];rfl);rw[this];rfl⟩,⟨hf2.2,fun q=>by
       have e:zA0 c t.length o.length ds= []:=List.map_eq_nil_iff.1 q
       have:s2= .nilsl:=hz2 (by rw[←hco,e];rfl);rw[this];rfl⟩⟩
     have hat:=zC h2 g.next (.row [s,s2]);clear hQ hown hf1 hf2 hget2 hLo hd6 hnx hz hz2
     repeat' first|simp only[go_sem,zNe, *]|apply bc<;>intro hc
theorem zFW {c:Cat} :∀ {l:List Fac} {t:List (List (List Trm))} {o:List (List UInt8)},(zEL c l t o).1.length≤t.length+l.length∧(zEL c l t o).2.1.length≤o.length+l.length
 | [],t,o=>by rw[zEL];simp
 |f::fs,t,o=>by
  rw[zEL];split
  ·split
   ·have:=zFW (c:=c) (l:=fs) (t:=t++ [ofL c f.e]) (o:=o);simp only[List.length_append,List.length_cons,List.length_nil] at this⊢;omega
   ·simp
  ·split
   ·split
    ·have:=zFW (c:=c) (l:=fs) (t:=t) (o:=o);simp only[List.length_cons];omega
    ·have:=zFW (c:=c) (l:=fs) (t:=t) (o:=o++ [f.out]);simp only[List.length_append,List.length_cons,List.length_nil] at this⊢;omega
   ·have:=zFW (c:=c) (l:=fs) (t:=t) (o:=o);simp only[List.length_cons];omega
theorem zDs {c:Cat} {l:List Fac} :(zG c l).1.length≤l.length∧(zG c l).2.1.length≤l.length:=by
 unfold zG;split
 ·simp
 ·have:=zFW (c:=c) (l:=l) (t:=[]) (o:=[]);simpa using this
def zLa (c:Cat) (l:List Fac):Nat:=zYZ (zD0 c (zG c l).1 (zG c l).2.1)
def zAG (c:Cat) (l:List Fac):Int:=if(!((zG c l).2.2==0))=true then(zG c l).2.2 else if decide ((zLa c l:Int)>4096)=true then 10 else 0
abbrev zLs:List D:=[.nilsl, .nilsl, .nilsl, .nilsl, .nilsl, .nilsl]
theorem zOt {c:Cat} {a b e p:D} (h:qg c (.agg [a,b,e,p])):(a.flat=true∧b.flat=true)∧e.flat=true∧p.flat=true:=by
 obtain⟨_,_,_,_,hce,ha,hb,he,hp⟩:=h;cases hce;exact⟨⟨(zN ha).2.2,(zN hb).2.2⟩,(zN he).2.2,(zN hp).2.2⟩
theorem zUi {c:Cat} {a b e p:D} (h:qg c (.agg [a,b,e,p])):(a.cells= [a]∧b.cells= [b])∧e.cells= [e]∧p.cells= [p]:=by
 obtain⟨_,_,_,_,hce,ha,hb,he,hp⟩:=h;cases hce;exact⟨⟨(zN ha).1,(zN hb).1⟩,(zN he).1,(zN hp).1⟩
set_option maxHeartbeats 4000000 in
theorem zNI {c:Cat} {d x:D} (hc:qg c d) (hs:c.Sm) {l:List Fac} (hx:za 12 (zCz l) x) (hl:l.length≤65536) (hok:∀f∈l,f.Ok) (g:Heap):
  zA Tryz.prog 36 [d,x] g fun r h'=>Ext g h'∧∃cs,r= .tuple [.agg cs, .int .i64 (zAG c l)]∧(cs.length=6∧cs.all D.flat=true)∧(zAG c l=0→zLZ c (zG c l).1 (zG c l).2.1 cs):=by
 have hva:=zHK hc hs hx (by omega) hok;obtain⟨vl1,vl2⟩:=zDs (c:=c) (l:=l);have hto:=fun cs (hk:zLZ c (zG c l).1 (zG c l).2.1 cs)=>zOr hk hs (by omega) (by omega) fun a ha=>Nat.le_trans (zBt a ha).1 (by omega);have hcd:=hc;obtain⟨ca,cb,ce,cp,rfl,_,_,_,_⟩:=hc;obtain⟨⟨F1,F2⟩,F3,F4⟩:=zOt hcd;obtain⟨⟨D1,D2⟩,D3,D4⟩:=zUi hcd;have hv4:∀a b c e:D,zS true 4 [a,b,c,e] 0=some (.agg [a,b,c,e]):=fun a b c e=>zB rfl (by omega);have h6:=zUf;refine zA.post fun Q hQ=> ?_;have hb0:yN Tryz.prog 95 []=some (.agg zLs):=by simp[yN,zJm,zPU,qj,D.notTuple,D.cells]
 obtain⟨G,hG,r0,E0,n0⟩:∃G,g.new g.next (.row zLs)=G∧G.at' g.next=some (.row zLs)∧Ext g G∧g.next<G.next:=⟨_,rfl,zJ _ _ _,(Ext.refl g).new (Nat.le_refl _) _,by rw[zF];omega⟩;have hst0:∀cs:List D,cs.length=6→cs.all D.flat=true→zW Tryz.prog 95 (.ptr g.next 0) (.agg cs) G=some (G.set g.next (.row cs)):=fun cs h1 h2=>yg r0 (by rw[zGV,h1]) (by rw[h1];rfl) (by omega) h2;refine zA.of_fn (g:=zWB) mix Tryz.func36 zj8 rfl rfl ?_;simp only[Tryz.f36,gJ]
 repeat' first|simp only[go_sem,zgH, *]|apply bc<;>intro hc
 refine(hva _).mono ?_;rintro r h ⟨hq,td,od,rfl,htd,hod⟩;clear hva;cases q1:((zG c l).2.2==0) with
 |false=>
  have hR:zAG c l=(zG c l).2.2:=by unfold zAG;rw[q1];rfl
  have hst:=hst0 zLs rfl rfl;have hat:=zC G g.next (.row zLs);have hq0:=hQ (.tuple [.agg zLs, .int .i64 (zG c l).2.2]) (G.set g.next (.row zLs)) ⟨E0.set (Nat.le_refl _) _,zLs,by rw[hR],⟨rfl,rfl⟩,fun e=>by rw[hR] at e;rw[e] at q1;exact absurd q1 (by decide)⟩;clear hQ hR hto hst0
  repeat' first|simp only[go_sem,zgH, *]|apply bc<;>intro hc
 |true=>
 have hbu:yN Tryz.prog 95 [(0,td),(1,od),(2, .agg [ca,cb,ce,cp])]=some (.agg [td,od,ca,cb,ce,cp]):=by
  rcases htd.isSl with⟨rfl,_⟩ | ⟨_,rfl⟩ <;>rcases hod.isSl with⟨rfl,_⟩ | ⟨_,rfl⟩ <;>simp[yN,zJm,zPU,qj,yj,D.cells,D.notTuple]
 have hk:zLZ c (zG c l).1 (zG c l).2.1 [td,od,ca,cb,ce,cp]:=⟨_,_,_,_,_,_,rfl,htd.isSl,hod.isSl,hcd⟩;have hto2:=hto _ hk;have hfl:([td,od,ca,cb,ce,cp]:List D).all D.flat=true:=by simp[(zN htd.isSl).2.2,(zN hod.isSl).2.2,F1,F2,F3,F4]
 have hstN:zW Tryz.prog 95 (.ptr G.next 0) (.agg [td,od,ca,cb,ce,cp]) (G.new G.next (.row zLs))=some (G.new G.next (.row [td,od,ca,cb,ce,cp])):=zh zGV (by omega) rfl rfl hfl;obtain⟨H,hH,r1,E1,n1,rA⟩:∃H,G.new G.next (.row [td,od,ca,cb,ce,cp])=H∧H.at' G.next=some (.row [td,od,ca,cb,ce,cp])∧Ext G H∧g.next<H.next∧H.at' g.next=some (.row zLs):=⟨_,rfl,zJ _ _ _,(Ext.refl G).new (Nat.le_refl _) _,by rw[zF];omega,by rw[zD (by omega)];exact r0⟩;have hTot:zYZ (zD0 c (zG c l).1 (zG c l).2.1)=zLa c l:=rfl;rw[hTot] at hto2;clear hto hst0;cases q2:decide ((zLa c l:Int)>4096) with
 |true=>
  have hR:zAG c l=10:=by unfold zAG;rw[q1,q2];rfl
  have hst:zW Tryz.prog 95 (.ptr g.next 0) (.agg zLs) H=some (H.set g.next (.row zLs)):=yg rA zGV rfl (by decide) rfl;have hat:=zC H g.next (.row zLs);have hq0:=hQ (.tuple [.agg zLs, .int .i64 10]) (H.set g.next (.row zLs)) ⟨(E0.trans E1).set (Nat.le_refl _) _,zLs,by rw[hR],⟨rfl,rfl⟩,fun e=>by rw[hR] at e;exact absurd e (by decide)⟩;clear hQ hR hk hTot
  repeat' first|simp only[go_sem,zgH, *]|apply bc<;>intro hc|(refine zA.mono (hto2 _) ?_;rintro r h ⟨hq2,rfl⟩)
 |false=>
  have hR:zAG c l=0:=by unfold zAG;rw[q1,q2];rfl
  have hst:zW Tryz.prog 95 (.ptr g.next 0) (.agg [td,od,ca,cb,ce,cp]) H=some (H.set g.next (.row [td,od,ca,cb,ce,cp])):=yg rA zGV rfl (by simp) hfl;have hat:=zC H g.next (.row [td,od,ca,cb,ce,cp]);have hq0:=hQ (.tuple [.agg [td,od,ca,cb,ce,cp], .int .i64 0]) (H.set g.next (.row [td,od,ca,cb,ce,cp])) ⟨(E0.trans E1).set (Nat.le_refl _) _,_,by rw[hR],⟨rfl,hfl⟩,fun _=>hk⟩;clear hQ hR hk hTot
  repeat' first|simp only[go_sem,zgH, *]|apply bc<;>intro hc|(refine zA.mono (hto2 _) ?_;rintro r h ⟨hq2,rfl⟩)
def zNJ (c:Cat) (l:List Fac):D:=if(zAG c l==0)=true then .tuple [.int .i64 (zLa c l:Int), .int .i64 0] else .tuple [.int .i64 0, .int .i64 (zAG c l)]
set_option maxHeartbeats 4000000 in
theorem zam {c:Cat} {d x:D} (hc:qg c d) (hs:c.Sm) {l:List Fac} (hx:za 12 (zCz l) x) (hl:l.length≤65536) (hok:∀f∈l,f.Ok) (g:Heap):
  zA Tryz.prog 10 [d,x] g fun r h'=>h'=g∧r=zNJ c l:=by
 have hcn:=zNI hc hs hx hl hok;obtain⟨vl1,vl2⟩:=zDs (c:=c) (l:=l);have hto:=fun cs (hk:zLZ c (zG c l).1 (zG c l).2.1 cs)=>zOr hk hs (by omega) (by omega) fun a ha=>Nat.le_trans (zBt a ha).1 (by omega);have hTot:zYZ (zD0 c (zG c l).1 (zG c l).2.1)=zLa c l:=rfl;rw[hTot] at hto;clear hTot;obtain⟨ca,cb,ce,cp,rfl,_,_,_,_⟩:=hc;have hv4:∀a b c e:D,zS true 4 [a,b,c,e] 0=some (.agg [a,b,c,e]):=fun a b c e=>zB rfl (by omega);refine zA.pure (by kernel_rfl) fun hok'=> ?_;refine zA.post fun Q hQ=> ?_;have hQ2:∀h',Ext g h'→Q (zNJ c l) h':=fun h' he=>hQ _ _ ⟨he,by unfold zNJ;split<;>simp[below,zg],rfl⟩
 clear hQ;unfold zNJ at hQ2;refine zA.of_fn (g:=zZh) mix Tryz.func10 zkr rfl rfl ?_;simp only[Tryz.f10,gJ]
 repeat' first|simp only[go_sem,zhY, *]|apply bc<;>intro hc
 refine(hcn _).mono ?_;rintro r h ⟨hE,cs,rfl,⟨c6,cf⟩,hk⟩;clear hcn;have hstN:zW Tryz.prog 95 (.ptr h.next 0) (.agg cs) (h.new h.next (.row zLs))=some (h.new h.next (.row cs)):=zh zGV (by omega) rfl c6 cf;obtain⟨H,hH,r1,E1⟩:∃H,h.new h.next (.row cs)=H∧H.at' h.next=some (.row cs)∧Ext h H:=⟨_,rfl,zJ _ _ _,(Ext.refl h).new (Nat.le_refl _) _⟩;have hq:=hQ2 H (hE.trans E1);have hld:zBD Tryz.prog 95 (.ptr h.next 0) H=some (.agg cs):=zDJ r1 zXd (by rw[zGV,c6]) (by omega);have hvp:zS true 6 cs 0=some (.agg cs):=zB c6 (by omega);clear hQ2;cases q1:(zAG c l==0) with
 |false=>
  rw[if_neg (by rw[q1];exact Bool.false_ne_true)] at hq;clear hk hto
  repeat' first|simp only[go_sem,zhY, *]|apply bc<;>intro hc
 |true=>
  rw[if_pos q1] at hq;have ht:=hto cs (hk (by simpa using q1));clear hk hto
  repeat' first|simp only[go_sem,zhY, *]|apply bc<;>intro hc|(refine zA.mono (ht _) ?_;rintro r h ⟨rfl,rfl⟩)
def zC0 (c:Cat) (l:List Fac) (n:Int):Int:=if(!(zAG c l==0))=true then zAG c l else if(decide (n<0)||decide (n≥(zLa c l:Int)))=true then 3 else 0
def zW3 (c:Cat) (l:List Fac) (n:Nat):List (List Trm):=yt (zG c l).1 (zEh (zD0 c (zG c l).1 (zG c l).2.1) n).1
def zW4 (c:Cat) (l:List Fac) (n:Nat):List (List UInt8):=zA0 c (zG c l).1.length (zG c l).2.1.length (zEh (zD0 c (zG c l).1 (zG c l).2.1) n).1
theorem zfL {c:Cat} {l:List Fac} (h:zAG c l=0):zLa c l≤4096:=by
 unfold zAG at h;split at h
 ·rename_i q;rw[h] at q;exact absurd q (by decide)
 ·split at h
  ·exact absurd h (by decide)
  ·rename_i q;simp at q;omega
theorem zQe {l:List Nat} {n:Nat} (h:n<zYZ l):∀r∈l,0<r:=fun r hr=>by
 unfold zYZ at h;split at h
 ·omega
 ·rename_i q;rcases Nat.eq_zero_or_pos r with e|e
  ·subst e;exact absurd (List.any_eq_true.2 ⟨0,hr,rfl⟩) q
  ·exact e
set_option maxHeartbeats 4000000 in
theorem zi5 {c:Cat} {d x:D} (hc:qg c d) (hs:c.Sm) {l:List Fac} (hx:za 12 (zCz l) x) (hl:l.length≤65536) (hok:∀f∈l,f.Ok) (n:Int) (g:Heap):
  zA Tryz.prog 11 [d,x, .int .i64 n] g fun r h'=>h'=g∧∃td od,r= .tuple [.agg [td,od], .int .i64 (zC0 c l n)]∧(zC0 c l n=0→zcA 1 (yK ((zW3 c l n.toNat).map mkA)) td∧zcA 1 (yI (zW4 c l n.toNat)) od)∧(zC0 c l n≠0→td= .nilsl∧od= .nilsl):=by
 have hcn:=zNI hc hs hx hl hok;obtain⟨vl1,vl2⟩:=zDs (c:=c) (l:=l);have hto:=fun cs (hk:zLZ c (zG c l).1 (zG c l).2.1 cs)=>zOr hk hs (by omega) (by omega) fun a ha=>Nat.le_trans (zBt a ha).1 (by omega);have hTot:zYZ (zD0 c (zG c l).1 (zG c l).2.1)=zLa c l:=rfl;rw[hTot] at hto;have hch:=fun cs (hk:zLZ c (zG c l).1 (zG c l).2.1 cs) (m:Nat) (hm:m<zLa c l) (hm2:m≤1048576)=>zW2 hk hs (by omega) (by omega) zBt (zQe hm) hm2;obtain⟨ca,cb,ce,cp,rfl,_,_,_,_⟩:=hc;have hv4:∀a b c e:D,zS true 4 [a,b,c,e] 0=some (.agg [a,b,c,e]):=fun a b c e=>zB rfl (by omega)
 have hv2:∀a b:D,zS true 2 [a,b] 0=some (.agg [a,b]):=fun a b=>zB rfl (by omega);refine zA.pure (by kernel_rfl) fun hok'=> ?_;refine zA.post fun Q hQ=> ?_;obtain⟨E,hE⟩:∃E,zC0 c l n=E:=⟨_,rfl⟩;rw[hE] at hQ;unfold zC0 at hE;have hb0:yN Tryz.prog 42 []=some (.agg [.nilsl, .nilsl]):=by simp[yN,zQ9,zVm,qj,D.notTuple,D.cells]
 obtain⟨G,hG,r0,E0,n0⟩:∃G,g.new g.next (.row [.nilsl, .nilsl])=G∧G.at' g.next=some (.row [.nilsl, .nilsl])∧Ext g G∧g.next<G.next:=⟨_,rfl,zJ _ _ _,(Ext.refl g).new (Nat.le_refl _) _,by rw[zF];omega⟩;refine zA.of_fn (g:=zV3) mix Tryz.func11 zjz rfl rfl ?_;simp only[Tryz.f11,gJ]
 repeat' first|simp only[go_sem,zbs, *]|apply bc<;>intro hc
 refine(hcn _).mono ?_;rintro r h ⟨hX,cs,rfl,⟨c6,cf⟩,hk⟩;clear hcn;have hstN:zW Tryz.prog 95 (.ptr h.next 0) (.agg cs) (h.new h.next (.row zLs))=some (h.new h.next (.row cs)):=zh zGV (by omega) rfl c6 cf;obtain⟨H,hH,r1,E1,rA⟩:∃H,h.new h.next (.row cs)=H∧H.at' h.next=some (.row cs)∧Ext h H∧H.at' g.next=some (.row [.nilsl, .nilsl]):=⟨_,rfl,zJ _ _ _,(Ext.refl h).new (Nat.le_refl _) _,by have:=hX.1;rw[zD (by omega),hX.2 _ n0];exact r0⟩;have hld:zBD Tryz.prog 95 (.ptr h.next 0) H=some (.agg cs):=zDJ r1 zXd (by rw[zGV,c6]) (by omega);have hvp:zS true 6 cs 0=some (.agg cs):=zB c6 (by omega)
 have EH:Ext g H:=(E0.trans hX).trans E1;have hst0:zW Tryz.prog 42 (.ptr g.next 0) (.agg [.nilsl, .nilsl]) H=some (H.set g.next (.row [.nilsl, .nilsl])):=yg rA zJl rfl (by simp) rfl;have hat:=zC H g.next (.row [.nilsl, .nilsl]);have hQe:E≠0→Q (.tuple [.agg [.nilsl, .nilsl], .int .i64 E]) (H.set g.next (.row [.nilsl, .nilsl])):=fun he=>hQ _ _ ⟨EH.set (Nat.le_refl _) _,by simp[below,zg], .nilsl, .nilsl,rfl,fun e=>absurd e he,fun _=>⟨rfl,rfl⟩⟩;cases q1:(zAG c l==0) with
 |false=>
  rw[if_pos (by rw[q1];rfl)] at hE;have hq:=hQe (by rw[←hE];simpa using q1);rw[←hE] at hq;clear hQ hQe hk hto hch hE
  repeat' first|simp only[go_sem,zbs, *]|apply bc<;>intro hc
 |true=>
  rw[if_neg (by rw[q1];decide)] at hE;have hkk:=hk (by simpa using q1);have ht:=hto cs hkk;clear hk hto;cases q2:decide (n<0) with
  |true=>
   rw[if_pos (by rw[q2];rfl)] at hE;have hq:=hQe (by rw[←hE];decide);rw[←hE] at hq;clear hQ hQe hch hkk hE
   repeat' first|simp only[go_sem,zbs, *]|apply bc<;>intro hc|(refine zA.mono (ht _) ?_;rintro r h ⟨hq2,rfl⟩)
  |false=>
  cases q3:decide (n≥(zLa c l:Int)) with
  |true=>
   rw[if_pos (by rw[q2,q3];rfl)] at hE;have hq:=hQe (by rw[←hE];decide);rw[←hE] at hq;clear hQ hQe hch hkk hE
   repeat' first|simp only[go_sem,zbs, *]|apply bc<;>intro hc|(refine zA.mono (ht _) ?_;rintro r h ⟨hq2,rfl⟩)
  |false=>
   rw[if_neg (by rw[q2,q3];decide)] at hE;subst hE;have h0:0≤n:=by have:=of_decide_eq_false q2;omega
   have h1:n<(zLa c l:Int):=by have:=of_decide_eq_false q3;omega
   obtain⟨m,rfl⟩:=Int.eq_ofNat_of_zero_le h0;have hcm:=hch cs hkk m (by omega) (by have:=zfL (c:=c) (l:=l) (by simpa using q1);omega);clear hch hkk hQe
   repeat' first|simp only[go_sem,zbs, *]|apply bc<;>intro hc|(refine zA.mono (ht _) ?_;rintro r h ⟨hq2,rfl⟩)
   refine(hcm _).mono ?_;rintro r h3 ⟨hq3,td,od,rfl,htd,hod⟩;have hst:zW Tryz.prog 42 (.ptr g.next 0) (.agg [td,od]) H=some (H.set g.next (.row [td,od])):=yg rA zJl rfl (by simp) (by simp[(zN htd.1.isSl).2.2,(zN hod.1.isSl).2.2]);have hat2:=zC H g.next (.row [td,od]);have hb1:below g.next td:=by
    rcases htd.1 with⟨rfl,_⟩ |rfl
    ·trivial
    ·exact z6 (Nat.zero_le _) _ (zF9 _).2
   have hb2:below g.next od:=by
    rcases hod.1 with⟨rfl,_⟩ |rfl
    ·trivial
    ·exact z6 (Nat.zero_le _) _ (yh (sz:=1) (xs:=yI (zW4 c l m)) qT .no).2
   have hq:=hQ (.tuple [.agg [td,od], .int .i64 0]) (H.set g.next (.row [td,od])) ⟨EH.set (Nat.le_refl _) _,by simp only[below,zg];exact⟨⟨hb1,hb2,trivial⟩,trivial,trivial⟩,td,od,rfl,fun _=>⟨htd,hod⟩,fun e=>absurd rfl e⟩;clear hQ hcm
   repeat' first|simp only[go_sem,zbs, *]|apply bc<;>intro hc
def yn (p:Fac→Bool):List Fac→Nat→List Nat
 | [],_=>[]
 |f::fs,k=>if p f then k::yn p fs (k+1) else yn p fs (k+1)
theorem zAr (p:Fac→Bool):∀ (l m:List Fac) (k:Nat),yn p (l++m) k=yn p l k++yn p m (k+l.length)
 | [],m,k=>by simp[yn]
 |f::l,m,k=>by
  simp only[List.cons_append,yn,zAr p l m (k+1),List.length_cons];rw[show k+1+l.length=k+(l.length+1) by omega];split<;>simp
theorem zAH (p:Fac→Bool):∀ (l:List Fac) (k:Nat),∀i∈yn p l k,k≤i∧i<k+l.length
 | [],k,i,h=>by simp[yn] at h
 |f::l,k,i,h=>by
  simp only[yn] at h;have ih:=zAH p l (k+1);split at h
  ·rcases List.mem_cons.1 h with rfl|h
   ·simp
   ·have:=ih i h;simp;omega
  ·have:=ih i h;simp;omega
def zR1 (p:Fac→Bool) (l:List Fac) (i:Nat):Nat:=(yn p (l.take i) 0).length
theorem zUj {p:Fac→Bool} {l:List Fac} {i:Nat} (h:i<l.length) (hp:p l[i]=false):zR1 p l (i+1)=zR1 p l i:=by
 unfold zR1;rw[List.take_succ_eq_append_getElem h,zAr];simp[yn,hp]
theorem zW5 {p:Fac→Bool} {l:List Fac} {i:Nat} (h:i<l.length) (hp:p l[i]=true):zR1 p l (i+1)=zR1 p l i+1∧(yn p l 0)[zR1 p l i]? =some i:=by
 constructor
 ·unfold zR1;rw[List.take_succ_eq_append_getElem h,zAr];simp[yn,hp]
 ·unfold zR1;have e:l=l.take i++l[i]::l.drop (i+1):=by rw[List.getElem_cons_drop,List.take_append_drop]
  have e2:yn p l 0=yn p (l.take i) 0++yn p (l[i]::l.drop (i+1)) (0+(l.take i).length):=by
   rw[←zAr,←e]
  rw[e2,List.getElem?_append_right (Nat.le_refl _),Nat.sub_self];have e3:(l.take i).length=i:=by rw[List.length_take];omega
  simp[yn,hp,e3]
theorem zW6 {p:Fac→Bool} {l:List Fac} :zR1 p l l.length=(yn p l 0).length:=by
 unfold zR1;rw[List.take_length]
def zDe (sc:List D) (kind:Int) (hf:D):D:= .fn (.func 265) [] [.iptr [.iptr sc 0] 0, .iptr [.int .i64 kind] 0, .iptr [hf] 0]
theorem zGA (sc:List D) (kind:Int) {hf:D} (hh:∃f a c,hf= .fn f a c) (h:Heap):zA Tryz.prog 204 [.iptr sc 0, .int .i64 kind,hf] h fun r h'=>h'=h∧r=zDe sc kind hf:=by
 obtain⟨fr,a,c,rfl⟩:∃f a c,hf= .fn f a c:=hh;refine zA.of_fn (g:=zQB) mix Tryz.func204 zec rfl rfl ?_;simp only[Tryz.f204,gJ];simp only[go_sem,zid,zDe]
theorem qP (p:Fac→Bool):∀ (l:List Fac) (k:Nat),(yn p l k).length≤l.length
 | [],_=>Nat.le_refl _
 |f::l,k=>by
  simp only[yn];have:=qP p l (k+1);split<;>simp only[List.length_cons]<;>omega
def isF (kind:Int) (q:Fac→Bool) (f:Fac):Bool:=f.kind==kind&&q f
def fIx (kind:Int) (q:Fac→Bool) (fs:List Fac):List Nat:=yn (isF kind q) fs 0
abbrev elI (l:List Nat) (k:Nat):List D:=[.int .i64 ((l.getD k 0:Nat):Int)]
set_option maxHeartbeats 2000000 in
theorem zDt {x:D} {sc:List D} {fs:List Fac} {kind:Int} {hf:D} {q:Fac→Bool} (hsc:sc[4]? =some x) (hx:za 12 (zCz fs) x) (hl:fs.length≤1048576) (hok:∀f∈fs,f.Ok)
  {id:Nat} {Y:Nat→(Nat→Prop)→Heap→Prop}
  (y:Yld Tryz.prog id (fIx kind q fs).length (elI (fIx kind q fs)) Y fun _ _=>False)
  {S R:Nat→Prop} {h:Heap} (hR:∀i,R i→i<h.next∧(¬S i∨∀k S h',Y k S h'→h'.at' i=h.at' i)) (hq:∀f∈fs,∀h2:Heap,(∀i,R i→h2.at' i=h.at' i)→zGk Tryz.prog hf [.agg f.cells] h2 fun r h3=>h3=h2∧r= .bool (q f)) (hY:Y 0 S h):
  zA Tryz.prog 265 [.yld id, .iptr [.iptr sc 0] 0, .iptr [.int .i64 kind] 0, .iptr [hf] 0] h fun _ h'=>∃S',(∀j,S' j→S j∨h.next≤j)∧But S h h'∧Y (fIx kind q fs).length S' h':=by
 refine zA.of_fn (g:=zPo) mix Tryz.func265 zdm rfl rfl ?_;simp only[Tryz.f265,gJ];have hll:=zAq hx;simp only[go_sem,zK1,zY,hsc,hll];refine yC (fun i fr h'=>fr 0= .yld id∧fr 2= .iptr [.int .i64 kind] 0∧fr 3= .iptr [hf] 0∧fr 10=x∧fr 11= .int .i64 fs.length∧fr 12= .int .i64 (i:Int)∧∃S',(∀j,S' j→S j∨h.next≤j)∧But S h h'∧Y (zR1 (isF kind q) fs i) S' h') fs.length ?_ ?_
 ·simp only[go_sem,zK1,true_and,and_true,Int.ofNat_zero];exact⟨S,fun j hj=> .inl hj,But.refl S h,hY⟩
 rintro i fr h' hi ⟨f0,f2,f3,f10,f11,f12,S',hS,hbut,hYi⟩;simp only[go_sem,zK1,f0,f2,f3,f10,f11,f12];by_cases hlt:i<fs.length
 ·rw[decide_eq_true (show(i:Int)<fs.length by exact_mod_cast hlt)];have hm:fs[i]∈fs:=List.getElem_mem hlt;have ha:=qh hx hlt;have hw:zS true 12 fs[i].cells 0=some (.agg fs[i].cells):=zB rfl (by omega);have hst:=zJ3 (hok _ hm);have hex:Ext h' (h'.new h'.next (.row fs[i].cells)):=(Ext.refl h').new (Nat.le_refl _) _;have hbut1:But S h (h'.new h'.next (.row fs[i].cells)):=hbut.trans (hex.but S) fun i hi=> .inl hi;have hk0:fs[i].cells[0]? =some (.int .i64 fs[i].kind):=rfl;have ew:IntKind.i64.wrap ((i:Int)+1)=((i+1:Nat):Int):=ze (by unfold lim;omega);cases hk:(fs[i].kind==kind) with
  |false=>
   simp only[go_sem,zK1,f0,f2,f3,f10,f11,f12,ha,hw,hst,hk0,hk,ew,true_and];refine⟨hlt,S',hS,hbut1,?_⟩;rw[zUj hlt (by simp[isF,hk])];exact y.ext hYi hex
  |true=>
   simp only[go_sem,zK1,f0,f2,f3,f10,f11,f12,ha,hw,hst,hk0,hk];refine zGk.mono (Q:=fun r h3=>h3=h'.new h'.next (.row fs[i].cells)∧r= .bool (q fs[i])) ?_ (hq _ hm _ fun j hj=> ?_)
   rotate_left
   ·obtain⟨h1,h2|h2⟩:=hR j hj
    ·exact hbut1.2 j h1 h2
    ·have:=hbut.1;rw[zD (by omega),h2 _ _ _ hYi]
   rintro r h3 ⟨rfl,rfl⟩;cases hqq:q fs[i] with
   |false=>
    simp only[go_sem,zK1,f0,f2,f3,f10,f11,f12,ew,true_and];refine⟨hlt,S',hS,hbut1,?_⟩;rw[zUj hlt (by simp[isF,hqq])];exact y.ext hYi hex
   |true=>
    obtain⟨n1,n2⟩:=zW5 (p:=isF kind q) hlt (by simp[isF,hk,hqq]);have hnl:=(List.getElem?_eq_some_iff.1 n2).1;have hel:(fIx kind q fs).getD (zR1 (isF kind q) fs i) 0=i:=by rw[List.getD_eq_getElem?_getD,fIx,n2];rfl
    have hgo:=y.go _ S' _ hnl (y.ext hYi hex);simp only[elI,hel] at hgo;simp only[go_sem,zK1,f0,f2,f3,f10,f11,f12];refine hgo.mono ?_;rintro r h3 ⟨S2,hS2,hb2,hr⟩;have hbut3:But S h h3:=hbut1.trans hb2 hS;have hsub:∀j,S2 j→S j∨h.next≤j:=fun j hj=>by
     rcases hS2 j hj with hj|hj
     ·exact hS j hj
     ·have h1:=hbut1.1;exact .inr (by omega)
    rcases hr with⟨rfl,hY2⟩ | ⟨rfl,hZ2⟩
    ·simp only[go_sem,zK1,f0,f2,f3,f10,f11,f12,vun,ew,true_and];exact⟨hlt,S2,hsub,hbut3,by rw[n1];exact hY2⟩
    ·exact hZ2.elim
 ·have hie:i=fs.length:=by omega
  subst hie;rw[decide_eq_false (by omega)];simp only[go_sem,zK1];rw[zW6] at hYi;exact⟨S',hS,hbut,hYi⟩
end Go.V
