/- Rules of the machine of abstract values, part 8. No condition. -/
import Derived.Test.YtalepjdbhjinhaaGreatDoorW32
import Derived.Shelf.SlSortCmp.WholeK
import Derived.Test.YtalepjdbhjinhaaGreatDoorW33
import Derived.Test.YtalepjdbhjinhaaGreatDoorW23
set_option linter.all false
namespace Go.V
open Go.Shelf Go.Proofs Go.Sort
open Go.RowKit (Below)
theorem zA.stays {P:Program} {f:FuncId} {args:List D} {d:D} {x:Value} (hv:∀H,zA P f args H fun r _=>r=d) (hd:∀M ρ v,rel M ρ d v→v=x) {M:Imm} {ρ:Ren} {w:World} {n:Nat} {va:Array Value}
  (himm:∀b o v,M b o=some v→w.cell? ⟨b,o,none⟩ =some v) (hg:zMy P w) (hfr:zBn ρ n) (hr:zy M ρ args va.toList):
  Calls P f va w fun e w'=>e= .returned x∧∃q os,w'=Go.Sort.grow (w.drewN q) os:=by
 let B:Base:=⟨w,M,fun b=>b<w.heap.size,fun _ hb=>hb⟩
 have hs:Sim B [] M ρ ⟨n,fun _=>none⟩ w:=
  { below:=⟨rfl,rfl,rfl,Nat.le_refl _,fun _ _=>rfl,Nat.le_refl _⟩,imm:=himm,live:=fun i ob e=>(by cases e),apart:=fun i j oi oj li lj e=>(by cases e),gdef:=fun b hb=>(by cases hb),old:=fun b o v _ e=>e }
 refine((hv ⟨n,fun _=>none⟩).2 B [] M ρ w va (zJn.start hg) hs hfr hr).mono fun e w' hq=> ?_;obtain⟨v,M',ρ',d',h',rfl,_,_,k3,_,k5,rfl⟩:=hq;refine⟨by rw[hd _ _ _ k5],w'.drawn-w.drawn,w'.heap.extract w.heap.size w'.heap.size,?_⟩;have hk:=k3.below;have e1:w'.os=w.os:=hk.os;have e2:w'.tape=w.tape:=hk.tape;have e3:w'.output=w.output:=hk.output;have e4:w.drawn≤w'.drawn:=hk.drawn;have e5:w.heap.size≤w'.heap.size:=hk.size;have e6:∀b,b<w.heap.size→w'.heap[b]? =w.heap[b]? :=fun b hb=>hk.block b hb;have hh:w'.heap=w.heap++w'.heap.extract w.heap.size w'.heap.size:=by
  apply Array.ext_getElem?;intro i;rw[Array.getElem?_append];split
  ·rename_i hi;rw[e6 i hi]
  ·rename_i hi;rw[Array.getElem?_extract];split
   ·congr 1;omega
   ·rename_i hj;rw[Array.getElem?_eq_none (by omega)]
 cases w';cases w;simp only at e1 e2 e3 e4 hh;subst e1 e2 e3;simp only[Go.Sort.grow,World.drewN,World.mk.injEq,true_and,and_true];exact⟨hh,by omega⟩
theorem zMN {α:Type} [Inhabited α] (enc:α→Value) (off:Nat) (d:Array α) (c:Array Value):putCells enc off d c=putCells id off (d.map enc) c:=by
 unfold putCells;congr 1
 funext k x
 simp only[Array.size_map,id];split
 ·rename_i h;rw[getElem!_pos d _ (by omega),getElem!_pos (d.map enc) _ (by simp;omega),Array.getElem_map]
 ·rfl
theorem zFW {α:Type} [Inhabited α] (enc:α→Value) (w:World) (blk off:Nat) (d:Array α):putRow enc w blk off d=putRow id w blk off (d.map enc):=by
 unfold putRow;congr 1
 funext c
 exact zMN enc off d c
theorem zXh {k:Nat} :∀ {xs:List (List Value)} (_:∀x∈xs,x.length=k) {i j:Nat} (_:j<k) {x:List Value} (_:xs[i]? =some x),xs.flatten[i*k+j]? =x[j]?
 | [],_,i,j,_,x,h=>by simp at h
 |y::xs,hx,0,j,hj,x,h=>by
  simp only[List.getElem?_cons_zero,Option.some.injEq] at h;subst h;rw[Nat.zero_mul,Nat.zero_add,List.flatten_cons,List.getElem?_append_left (by rw[hx y (by simp)];exact hj)]
 |y::xs,hx,i+1,j,hj,x,h=>by
  simp only[List.getElem?_cons_succ] at h;have hy:=hx y (by simp);rw[List.flatten_cons,Nat.succ_mul,List.getElem?_append_right (by omega),show i*k+k+j-y.length=i*k+j by omega];exact zXh (fun z hz=>hx z (by simp[hz])) hj h
theorem zJN {k:Nat} :∀ {xs:List (List Value)} (_:∀x∈xs,x.length=k),xs.flatten.length=xs.length*k
 | [],_=>by simp
 |y::xs,hx=>by rw[List.flatten_cons,List.length_append,hx y (by simp),zJN fun z hz=>hx z (by simp[hz]),List.length_cons,Nat.succ_mul];omega
theorem zQM {α:Type} [Inhabited α] {enc:α→List Value} {k:Nat} (hk:∀x,(enc x).length=k) (h1:0<k) (d:Array α):flatK enc k d=(d.toList.map enc).flatten.toArray:=by
 apply Array.ext_getElem?;intro i;have hl:∀x∈d.toList.map enc,x.length=k:=fun x hx=>by
  obtain⟨y,_,rfl⟩:=List.mem_map.1 hx;exact hk y
 have hlen:(d.toList.map enc).flatten.length=d.size*k:=by rw[zJN hl,List.length_map,Array.length_toList]
 by_cases hi:i<d.size*k
 ·have hq:i/k<d.size:=by rw[Nat.div_lt_iff_lt_mul h1];exact hi
  have hm:i%k<k:=Nat.mod_lt _ h1;have e:(d.toList.map enc)[i/k]? =some (enc d[i/k]!):=by
   rw[List.getElem?_map,getElem!_pos d _ hq,Array.getElem?_toList,Array.getElem?_eq_getElem hq];rfl
  have:=zXh hl hm e;rw[Nat.mul_comm,Nat.div_add_mod] at this;have g:=get_flatK enc k d i hi;rw[getElem!_pos (flatK enc k d) i (by simpa using hi)] at g;rw[Array.getElem?_eq_getElem (by simpa using hi),g,List.getElem?_toArray,this,getElem!_pos (enc d[i/k]!) (i%k) (by rw[hk];exact hm),List.getElem?_eq_getElem]
 ·rw[Array.getElem?_eq_none (by simpa using hi),List.getElem?_toArray,List.getElem?_eq_none (by omega)]
theorem PermIn.list {α:Type} [Inhabited α] {d d':Array α} (h:PermIn 0 d.size d d'):d'.toList.Perm d.toList:=by
 obtain⟨h1,_,h3⟩:=h;have e1:d'.extract 0 d.size=d':=by rw[←h1];simp
 have e2:d.extract 0 d.size=d:=by simp
 rwa [e1,e2] at h3
theorem zGH {α:Type} [Inhabited α] (enc:α→List Value) (k:Nat) (w:World) (blk off m:Nat) (dk:Array α) (os:Array Go.Obj):∀b,b≠blk→b<w.heap.size→(sortWorldK enc k w blk off m dk os).heap[b]? =w.heap[b]? :=fun b hb hl=>by
 show((putRow id (Go.Sort.ahead w m) blk off (flatK enc k dk)).heap++os)[b]? =_;have hs:(putRow id (Go.Sort.ahead w m) blk off (flatK enc k dk)).heap.size=w.heap.size:=by simp[putRow,mapBlock,Go.Sort.ahead]
 rw[Array.getElem?_append_left (by omega)];show((Go.Sort.ahead w m).heap.modify blk _)[b]? =_;rw[Array.getElem?_modify,if_neg (fun e=>hb e.symm)];rfl
section
variable {P:Program} {f cmp:FuncId} {β:Type} {k:Nat} {cells:β→List D} {xs:List β} {id:Nat} {pre post:List D} {h:Heap} {cf:β→β→Int}
abbrev zQk (cells:β→List D) (xs:List β) (M:Imm) (ρ:Ren):= {p:β×List Value // p.1∈xs∧zy M ρ (cells p.1) p.2∧(cells p.1).all D.flat=true}
abbrev zbL:= {p:D×Value // p.1.flat=true}
instance:Inhabited zbL:=⟨⟨(.bool true, .bool true),rfl⟩⟩
def zDb {M:Imm} {ρ:Ren} (p:zQk cells xs M ρ):List zbL:=((cells p.1.1).zip p.1.2).attach.map fun q=>⟨q.1,by
 have h1:=(List.of_mem_zip q.2).1;exact List.all_eq_true.1 p.2.2.2 _ h1⟩
theorem zJO {M:Imm} {ρ:Ren} (p:zQk cells xs M ρ):(zDb p).map (fun q=>q.1.1)=cells p.1.1:=by
 have hl:=zU p.2.2.1;unfold zDb;rw[List.map_map];show List.map (fun q: {q // q∈(cells p.1.1).zip p.1.2} =>q.1.1) _=_;rw[show(fun q: {q // q∈(cells p.1.1).zip p.1.2} =>q.1.1)=Prod.fst ∘ Subtype.val from rfl,←List.map_map,List.attach_map_subtype_val,List.map_fst_zip (by omega)]
theorem zJP {M:Imm} {ρ:Ren} (p:zQk cells xs M ρ):(zDb p).map (fun q=>q.1.2)=p.1.2:=by
 have hl:=zU p.2.2.1;unfold zDb;rw[List.map_map];show List.map (fun q: {q // q∈(cells p.1.1).zip p.1.2} =>q.1.2) _=_;rw[show(fun q: {q // q∈(cells p.1.1).zip p.1.2} =>q.1.2)=Prod.snd ∘ Subtype.val from rfl,←List.map_map,List.attach_map_subtype_val,List.map_snd_zip (by omega)]
theorem zQN {M:Imm} {ρ:Ren} (p:zQk cells xs M ρ):∀q∈zDb p,rel M ρ q.1.1 q.1.2:=fun q hq=>by
 obtain⟨i,hi⟩:=List.mem_iff_getElem?.1 hq;have a:=congrArg (fun l=>l[i]?) (zJO p);have b:=congrArg (fun l=>l[i]?) (zJP p);simp only[List.getElem?_map,hi,Option.map_some] at a b;obtain⟨v,e1,e2⟩:=yq p.2.2.1 i _ a.symm;rw[←b] at e1;cases e1;exact e2
theorem zJQ {M:Imm} {ρ:Ren} :∀ {ps bs:List D} {vs:List Value},zy M ρ (ps++bs) vs→∃va vb,vs=va++vb∧zy M ρ ps va∧zy M ρ bs vb
 | [],bs,vs,h=>⟨[],vs,rfl,by simp only[zy],h⟩
 |a::ps,bs,vs,h=>by
  simp only[List.cons_append,zy] at h;obtain⟨v,vs',rfl,h1,h2⟩:=h;obtain⟨va,vb,rfl,h3,h4⟩:=zJQ h2;exact⟨v::va,vb,rfl,by simp only[zy];exact⟨v,va,rfl,h1,h3⟩,h4⟩
theorem zA.of_sortK {mid:List D} {midV:List Value} (hmid:∀M ρ vs,zy M ρ mid vs→vs=midV) (h0:xs≠[]) (hk0:0<k) (hk:∀x∈xs,(cells x).length=k) (he:qV P f=true) (hcm:∀args w,(callFunc cmp args).run P w= .ok (.enter cmp args) w)
  (hrow:h.at' id=some (.row (pre++(xs.map cells).flatten++post))) (hO:SWO (ltOf cf)) (hlen:xs.length<4611686018427387904)
  (hcmp:∀x∈xs,∀y∈xs,∀H,zA P cmp [.agg (cells x), .agg (cells y)] H fun r H'=>H'=H∧r= .int .i64 (cf x y))
  (hlib:∀ (α:Type) [Inhabited α] (enc:α→List Value),(∀x,(enc x).length=k)→(∀x,∀v∈enc x,v.oneCell'=true)→∀ (cf:α→α→Int),SWO (ltOf cf)→∀ (g:Nat) (cb:Array Value) (blk off cap:Nat) (d:Array α) (w:World),
   (∀args w,(callFunc g args).run P w= .ok (.enter g args) w)→CmpLays P g cb enc k cf blk off d.size w→HoldsK enc k w blk off d→blk<w.heap.size→d.size<4611686018427387904→
   d.size=xs.length→Calls P f (.slice (some ⟨blk,off,none⟩) d.size cap::(midV++ [.func (.func g) #[] cb])).toArray w fun e w'=>e= .returned (.tuple #[])∧∃d' n os,PermIn 0 d.size d d'∧SortedIn (ltOf cf) 0 d.size d'∧w'=sortWorldK enc k w blk off n d' os):
  zA P f (.rs id k pre.length xs.length::(mid++ [.fn (.func cmp) [] []])) h fun r h'=>r= .tuple []∧∃ys:List β,ys.Perm xs∧ys.Pairwise (fun a b=>¬cf b a<0)∧h'=h.set id (.row (pre++(ys.map cells).flatten++post)):=by
 refine⟨he,fun w0 G M ρ w va hg0 hs hfr hr=> ?_⟩;simp only[zy] at hr;obtain⟨v,vs',hva,hv,hvs⟩:=hr;obtain⟨vm,vf,rfl,hvm,hvf⟩:=zJQ hvs;have hvm:=hmid _ _ _ hvm;subst hvm;simp only[zy] at hvf;obtain⟨v2,vs2,rfl,hv2,rfl⟩:=hvf;simp only[rel,zy] at hv hv2;obtain⟨_,hlim,l,cap,o,hl,rfl,⟨hc1,hc2⟩,hsz,ho⟩:=hv;obtain⟨_,fa,fc,rfl,hfa,hfc⟩:=hv2;have hfa':fa= #[]:=Array.ext' (by simpa using hfa);have hfc':fc= #[]:=Array.ext' (by simpa using hfc);subst hfa' hfc';have hxl:0<xs.length:=List.length_pos_iff.2 h0;have ho:o=pre.length:=by
  rcases ho with hz|ho
  ·omega
  ·exact ho
 subst ho;have hva':va=(.slice (some ⟨l.blk,pre.length,none⟩) xs.length cap::(vm++ [.func (.func cmp) #[] #[]])).toArray:=Array.ext' (by simpa using hva);subst hva';obtain⟨l',h1,hkeep,hM,c,e,hw,hls,hcl,hcells⟩:=hs.live id _ hrow;rw[hl] at h1;cases h1;have hblk:l.blk<w.heap.size:=(Array.getElem?_eq_some_iff.1 hw).1;have hL:∀x∈xs.map cells,x.length=k:=fun x hx=>by
  obtain⟨y,hy,rfl⟩:=List.mem_map.1 hx;exact hk y hy
 have hfl:(xs.map cells).flatten.length=xs.length*k:=by rw[qR hL,List.length_map]
 have hval:∀i (hi:i<xs.length),((c.toList.drop (pre.length+i*k)).take k).length=k∧zy M ρ (cells xs[i]) ((c.toList.drop (pre.length+i*k)).take k)∧(cells xs[i]).all D.flat=true:=fun i hi=>by
  have hik:i*k+k≤xs.length*k:=by rw[←Nat.succ_mul];exact Nat.mul_le_mul_right k hi
  have hcl':pre.length+xs.length*k+post.length≤c.size:=by have q:=hcl;rwa [List.length_append,List.length_append,hfl] at q
  have hpart:=zHS hL (i:=i) (x:=cells xs[i]) (by rw[List.getElem?_map,List.getElem?_eq_getElem hi];rfl);have hkl:=hk xs[i] (List.getElem_mem hi);have hat:∀j d,(cells xs[i])[j]? =some d→(pre++(xs.map cells).flatten++post)[pre.length+(i*k+j)]? =some d:=fun j d hj=>by
   have hjk:j<k:=by have:=(List.getElem?_eq_some_iff.1 hj).1;omega
   rw[List.append_assoc,List.getElem?_append_right (by omega),Nat.add_sub_cancel_left,List.getElem?_append_left (by omega)];rw[←hpart,List.getElem?_take,if_pos hjk,List.getElem?_drop] at hj;exact hj
  have hlen':((c.toList.drop (pre.length+i*k)).take k).length=k:=by
   rw[List.length_take,List.length_drop,Array.length_toList];omega
  refine⟨hlen',yD (by rw[hlen',hkl]) fun j d v hd hv=> ?_,List.all_eq_true.2 fun d hd=> ?_⟩
  ·have hjk:j<k:=by have:=(List.getElem?_eq_some_iff.1 hd).1;omega
   obtain⟨_,u,e1,e2⟩:=hcells _ _ (hat j d hd);rw[List.getElem?_take,if_pos hjk,List.getElem?_drop,Array.getElem?_toList,Nat.add_assoc,e1] at hv;cases hv;exact e2
  ·obtain⟨j,hj⟩:=List.mem_iff_getElem?.1 hd;exact(hcells _ _ (hat j d hj)).1
 let mk:_root_.Fin xs.length→zQk cells xs M ρ:=fun i=>⟨(xs[i.1],(c.toList.drop (pre.length+i.1*k)).take k),List.getElem_mem i.2,(hval i.1 i.2).2.1,(hval i.1 i.2).2.2⟩
 letI:Inhabited (zQk cells xs M ρ):=⟨mk ⟨0,hxl⟩⟩
 let enc:zQk cells xs M ρ→List Value:=fun p=>p.1.2
 have hencl:∀p,(enc p).length=k:=fun p=>by rw[show(enc p).length=(cells p.1.1).length from zU p.2.2.1];exact hk _ p.2.1
 have henc1:∀p,∀v∈enc p,v.oneCell'=true:=fun p=>wN p.2.2.1 p.2.2.2
 let d:Array (zQk cells xs M ρ):=Array.ofFn mk
 have hd:d.size=xs.length:=by simp[d]
 have hdi:∀i (hi:i<xs.length),d[i]! =mk ⟨i,hi⟩:=fun i hi=>by rw[getElem!_pos d i (by rw[hd];exact hi)];simp[d]
 have hdl:d.toList.map (fun p=>p.1.1)=xs:=by
  apply List.ext_getElem?;intro i;rw[List.getElem?_map,Array.getElem?_toList];by_cases hi:i<xs.length
  ·rw[Array.getElem?_eq_getElem (by rw[hd];exact hi),List.getElem?_eq_getElem hi,Option.map_some];simp[d,mk]
  ·rw[Array.getElem?_eq_none (by omega),List.getElem?_eq_none (by omega)];rfl
 have hpairs:∀ (dk:Array (zQk cells xs M ρ)),(dk.toList.map zDb).flatten.map (fun q=>q.1.1)=((dk.toList.map fun p=>p.1.1).map cells).flatten∧(dk.toList.map zDb).flatten.map (fun q=>q.1.2)=(dk.toList.map enc).flatten:=fun dk=>by
  constructor
  ·rw[List.map_flatten,List.map_map,List.map_map];congr 1;exact List.map_congr_left fun p _=>zJO p
  ·rw[List.map_flatten,List.map_map];congr 1;exact List.map_congr_left fun p _=>zJP p
 have hO':SWO (ltOf fun p q:zQk cells xs M ρ=>cf p.1.1 q.1.1):=⟨fun x=>hO.irrefl _,fun x y z=>hO.trans _ _ _,fun x y z=>hO.ntrans _ _ _⟩;have hcl2:pre.length+xs.length*k+post.length≤c.size:=by have q:=hcl;rwa [List.length_append,List.length_append,hfl] at q
 have hholds:HoldsK enc k w l.blk pre.length d:=by
  intro j hj;rw[size_flatK,hd] at hj;refine⟨?_,by simp[World.frozen?,hw]⟩;rw[get_flatK enc k d j (by rw[hd];exact hj)];have hq:j/k<xs.length:=by rw[Nat.div_lt_iff_lt_mul hk0];exact hj
  have hm:j%k<k:=Nat.mod_lt _ hk0;rw[hdi _ hq];have hvl:=(hval (j/k) hq).1;show _=some (_root_.id ((((c.toList.drop (pre.length+j/k*k)).take k))[j%k]!));have e5:j/k*k+j%k=j:=by rw[Nat.mul_comm];exact Nat.div_add_mod j k
  have e6:((c.toList.drop (pre.length+j/k*k)).take k)[j%k]? =c[pre.length+j]? :=by
   rw[List.getElem?_take,if_pos hm,List.getElem?_drop,Nat.add_assoc,e5,Array.getElem?_toList]
  have h9:j%k<((c.toList.drop (pre.length+j/k*k)).take k).length:=by rw[hvl];exact hm
  have e8:c[pre.length+j]? =some (((c.toList.drop (pre.length+j/k*k)).take k)[j%k]'h9):=by rw[←e6];exact List.getElem?_eq_getElem h9
  rw[getElem!_pos (((c.toList.drop (pre.length+j/k*k)).take k)) (j%k) h9];simp only[World.cell?,hw,Option.isSome_none,Bool.false_eq_true,if_false,_root_.id];exact e8
 have hlays:CmpLays P cmp #[] enc k (fun p q=>cf p.1.1 q.1.1) l.blk pre.length d.size w:=by
  intro m os dk hdk x y;have hfrm:=zGH enc k w l.blk pre.length m dk os;have hgood:zMy P (sortWorldK enc k w l.blk pre.length m dk os):=⟨fun g hg=>by
   have h2:=hg0.here hs.below hg;unfold Lib.TabIs World.var? at h2⊢;rw[hg] at h2⊢;simp only[Option.bind_some] at h2⊢;have hgk:=(hg0.1 g hg).1;rw[hfrm g (fun q=>hkeep (q▸hgk)) (Nat.lt_of_lt_of_le (w0.kept g hgk) hs.below.size)];exact h2,fun g hg=>by
   obtain⟨m,hm⟩:=hg0.max hs.below hg;have hgk:=(hg0.2 g hg).1;exact⟨m,(World.cell?_of_block (w:=w) (hfrm g (fun q=>hkeep (q▸hgk)) (Nat.lt_of_lt_of_le (w0.kept g hgk) hs.below.size))).trans hm⟩⟩
  refine zA.stays (fun H=>(hcmp x.1.1 x.2.1 y.1.1 y.2.1 H).mono fun r H' hq=>hq.2) (fun M ρ v hv=>by simp only[rel] at hv;exact hv.1) (M:=M) (ρ:=ρ) (n:=h.next) (fun b o v hb=> ?_) hgood hfr ?_
  ·have hne:b≠l.blk:=fun q=>by subst q;rw[hM o] at hb;cases hb
   rw[←hs.imm b o v hb];exact World.cell?_of_block (w:=w) (hfrm b hne (hs.lt hb))
  ·have hagg:∀p:zQk cells xs M ρ,rel M ρ (.agg (cells p.1.1)) (.agg (enc p).toArray):=fun p=>by
    simp only[rel];exact⟨_,rfl,by simpa using p.2.2.1,p.2.2.2⟩
   show zy M ρ _ [_,_];simp only[zy];exact⟨_,_,rfl,hagg x,_,_,rfl,hagg y,rfl⟩
 have hcall:=hlib (zQk cells xs M ρ) enc hencl henc1 (fun p q=>cf p.1.1 q.1.1) hO' cmp #[] l.blk pre.length cap d w hcm hlays hholds hblk (by rw[hd];exact hlen) hd;rw[hd] at hcall;refine hcall.mono fun e w' hq=> ?_;obtain⟨rfl,d',n,os,hperm,hsorted,rfl⟩:=hq;rw[←hd] at hperm;have hpl:=PermIn.list hperm;have hd':d'.size=xs.length:=by rw[hperm.1,hd]
 have hys:(d'.toList.map fun p=>p.1.1).Perm xs:=by
  have q:=hpl.map (fun p=>p.1.1)
  rwa [hdl] at q
 have hrow2:h.at' id=some (.row (pre++(d.toList.map zDb).flatten.map (fun q=>q.1.1)++post)):=by rw[(hpairs d).1,hdl];exact hrow
 have hpl2:((d'.toList.map zDb).flatten:List zbL).Perm (d.toList.map zDb).flatten:=(hpl.map _).flatten;have hS:=(hs.ahead n).putRow (α:=zbL) (enc:=fun q=>q.1.2) (dd:=fun q=>q.1.1) (fun q=>q.2) hrow2 hl hpl2.length_eq (fun q hq=>by
  obtain⟨p,hp,hqp⟩:=List.mem_flatten.1 hq;obtain⟨x,hx,rfl⟩:=List.mem_map.1 hp;exact zQN x q hqp)
 have hS2:=hS.grow os;rw[zFW,List.map_toArray,(hpairs d').2,←zQM hencl hk0 d',(hpairs d').1] at hS2;refine⟨.tuple #[],M,ρ, .tuple [],_,rfl,MLe.refl _,RLe.refl _,hS2,hfr,by simp only[rel,zy];exact⟨#[],rfl,rfl⟩,rfl,d'.toList.map (fun p=>p.1.1),hys,?_,rfl⟩;rw[List.pairwise_map,List.pairwise_iff_getElem];intro i j hi hj hij;have hj':j<d'.size:=by simpa using hj
 have:=hsorted i j (Nat.zero_le _) hij (by omega);rw[getElem!_pos d' j hj',getElem!_pos d' i (by omega)] at this;simpa [ltOf] using this
end
open Go.Proofs
theorem QC.swo {β:Type} {c:β→β→Int} (h:QC c):Go.Sort.SWO (ltOf c) where
 irrefl x:=by simp[ltOf,h.refl]
 trans x y z h1 h2:=by
  simp only[ltOf,decide_eq_true_eq] at *
  exact h.ltle h1 (by omega)
 ntrans x y z h1 h2:=by
  simp only[ltOf,decide_eq_false_iff_not] at *
  have a1:=h.anti x y;have a2:=h.anti y z;have a3:=h.anti x z;have:=h.trans z y x (by omega) (by omega);omega
open Go.Proofs Go.Shelf Go.Sort
set_option maxRecDepth 100000
theorem zTi {n:Nat} (hn:n≤1048576) (h:Heap):zA Tryz.prog 133 [.int .u64 (n:Int)] h fun r h'=>h'=h∧r= .int .i64 (Lib.bitLen n:Nat):=by
 refine(zA.of_lib (P:=Tryz.prog) (f:=133) (ds:=[.int .u64 (n:Int)]) (d:= .int .i64 (Lib.bitLen n:Nat)) (by kernel_rfl) (fun M ρ va w hr=> ?_) h).mono fun a b hab=>⟨hab.2,hab.1⟩;simp only[zy,rel] at hr;obtain⟨v,vs,e,⟨rfl,_⟩,rfl⟩:=hr;have ev:va= #[.int .u64 (n:Int)]:=Array.ext' (by simpa using e);subst ev;have hb:=Any.bits_Len (SlLaysF0.n15.bits (P:=Tryz.prog) (ρ:=Tryz.sortLic_ren) { Tryz.sortLic with }) (n:Int) w (by omega) (by omega);refine Calls.mono hb fun e w' hq=> ?_;obtain⟨rfl,rfl⟩:=hq;refine⟨_,rfl,Bel.refl _ _,fun M' ρ'=> ?_⟩;rw[Int.toNat_natCast]
 have hl:=Lib.bitLen_le n 62 (by omega) (by omega);exact yg (by unfold fits;rw[zx (by omega) (by omega)])
theorem zVx {M:Imm} {ρ:Ren} {a b c:Int} {vs:List Value} (h:zy M ρ [.int .i64 a, .int .i64 b, .int .i64 c] vs):vs= [.int .i64 a, .int .i64 b, .int .i64 c]:=by
 simp only[zy,rel] at h;obtain⟨_,_,rfl,⟨rfl,_⟩,_,_,rfl,⟨rfl,_⟩,_,_,rfl,⟨rfl,_⟩,rfl⟩:=h;rfl
theorem zd0 {l:List Trm} {id:Nat} {g:Heap} (h0:l≠[]) (hl:l.length≤1048576) (hrow:g.at' id=some (.row (qg l).flatten)):
  zA Tryz.prog 285 [.rs id 2 0 l.length, .int .i64 0, .int .i64 l.length, .int .i64 (Lib.bitLen l.length:Nat), .fn (.func 260) [] []] g fun r h'=>r= .tuple []∧h'=g.set id (.row (qg (srt zO l)).flatten):=by
 have hbl:=Lib.bitLen_le l.length 62 (by omega) (by omega);have:=zA.of_sortK (P:=Tryz.prog) (f:=285) (cmp:=260) (k:=2) (cells:=Trm.cells) (xs:=l) (id:=id) (pre:=[]) (post:=[]) (h:=g) (cf:=zO) (mid:=[.int .i64 0, .int .i64 l.length, .int .i64 (Lib.bitLen l.length:Nat)]) (fun M ρ vs h=>zVx h) h0 (by omega) (fun _ _=>rfl) (by kernel_rfl) (enters_of Tryz.func260 (by kernel_rfl) rfl) (by simpa [qg] using hrow) zCw.swo (by omega)
  (fun x _ y _ H=>zDZ x y H) (fun α _ enc h1 h2 cf hO g cb blk off cap d w hg hc hH hb hs hd=>by
   have:=AnyQ.pdqsortCmpFunc_all Tryz.pdqTrm 2 (Tryz.isAgg51) (Tryz.sizeOf51) enc cf g cb hO blk off cap d w hg hc ⟨h1,h2,hH,hb⟩ (d.size+1) 0 d.size (Lib.bitLen d.size) d w (by omega) rfl (SWK.start hH) (Nat.zero_le _) (Nat.le_refl _) hs (by rw[hd];omega) (Or.inl rfl);rw[←hd];refine Calls.mono this fun e w' hq=> ?_;obtain⟨he,n,os,hw⟩:=hq;have h:=pdq_sorts (ltOf cf) hO d 0 d.size (Lib.bitLen d.size) true true (Nat.zero_le _) (Nat.le_refl _) (Or.inl rfl);exact⟨he,_,n,os,h.1,h.2,hw⟩)
 refine this.mono fun r h' ⟨e1,ys,hp,hs,e2⟩=>⟨e1,?_⟩;rw[e2,zTd zCw zEr hp hs];simp[qg]
theorem zZ5 {l:List Trm} {id:Nat} {g:Heap} (h0:l≠[]) (hl:l.length≤1048576) (hrow:g.at' id=some (.row (qg l).flatten)):
  zA Tryz.prog 259 [.rs id 2 0 l.length, .fn (.func 260) [] []] g fun r h'=>r= .tuple []∧h'=g.set id (.row (qg (srt zO l)).flatten):=by
 have hlen:=fun(h:Heap)=>zHT (P:=Tryz.prog) (t:=168) (sz:=2) (id:=id) (off:=0) (len:=l.length) (h:=h) Tryz.underlying168;have hcv:zAo Tryz.prog 3 208 (.int .i64 (l.length:Int))=some (.int .u64 (l.length:Int)):=by
  have hu:Tryz.prog.underlying 208=some (.int .u64):=by kernel_rfl
  have hw:IntKind.u64.wrap (l.length:Int)=l.length:=by
   unfold IntKind.wrap;simp[IntKind.signed,IntKind.bits];omega
  simp only[zAo,Tryz.underlying3,hu,hw]
 have hbl:=zTi hl;have hpd:=zd0 h0 hl hrow;clear hrow;refine zA.of_fn (g:=zRv) mix Tryz.func259 zf3 rfl rfl ?_;simp only[Tryz.f259,gJ]
 repeat' first|simp only[go_sem,zf2, *]|apply bc<;>intro hc|(refine zA.mono (hbl _) ?_;rintro r h ⟨rfl,rfl⟩)|(refine zA.mono hpd ?_;rintro r h ⟨rfl,rfl⟩)
end Go.V
