/- A machine of abstract values for programs of the model, further rules, part 3. No condition. -/
import Derived.Test.YtmhkjfajejaniaaGreatDoorW34
import Derived.Test.YtmhkjfajejaniaaGreatDoorW36
import Derived.Test.YtmhkjfajejaniaaGreatDoorW31
import Derived.Test.YtmhkjfajejaniaaGreatDoorW30
import Derived.Test.YtmhkjfajejaniaaGreatDoorW23
import Derived.Test.YtmhkjfajejaniaaGreatDoorW33
import Derived.Test.YtmhkjfajejaniaaGreatDoorW06
set_option linter.all false
namespace Go.V
open Go.Shelf Go.Proofs Go.Sort
open Go.RowKit (Below)
theorem zA.of_sortI {P:Program} {f:FuncId} {xs:List Int} {id:Nat} {h:Heap} (h0:xs≠[]) (he:ww P f=true) (hrow:h.at' id=some (.row (xs.map (D.int .i64)))) (hlen:xs.length<4611686018427387904)
  (hlib:∀ (blk off cap:Nat) (zs:List Int) (w:World),Go.Sort.Holds (Value.int .i64) w blk off zs.toArray→blk<w.heap.size→zs.length<4611686018427387904→
   Calls P f #[.slice (some ⟨blk,off,none⟩) zs.length cap] w fun e w'=>e= .returned (.tuple #[])∧∃n os,w'=Go.Sort.grow (putRow (Value.int .i64) (Go.Sort.ahead w n) blk off (zs.mergeSort fun x y=>decide (x≤y)).toArray) os):
  zA P f [.rs id 1 0 xs.length] h fun r h'=>r= .tuple []∧h'=h.set id (.row ((xs.mergeSort fun x y=>decide (x≤y)).map (D.int .i64))):=by
 refine⟨he,fun w0 G M ρ w va hg0 hs hfr hr=> ?_⟩;simp only[yA] at hr;obtain⟨v,vs',hva,hv,rfl⟩:=hr;simp only[rel,yA] at hv;obtain⟨_,hlim,l,cap,o,hl,rfl,⟨hc1,hc2⟩,hsz,ho⟩:=hv;have hxl:0<xs.length:=List.length_pos_iff.2 h0;have ho:o=0:=by
  rcases ho with hz|ho
  ·omega
  ·exact ho
 subst ho;have hva':va= #[.slice (some ⟨l.blk,0,none⟩) xs.length cap]:=Array.ext' (by simpa using hva);subst hva';obtain⟨l',h1,hkeep,hM,c,e,hw,hls,hcl,hcells⟩:=hs.live id _ hrow;rw[hl] at h1;cases h1;have hblk:l.blk<w.heap.size:=(Array.getElem?_eq_some_iff.1 hw).1;have hholds:Go.Sort.Holds (Value.int .i64) w l.blk 0 xs.toArray:=by
  intro j hj;have hj':j<xs.length:=by simpa using hj
  refine⟨?_,by simp[World.frozen?,hw]⟩;obtain⟨_,v,h2,h3⟩:=hcells j (.int .i64 xs[j]) (by rw[List.getElem?_map,List.getElem?_eq_getElem hj'];rfl);simp only[rel] at h3;obtain⟨rfl,_⟩:=h3;simp only[World.cell?,hw,Option.isSome_none,Bool.false_eq_true,if_false];rw[Nat.zero_add,h2];simp[hj']
 refine(hlib l.blk 0 cap xs w hholds hblk hlen).mono fun e w' hq=> ?_;obtain⟨rfl,n,os,rfl⟩:=hq;have hrow2:h.at' id=some (.row ([]++xs.map (D.int .i64)++ [])):=by simpa using hrow
 have hS:=(hs.ahead n).putRow (α:=Int) (enc:=Value.int .i64) (dd:=D.int .i64) (fun q=>rfl) hrow2 hl (ys:=xs.mergeSort fun x y=>decide (x≤y)) (List.length_mergeSort _) (fun q hq=>by
  obtain⟨i,hi,rfl⟩:=List.mem_iff_getElem.1 (List.mem_mergeSort.1 hq);obtain⟨_,v,_,h3⟩:=hcells i (.int .i64 xs[i]) (by rw[List.getElem?_map,List.getElem?_eq_getElem hi];rfl);simp only[rel] at h3;exact yc h3.2)
 have hS2:=hS.grow os;refine⟨.tuple #[],M,ρ, .tuple [],_,rfl,MLe.refl _,RLe.refl _,hS2,hfr,by simp only[rel,yA];exact⟨#[],rfl,rfl⟩,rfl,by simp⟩
open Go.Proofs
set_option maxRecDepth 100000
theorem zFa (l:List Int):(wa l).flatten=l.map (D.int .i64):=by
 induction l with
 |nil=>rfl
 |cons a l ih=>simp only[wa,List.map_cons,List.flatten_cons] at ih⊢;rw[ih];rfl
theorem zIn {l:List Int} :∀x∈wa l,x.length=1:=fun x hx=>by
 obtain⟨y,_,rfl⟩:=List.mem_map.1 hx;rfl
theorem zQf (x y:Int):(yz x y==0)=(x==y):=by
 unfold yz;split
 ·have:x≠y:=by omega
  simp[this]
 ·split
  ·have:x≠y:=by omega
   simp[this]
  ·have:x=y:=by omega
   simp[this]
set_option maxHeartbeats 4000000 in
theorem zRl {l:List Int} {id:Nat} {g:Heap} (h0:l≠[]) (hl:l.length≤1048576) (hrow:g.at' id=some (.row (l.map (D.int .i64)))):
  zA Tryz.prog 111 [.rs id 1 0 l.length] g fun r h'=>r= .rs id 1 0 (cpt yz l).length∧∃rest,h'=g.set id (.row ((cpt yz l).map (D.int .i64)++rest)):=by
 have hlen:=fun(h:Heap)=>zCe (P:=Tryz.prog) (t:=31) (sz:=1) (id:=id) (off:=0) (len:=l.length) (h:=h) Tryz.underlying31;have hpos:0<l.length:=List.length_pos_iff.2 h0;have hsame:∀n,n≤l.length→(∀i (h:i+1<l.length),i+1<n→(yz l[i+1] l[i]==0)=false)→yy yz l n=l.take n:=fun n hn hh=>by
  induction n with
  |zero=>rfl
  |succ n ih=>
   cases n with
   |zero=>rw[zFR hpos,List.take_one];simp[List.head?_eq_getElem?,hpos]
   |succ k=>
    rw[zAz (by omega),if_neg (by rw[hh k (by omega) (by omega)];exact Bool.false_ne_true),ih (by omega) fun i h1 h2=>hh i h1 (by omega)];exact(List.take_succ_eq_append_getElem (by omega)).symm
 refine zA.post fun Q hQ=> ?_;have hdone:(∀i (h:i+1<l.length),i+1<l.length→(yz l[i+1] l[i]==0)=false)→Q (.rs id 1 0 l.length) g:=fun hh=>hQ _ _ (by
  have e:cpt yz l=l:=by
   have:=hsame l.length (Nat.le_refl _) hh;rw[List.take_length] at this;exact this
  rw[e];exact⟨rfl,[],by rw[List.append_nil,zBK hrow]⟩)
 refine zA.of_fn (g:=zPY) mix Tryz.func111 zc9 rfl rfl ?_;simp only[Tryz.f111,gJ];cases q1:decide ((l.length:Int)<2) with
 |true=>
  have hd:=hdone fun i h1 h2=>by have:=of_decide_eq_true q1;omega
  clear hdone hQ
  repeat' first|simp only[go_sem,zE8, *]|apply bc<;>intro hc
 |false=>
 repeat' first|simp only[go_sem,zE8, *]|apply bc<;>intro hc
 refine yC (fun i fr h=>fr 0= .rs id 1 0 l.length∧fr 3= .int .i64 ((i+1:Nat):Int)∧h=g∧i+1≤l.length∧∀j (h:j+1<l.length),j+1<i+1→(yz l[j+1] l[j]==0)=false) l.length ?_ ?_
 ·simp only[go_sem,zE8,true_and,and_true,Int.ofNat_zero];exact⟨rfl,hpos,fun j h1 h2=>by omega⟩
 rintro i fr h hi ⟨f0,f3,rfl,hile,hj⟩;by_cases hlt:i+1<l.length
 ·have e1:decide (((i+1:Nat):Int)<(l.length:Int))=true:=decide_eq_true (by omega);have ew:IntKind.i64.wrap (((i+1:Nat):Int)+1)=((i+2:Nat):Int):=ze (by unfold lim;omega);have ew2:IntKind.i64.wrap (((i+1:Nat):Int)-1)=((i:Nat):Int):=by rw[zZ (by omega) (by omega)];omega
  have a1:=zx (P:=Tryz.prog) (sz:=1) (id:=id) yM wV (k:= .i64) hlt;have a2:=zx (P:=Tryz.prog) (sz:=1) (id:=id) yM wV (k:= .i64) (show i<l.length by omega);have p1:(l.map (D.int .i64))[i+1]? =some (.int .i64 l[i+1]):=by simp[hlt]
  have p2:(l.map (D.int .i64))[i]? =some (.int .i64 l[i]):=by simp[show i<l.length by omega]
  have hq:=zQf l[i+1] l[i];rw[Nat.mul_one] at a1 a2;cases hb:(yz l[i+1] l[i]==0) with
  |false=>
   rw[hb] at hq;replace hq:=hq.symm;have hn:∀j (h:j+1<l.length),j+1<i+2→(yz l[j+1] l[j]==0)=false:=fun j h1 h2=>by
    by_cases e:j=i
    ·subst e;exact hb
    ·exact hj j h1 (by omega)
   clear hj hdone hsame q1 h0 hb
   repeat' first|simp only[go_sem,zE8, *]|apply bc<;>intro hc
   refine zQ (by kernel_rfl) ?_
   repeat' first|simp only[go_sem,zE8, *]|apply bc<;>intro hc
   exact⟨by omega,hlt,hn⟩
  |true=>
   rw[hb] at hq;replace hq:=hq.symm;have hcs:yy yz l (i+2)=l.take (i+1):=by
    rw[zAz hlt,if_pos hb,hsame (i+1) (by omega) fun j h1 h2=>hj j h1 h2]
   have hsl:=zAF (P:=Tryz.prog) (t:=31) (sz:=1) (id:=id) (h:=h) zN7 yM wV (k:= .i64) hile;rw[Nat.mul_one] at hsl;clear hj hdone hsame q1 h0 hb
   repeat' first|simp only[go_sem,zE8, *]|apply bc<;>intro hc
   refine zQ (by kernel_rfl) ?_
   repeat' first|simp only[go_sem,zE8, *]|apply bc<;>intro hc
   refine yC (fun m fr h'=>fr 0= .rs id 1 0 l.length∧fr 4= .rs id 1 (i+1) (l.length- (i+1))∧fr 5= .int .i64 ((m+1:Nat):Int)∧i+1+(m+1)≤l.length∧∃ys:List Int,ys.length=l.length∧h'=h.set id (.row (ys.map (D.int .i64)))∧
    (yy yz l (i+2+m)).length≤i+1+m∧fr 3= .int .i64 (((yy yz l (i+2+m)).length:Nat):Int)∧ys.take (yy yz l (i+2+m)).length=yy yz l (i+2+m)∧ys.drop (i+1+m)=l.drop (i+1+m)) l.length ?_ ?_
   ·have hc1:(yy yz l (i+2)).length=i+1:=by rw[hcs,List.length_take];omega
    have hc2:yy yz l (i+2+0)=yy yz l (i+2):=rfl;have hres:i+1+(0+1)≤l.length∧∃ys:List Int,ys.length=l.length∧h=h.set id (.row (ys.map (D.int .i64)))∧
     (yy yz l (i+2+0)).length≤i+1+0∧D.int .i64 ((i+1:Nat):Int)= .int .i64 (((yy yz l (i+2+0)).length:Nat):Int)∧ys.take (yy yz l (i+2+0)).length=yy yz l (i+2+0)∧ys.drop (i+1+0)=l.drop (i+1+0):=
     ⟨by omega,l,rfl,(zBK hrow).symm,by rw[hc2,hc1];omega,by rw[hc2,hc1],by rw[hc2,hc1,hcs],rfl⟩
    clear hc1 hc2 hcs;simp only[go_sem,zE8,true_and,and_true,Int.ofNat_zero];obtain⟨r0,ys,r1,r2,r3,r4,r5,r6⟩:=hres;exact⟨f0,rfl,r0,ys,r1,r2,r3,f3.trans r4,r5,r6⟩
   clear hcs hsl hq p1 p2 a1 a2 f0 f3 e1 ew ew2;rintro m fr2 h2 hm ⟨f0,f4,f5,hml,ys,hyl,rfl,hcl,f3,hyt,hyd⟩;have hrow2:(h.set id (.row (ys.map (D.int .i64)))).at' id=some (.row (ys.map (D.int .i64))):=zC _ _ _;have hlen2:=fun(H:Heap)=>zCe (P:=Tryz.prog) (t:=31) (sz:=1) (id:=id) (off:=i+1) (len:=l.length- (i+1)) (h:=H) Tryz.underlying31;by_cases hlt2:m+1<l.length- (i+1)
   ·have e1:decide (((m+1:Nat):Int)<((l.length- (i+1):Nat):Int))=true:=decide_eq_true (by omega);have ew:IntKind.i64.wrap (((m+1:Nat):Int)+1)=((m+2:Nat):Int):=ze (by unfold lim;omega);have ew2:IntKind.i64.wrap (((m+1:Nat):Int)-1)=((m:Nat):Int):=by rw[zZ (by omega) (by omega)];omega
    have a1:=wA (P:=Tryz.prog) (sz:=1) (id:=id) (off:=i+1) yM wV (k:= .i64) hlt2;have a2:=wA (P:=Tryz.prog) (sz:=1) (id:=id) (off:=i+1) yM wV (k:= .i64) (show m<l.length- (i+1) by omega);obtain⟨x,hx⟩:∃x,l[i+1+m+1]? =some x:=⟨_,List.getElem?_eq_getElem (by omega)⟩;obtain⟨y,hy⟩:∃y,l[i+1+m]? =some y:=⟨_,List.getElem?_eq_getElem (by omega)⟩;have g1:ys[i+1+(m+1)]? =some x:=by
     have:=congrArg (fun z=>z[1]?) hyd;simp only[List.getElem?_drop] at this;rw[show i+1+(m+1)=i+1+m+1 by omega,this,hx]
    have g2:ys[i+1+m]? =some y:=by
     have:=congrArg (fun z=>z[0]?) hyd;simp only[List.getElem?_drop,Nat.add_zero] at this;rw[this,hy]
    rw[Nat.mul_one] at a1 a2;have p1:(ys.map (D.int .i64))[i+1+(m+1)]? =some (.int .i64 x):=by rw[List.getElem?_map,g1];rfl
    have p2:(ys.map (D.int .i64))[i+1+m]? =some (.int .i64 y):=by rw[List.getElem?_map,g2];rfl
    have hsx:yy yz l (i+2+(m+1))=if(yz x y==0)=true then yy yz l (i+2+m) else yy yz l (i+2+m)++ [x]:=by
     have:=zOk (c:=yz) hx hy;rw[show i+2+(m+1)=i+1+m+2 by omega,this,show i+2+m=i+1+m+1 by omega]
    have hyd2:∀zs:List Int,zs.drop (i+1+m)=l.drop (i+1+m)→zs.drop (i+1+(m+1))=l.drop (i+1+(m+1)):=fun zs e=>by
     have:=congrArg (List.drop 1) e;simpa [List.drop_drop,Nat.add_assoc] using this
    generalize hR:yy yz l (i+2+m)=R at *
    have hqn:=(zQf x y).symm;cases hb:(yz x y==0) with
    |true=>
     rw[hb] at hqn;rw[if_pos hb] at hsx;have hres:m<l.length∧i+1+(m+1+1)≤l.length∧∃zs:List Int,zs.length=l.length∧h.set id (.row (ys.map (D.int .i64)))=h.set id (.row (zs.map (D.int .i64)))∧
      (yy yz l (i+2+(m+1))).length≤i+1+(m+1)∧D.int .i64 ((R.length:Nat):Int)= .int .i64 (((yy yz l (i+2+(m+1))).length:Nat):Int)∧zs.take (yy yz l (i+2+(m+1))).length=yy yz l (i+2+(m+1))∧zs.drop (i+1+(m+1))=l.drop (i+1+(m+1)):=
      ⟨by omega,by omega,ys,hyl,rfl,by rw[hsx];omega,by rw[hsx],by rw[hsx];exact hyt,hyd2 _ hyd⟩
     clear hyt hyd hyd2 hsx g1 g2 hx hy hR hcl hb
     repeat' first|simp only[go_sem,zE8, *]|apply bc<;>intro hc
     refine zQ (by kernel_rfl) ?_
     repeat' first|simp only[go_sem,zE8, *]|apply bc<;>intro hc
    |false=>
     rw[hb] at hqn;rw[if_neg (by rw[hb];exact Bool.false_ne_true)] at hsx;have hRl:R.length<l.length:=by omega
     have a3:=zx (P:=Tryz.prog) (sz:=1) (id:=id) yM wV (k:= .i64) hRl;rw[Nat.mul_one] at a3;have hst:zW Tryz.prog 3 (.ptr id R.length) (.int .i64 x) (h.set id (.row (ys.map (D.int .i64))))=some (h.set id (.row ((ys.set R.length x).map (D.int .i64)))):=by
      rw[zT hrow2 wV (by rw[List.length_map,hyl];exact hRl) rfl rfl,zDU,List.map_set]
     have ew3:IntKind.i64.wrap (((R.length:Nat):Int)+1)=((R.length+1:Nat):Int):=ze (by unfold lim;omega);have hres:m<l.length∧i+1+(m+1+1)≤l.length∧∃zs:List Int,zs.length=l.length∧h.set id (.row ((ys.set R.length x).map (D.int .i64)))=h.set id (.row (zs.map (D.int .i64)))∧
      (yy yz l (i+2+(m+1))).length≤i+1+(m+1)∧D.int .i64 ((R.length+1:Nat):Int)= .int .i64 (((yy yz l (i+2+(m+1))).length:Nat):Int)∧zs.take (yy yz l (i+2+(m+1))).length=yy yz l (i+2+(m+1))∧zs.drop (i+1+(m+1))=l.drop (i+1+(m+1)):=by
      have hRn:(R++ [x]).length=R.length+1:=by simp
      refine⟨by omega,by omega,ys.set R.length x,by simpa using hyl,rfl,by rw[hsx,hRn];omega,by rw[hsx,hRn],?_,?_⟩
      ·rw[hsx,hRn,List.take_succ_eq_append_getElem (by rw[List.length_set];omega),List.getElem_set_self,List.take_set_of_le (Nat.le_refl _),hyt]
      ·rw[List.drop_set_of_lt (by omega)];exact hyd2 _ hyd
     clear hyt hyd hyd2 hsx g1 g2 hx hy hR hcl hb
     repeat' first|simp only[go_sem,zE8, *]|apply bc<;>intro hc
     refine zQ (by kernel_rfl) ?_
     repeat' first|simp only[go_sem,zE8, *]|apply bc<;>intro hc
   ·have e1:decide (((m+1:Nat):Int)<((l.length- (i+1):Nat):Int))=false:=decide_eq_false (by omega);have hme:i+2+m=l.length:=by omega
    have hce:yy yz l (i+2+m)=cpt yz l:=by rw[hme];rfl
    rw[hce] at hyt f3 hcl;have hcle:(cpt yz l).length≤l.length:=zB1 _;have hsl:∀H:Heap,yk Tryz.prog 31 (.rs id 1 0 l.length) (some (.int .i64 (((cpt yz l).length:Nat):Int))) none none H=some (.rs id 1 (cpt yz l).length (l.length- (cpt yz l).length)):=fun H=>by
     have:=zAF (P:=Tryz.prog) (t:=31) (sz:=1) (id:=id) (h:=H) zN7 yM wV (k:= .i64) hcle;rw[Nat.mul_one] at this;exact this
    have hsh:=fun(H:Heap)=>zAw (P:=Tryz.prog) (t:=31) (h:=H) zN7 yM (id:=id) (sz:=1) wV (k:= .i64) hcle;obtain⟨rest,hclr⟩:=zIU (P:=Tryz.prog) (sz:=1) (t:=31) (xs:=wa ys) yM zAd rfl rfl (by rw[zFa];exact hrow2) zIn (n:=(cpt yz l).length) (by rw[yv];omega);have htk:((wa ys).take (cpt yz l).length).flatten=(cpt yz l).map (D.int .i64):=by rw[wa,←List.map_take,hyt];exact zFa _
    rw[htk,zDU,yv,hyl,Nat.mul_one] at hclr;have hfin:=hQ (.rs id 1 0 (cpt yz l).length) (h.set id (.row ((cpt yz l).map (D.int .i64)++rest))) ⟨rfl,rest,rfl⟩;clear hyt hyd hme hce htk hQ
    repeat' first|simp only[go_sem,zE8, *]|apply bc<;>intro hc
 ·have e1:decide (((i+1:Nat):Int)<(l.length:Int))=false:=decide_eq_false (by omega);have hd:=hdone fun j h1 h2=>hj j h1 (by omega);clear hj hdone hsame q1 h0 hQ
  repeat' first|simp only[go_sem,zE8, *]|apply bc<;>intro hc
theorem zaw (l:List Int):(l.mergeSort fun x y=>decide (x≤y))=srt yz l:=by
 unfold srt;congr 1
 funext a b
 unfold yz;by_cases h:a≤b
 ·rw[decide_eq_true h];have h1:¬b<a:=by omega
  rw[if_neg h1];split<;>simp
 ·rw[decide_eq_false h];have h1:b<a:=by omega
  rw[if_pos h1];rfl
def zD4 (l:List Int):List Int:=cpt yz (srt yz l)
theorem zXD {l:List Int} (h0:l≠[]) (hl:l.length≤1048576) (tk:Tk) (h:Heap):zA Tryz.prog 109 [.sl 1 (wa l) tk] h fun r h'=>r= .rs h.next 1 0 l.length∧h'=h.new h.next (.row (l.map (D.int .i64))):=by
 have hpos:0<l.length:=List.length_pos_iff.2 h0;have hn:zDv Tryz.prog .eql 31 true (.sl 1 (wa l) tk) .nilsl=some (.bool false):=by rw[zBn (za.mk tk) Tryz.underlying31];rfl
 have hz:=fun nid h=>wu (P:=Tryz.prog) (nid:=nid) (h:=h) yM zAd wV rfl rfl (by omega:0<1);have hap:yD Tryz.prog true h.next 31 (.sl 1 [] .full) (.sl 1 (wa l) tk) h=some (.rs h.next 1 0 l.length,h.new h.next (.row (l.map (D.int .i64)))):=by
  rw[zFE yM zSi wV (by omega) zIn (by rw[zG8,yv];unfold lim;omega) (by rw[yv];unfold lim;omega),yv,if_neg (by omega),zRF Tryz.underlying3,zFa]
 refine zA.of_fn (g:=zPz) mix Tryz.func109 zeB rfl rfl ?_;simp only[Tryz.f109,gJ];simp only[qr,go_sem,ziK,hn,hz,hap]
theorem zax {l:List Int} {id:Nat} {g:Heap} (h0:l≠[]) (hl:l.length≤1048576) (hrow:g.at' id=some (.row (l.map (D.int .i64)))):
  zA Tryz.prog 110 [.rs id 1 0 l.length] g fun r h'=>r= .tuple []∧h'=g.set id (.row ((srt yz l).map (D.int .i64))):=by
 have:=zA.of_sortI (P:=Tryz.prog) (f:=110) h0 (by kernel_rfl) hrow (by omega) (fun blk off cap zs w h1 h2 h3=>Tryz.slices_Sort_int blk off cap zs w h1 h2 h3);rw[zaw] at this;exact this
theorem zOw {l:List Int} {id:Nat} {g:Heap} (h0:l≠[]) (hl:l.length≤1048576) (hrow:g.at' id=some (.row (l.map (D.int .i64)))):
  zA Tryz.prog 111 [.rs id 1 0 l.length] g fun r h'=>h'=g.del id∧r= .sl 1 (wa (cpt yz l)) .no:=
 zA.freezeD ((zRl h0 hl hrow).mono (by
  rintro r h' ⟨rfl,rest,rfl⟩;exact⟨id,_,zC _ _ _,by rw[zOl],zLP zIn (yv _) (by rw[zFa])⟩))
def zJD (num:Int) (ks:List Int):List D:=[.int .i64 num, .sl 1 (wa (zD4 ks)) .no]
theorem zQg (num:Int) (ks:List (List Int)):∀c∈ks.map (zJD num),c.length=2:=fun c hc=>by
 obtain⟨k,_,rfl⟩:=List.mem_map.1 hc;rfl
def zVO (h:Heap) (sz:Nat) (xs:List (List D)) (d:D):Prop:=(d= .nilsl∧xs= [])∨∃id,d= .rs id sz 0 xs.length∧h.at' id=some (.row xs.flatten)∧id<h.next∧xs≠[]
def zJE (d:D) (i:Nat):Prop:=match d with
 | .rs id _ _ _=>i=id
 |_=>False
theorem zVO.loc {h h':Heap} {sz:Nat} {xs:List (List D)} {d:D} (ho:zVO h sz xs d) (hn:h.next≤h'.next) (hk:∀i,zJE d i→h'.at' i=h.at' i):zVO h' sz xs d:=by
 rcases ho with h1| ⟨t,rfl,h1,h2⟩
 ·exact .inl h1
 ·exact .inr ⟨t,rfl,by rw[hk t rfl];exact h1,by omega,h2.2⟩
theorem zVO.app {P:Program} {h:Heap} {sz nid:Nat} {xs ys:List (List D)} {d:D} {tk:Tk} {t e:TypeId} (ho:zVO h sz xs d) (he:qL P t=some e) (hz:zGi P e=true) (hs:szT P e=sz) (h0:0<sz) (hr:∀cs,zA8 P e cs= .row cs) (hxs:∀y∈xs,y.length=sz) (hys:∀y∈ys,y.length=sz) (hy0:ys≠[])
  (hb:(xs.length+ys.length)*yR P e≤lim) (hl:xs.length+ys.length≤lim):∃g:Heap,yD P true nid t d (.sl sz ys tk) h=some (.rs nid sz 0 (xs++ys).length,g.new nid (.row (xs++ys).flatten))∧g.next=h.next∧(∀i,¬zJE d i→g.at' i=h.at' i):=by
 have hfl:ys.flatten.length=ys.length*sz:=qF hys;have hlen:0<ys.length:=List.length_pos_iff.2 hy0;simp only[yD,he,hz,hs,zR2,if_true,hfl,Nat.mul_div_cancel _ h0];rcases ho with⟨rfl,rfl⟩ | ⟨id,rfl,h1,h2⟩
 ·refine⟨h,?_,rfl,fun _ _=>rfl⟩;simp only[qW];rw[if_neg (by omega),if_pos (by simp only[Bool.and_eq_true,decide_eq_true_eq];simp only[List.length_nil,Nat.zero_add] at hb hl;exact⟨hb,hl⟩)];simp[hr]
 ·refine⟨h.del id,?_,rfl,fun i hi=>yi fun e=>hi (by rw[e];rfl)⟩;have hf2:xs.flatten.length=xs.length*sz:=qF hxs;simp only[qW,Bool.true_and,decide_true];rw[if_pos (by simp only[Bool.and_eq_true,decide_eq_true_eq];exact⟨hb,hl⟩)];simp only[h1,hf2,if_true];simp
theorem zVO.trunc {h:Heap} {sz:Nat} {xs:List (List D)} {d:D} (ho:zVO h sz xs d) (hx:∀x∈xs,x.length=sz) (x:D):qr d x h=h:=by
 rcases ho with⟨rfl,_⟩ | ⟨id,rfl,hr,_⟩
 ·rfl
 ·have hf:xs.flatten.length=xs.length*sz:=qF hx;cases x<;>simp[qr,hr,hf]
def YVf (num:Int) (fn:D) (nl nr:Nat) (ks:List (List Int)) (S:Nat→Prop) (h:Heap):Prop:=
 nl<h.next∧nr<h.next∧nl≠nr∧h.at' nr=some (.row [.int .i64 num,fn])∧∃d,h.at' nl=some (.row [d])∧zVO h 2 (ks.map (zJD num)) d∧¬zJE d nl∧¬zJE d nr∧∀i,S i↔(i=nl∨i=nr∨zJE d i)
set_option maxHeartbeats 2000000 in
theorem zay {num:Int} {fn:D} {nl nr:Nat} {ks:List (List Int)} (hks:ks.length<16777216) {S:Nat→Prop} {h:Heap} (hY:YVf num fn nl nr ks S h) {l:List Int} (l0:l≠[]) (hl:l.length≤5) (tk:Tk):
  zA Tryz.prog 108 [.sl 1 (wa l) tk, .ptr nl 0, .ptr nr 0] h fun _ h'=>∃S',(∀i,S' i→S i∨h.next≤i)∧But S h h'∧YVf num fn nl nr (ks++ [l]) S' h':=by
 obtain⟨y1,y2,y3,y4,d,y5,y6,y7,y8,y9⟩:=hY;have hcl:=zXD l0 (by omega) tk h;have hso:=zax l0 (by omega) (zJ h h.next (.row (l.map (D.int .i64))));have s0:srt yz l≠[]:=fun e=>l0 (List.length_eq_zero_iff.1 (by rw[←(qZ (c:=yz) l).length_eq,e];rfl));have sl:(srt yz l).length=l.length:=(qZ l).length_eq;have hco:=zOw s0 (by omega) (zC (h.new h.next (.row (l.map (D.int .i64)))) h.next (.row ((srt yz l).map (D.int .i64))));rw[sl] at hco;refine zA.of_fn (g:=zPq) mix Tryz.func108 zdw rfl rfl ?_;simp only[Tryz.f108,gJ]
 repeat' first|simp only[go_sem,zWE, *]|apply bc<;>intro hc
 refine hcl.mono ?_;rintro r h1 ⟨rfl,rfl⟩
 repeat' first|simp only[go_sem,zWE, *]|apply bc<;>intro hc
 refine hso.mono ?_;rintro r h1 ⟨rfl,rfl⟩;obtain⟨h0,e1,e2,e3⟩:∃h0:Heap,h0.at' nl=some (.row [d])∧h0.at' nr=some (.row [.int .i64 num,fn])∧∀i ob,h0.at' i=some ob→(i=nl∨i=nr)∧h.at' i=some ob:=by
  refine⟨⟨h.next,fun i=>if i=nl∨i=nr then h.at' i else none⟩,by simp[y5],by simp[y4],fun i ob e=> ?_⟩
  simp only at e;split at e
  ·exact⟨‹_›,e⟩
  ·cases e
 obtain⟨H1,hH1,hle1⟩:∃H1,(h.new h.next (.row (l.map (D.int .i64)))).set h.next (.row ((srt yz l).map (D.int .i64)))=H1∧HLe h0 H1:=⟨_,rfl,fun i ob e=>by
  obtain⟨g1,g2⟩:=e3 i ob e;have hne:i≠h.next:=by rcases g1 with rfl|rfl<;>omega
  rw[zE hne,zD hne];exact g2⟩
 have hnx:(H1.del h.next).next=h.next+1:=by rw[←hH1];exact zF h (.row (l.map (D.int .i64)))
 have hke:∀i,i≠h.next→(H1.del h.next).at' i=h.at' i:=fun i hi=>by rw[←hH1,yi hi,zE hi,zD hi]
 have hle2:HLe h0 (H1.del h.next):=fun i ob e=>by
  obtain⟨g1,g2⟩:=e3 i ob e;rw[hke _ (by rcases g1 with rfl|rfl<;>omega)];exact g2
 rw[hH1] at hco⊢;clear hcl hso hH1;have hb:yN Tryz.prog 33 [(0, .int .i64 num),(1, .sl 1 (wa (zD4 l)) .no)]=some (.agg (zJD num l)):=by
  simp[yN,zJi,zG9,qj,yj,zJD,D.cells,D.notTuple]
 have hbs:∀nid H,zM Tryz.prog false nid 45 1 [(0, .agg (zJD num l))] H=some (.sl 2 [zJD num l] .full,H):=fun nid H=>yf (x:= .agg (zJD num l)) wt zG9 zBj rfl rfl (by omega) (by omega) rfl rfl;refine z8 h0 [(0, .st,true),(1, .no,true),(2, .st,true),(3, .no,true),(4, .no,true),(5, .no,true),(6, .no,true),(7, .no,false),(8, .no,false)] (by kernel_rfl) (by kernel_rfl) hle1 ?_;simp only[go_sem,zWE,e1,e2,eq_true hle1];refine hco.mono ?_;rintro r h2 ⟨rfl,rfl⟩;generalize H1.del h.next=h2 at hnx hke hle2⊢;have y6':zVO h2 2 (ks.map (zJD num)) d:=y6.loc (by omega) fun i hi=>by
  refine hke i ?_;rcases y6 with⟨rfl,_⟩ | ⟨id,rfl,_,hid,_⟩
  ·exact hi.elim
  ·simp only[zJE] at hi;omega
 have hkl:(ks.map (zJD num)).length=ks.length:=List.length_map ..;obtain⟨g,hg1,hg2,hg3⟩:=zVO.app (nid:=h2.next) (tk:= .full) y6' wt zY8 zBj (by omega) (fun cs=>zBJ Tryz.underlying33) (zQg num ks) (ys:=[zJD num l]) (by simp[zJD]) (by simp) (by rw[hkl,zSj];unfold lim;simp;omega) (by rw[hkl];unfold lim;simp;omega);have hmp:ks.map (zJD num)++ [zJD num l]=(ks++ [l]).map (zJD num):=by simp
 rw[hmp] at hg1;have hnl:(g.new h2.next (.row ((ks++ [l]).map (zJD num)).flatten)).at' nl=some (.row [d]):=by rw[zD (by omega),hg3 _ y7,hke _ (by omega),y5]
 have hstr:zW Tryz.prog 45 (.ptr nl 0) (.rs h2.next 2 0 ((ks++ [l]).map (zJD num)).length) (g.new h2.next (.row ((ks++ [l]).map (zJD num)).flatten))=some ((g.new h2.next (.row ((ks++ [l]).map (zJD num)).flatten)).set nl (.row [.rs h2.next 2 0 ((ks++ [l]).map (zJD num)).length])):=by
  rw[zT hnl zc3 (by simp) rfl rfl];rfl
 have hgn:(g.new h2.next (.row ((ks++ [l]).map (zJD num)).flatten)).next=h.next+2:=by simp only[Heap.new];omega
 have htr:=y6'.trunc (zQg num ks);have hnorm:cpt yz (srt yz l)=zD4 l:=rfl;simp only[go_sem,zWE,hnorm,hb,hbs,htr,hg1,hstr,eq_true hle2];refine⟨fun i=>i=nl∨i=nr∨i=h2.next,fun i hi=> ?_,⟨by simp only[zu];omega,fun i hi hn=> ?_⟩,by simp only[zu];omega,by simp only[zu];omega,y3,?_,_,zC _ _ _, .inr ⟨h2.next,rfl,?_,?_,by simp⟩,?_,?_,fun i=>Iff.rfl⟩
 ·rcases hi with rfl|rfl|rfl
  ·exact .inl (.inl rfl)
  ·exact .inl (.inr (.inl rfl))
  ·exact .inr (by omega)
 ·have n1:i≠nl:=fun e=>hn ((y9 i).2 (.inl e));have n2:¬zJE d i:=fun e=>hn ((y9 i).2 (.inr (.inr e)));rw[zE n1,zD (by omega),hg3 _ n2,hke _ (by omega)]
 ·rw[zE (Ne.symm y3),zD (by omega),hg3 _ y8,hke _ (by omega),y4]
 ·rw[zE (by omega),zJ]
 ·simp only[zu];omega
 ·simp only[zJE];omega
 ·simp only[zJE];omega
theorem zXE {num:Int} {fn:D} {nl nr:Nat} :Fnd2 Tryz.prog 5 108 [.ptr nl 0, .ptr nr 0] (YVf num fn nl nr):=by
 refine⟨fun ks S h hy i hi=> ?_,fun ks S h h' hy hn hk=> ?_,fun ks S h l tk hy hl h0 h8 hft=> ?_⟩
 ·obtain⟨y1,y2,y3,y4,d,y5,y6,y7,y8,y9⟩:=hy;rcases(y9 i).1 hi with rfl|rfl|hi
  ·exact y1
  ·exact y2
  ·rcases y6 with⟨rfl,_⟩ | ⟨id,rfl,_,hid,_⟩
   ·exact hi.elim
   ·simp only[zJE] at hi;omega
 ·obtain⟨y1,y2,y3,y4,d,y5,y6,y7,y8,y9⟩:=hy;exact⟨by omega,by omega,y3,by rw[hk nr ((y9 _).2 (.inr (.inl rfl)))];exact y4,d,by rw[hk nl ((y9 _).2 (.inl rfl))];exact y5,y6.loc hn fun i hi=>hk i ((y9 i).2 (.inr (.inr hi))),y7,y8,y9⟩
 ·exact zay hl hy (List.length_pos_iff.1 h0) h8 tk
open Go.Proofs Go.Shelf Go.Sort
theorem zfW {l m:List Int} {d e:D} (hd:za 1 (wa l) d) (he:za 1 (wa m) e) (hl:l.length≤1048576) (g:Heap):zA Tryz.prog 114 [d,e] g fun r h'=>h'=g∧r= .int .i64 (qw l m):=by
 have hll:=zAp hd;have hml:=zAp he;obtain⟨q1,q2,_⟩:=zN hd;obtain⟨q3,q4,_⟩:=zN he;refine zA.of_fn (g:=zPr) mix Tryz.func114 zdx rfl rfl ?_;simp only[Tryz.f114,gJ]
 repeat' first|simp only[go_sem,zOI, *]|apply bc<;>intro hc
 refine yC (fun i fr h'=>fr 0=d∧fr 1=e∧fr 9=d∧fr 10= .int .i64 l.length∧fr 11= .int .i64 (i:Int)∧h'=g∧i≤m.length∧qw (l.drop i) (m.drop i)=qw l m) l.length ?_ ?_
 ·simp only[go_sem,zOI,true_and,and_true,Int.ofNat_zero];exact⟨Nat.zero_le _,rfl⟩
 rintro i fr h' hi ⟨f0,f1,f9,f10,f11,rfl,him,ho⟩;by_cases hlt:i<l.length
 ·have e1:decide ((i:Int)<(l.length:Int))=true:=decide_eq_true (by omega);have a1:=zCk hd hlt;by_cases hge:i≥m.length
  ·have e2:decide ((i:Int)≥(m.length:Int))=true:=decide_eq_true (by omega);have hr:qw l m=1:=by
    rw[List.drop_eq_getElem_cons hlt,List.drop_eq_nil_of_le hge] at ho;rw[←ho];rfl
   rw[hr];clear ho hr him hge
   repeat' first|simp only[go_sem,zOI, *]|apply bc<;>intro hc
  ·have e2:decide ((i:Int)≥(m.length:Int))=false:=decide_eq_false (by omega);have hmlt:i<m.length:=by omega
   have a2:=zCk he hmlt;rw[zT6 hlt hmlt] at ho;simp only[List.getD_eq_getElem?_getD,List.getElem?_eq_getElem hlt,List.getElem?_eq_getElem hmlt,Option.getD_some] at ho;have hc:=zII l[i] m[i] h';have ew:IntKind.i64.wrap ((i:Int)+1)=((i+1:Nat):Int):=ze (by unfold lim;omega);generalize hz:yz l[i] m[i]=z at *
   cases hb:(z==0) with
   |true=>
    have h0:z=0:=by simpa using hb
    rw[if_pos h0] at ho;have hfin:i<l.length∧i+1≤m.length∧qw (l.drop (i+1)) (m.drop (i+1))=qw l m:=⟨hlt,hmlt,ho⟩;clear ho him hge hz h0
    repeat' first|simp only[go_sem,zOI, *]|apply bc<;>intro hc|(refine zA.mono hc ?_;rintro r h ⟨hq,rfl⟩)
   |false=>
    have h0:¬z=0:=by simpa using hb
    rw[if_neg h0] at ho;rw[←ho];clear ho him hge hz h0
    repeat' first|simp only[go_sem,zOI, *]|apply bc<;>intro hc|(refine zA.mono hc ?_;rintro r h ⟨rfl,rfl⟩)
 ·have e1:decide ((i:Int)<(l.length:Int))=false:=decide_eq_false (by omega);have hie:l.length≤i:=by omega
  rw[List.drop_eq_nil_of_le hie] at ho;cases hlm:decide ((l.length:Int)<(m.length:Int)) with
  |true=>
   have hlm':=of_decide_eq_true hlm;have hr:qw l m= -1:=by
    rw[List.drop_eq_getElem_cons (show i<m.length by omega)] at ho;rw[←ho];rfl
   rw[hr];clear ho hr him hie
   repeat' first|simp only[go_sem,zOI, *]|apply bc<;>intro hc
  |false=>
   have hlm':=of_decide_eq_false hlm;have hr:qw l m=0:=by
    rw[List.drop_eq_nil_of_le (by omega)] at ho;rw[←ho];rfl
   rw[hr];clear ho hr him hie
   repeat' first|simp only[go_sem,zOI, *]|apply bc<;>intro hc
structure Vio where
 row:Int
 facts:List Int
def Vio.Is (v:Vio) (cs:List D):Prop:=∃d,cs= [.int .i64 v.row,d]∧za 1 (wa v.facts) d∧v.facts.length≤1048576
def zfX (v w:Vio):Int:=orL [yz v.row w.row,qw v.facts w.facts]
theorem zNR {v w:Vio} {cv cw:List D} (hv:v.Is cv) (hw:w.Is cw) (g:Heap):zA Tryz.prog 76 [.agg cv, .agg cw] g fun r h'=>h'=g∧r= .int .i64 (zfX v w):=by
 obtain⟨d,rfl,hd,hdl⟩:=hv;obtain⟨e,rfl,he,hel⟩:=hw;have h1:=zII v.row w.row;have h2:=zfW hd he hdl;have h3:=ze3 (l:=[yz v.row w.row,qw v.facts w.facts]) (za.mk .full) (by simp);have hb:=bs2 (yz v.row w.row) (qw v.facts w.facts);obtain⟨q1,q2,_⟩:=zN hd;obtain⟨q3,q4,_⟩:=zN he;have hle:∀h:Heap,HLe h h:=fun _ _ _ e=>e;unfold zfX;refine zA.of_fn (g:=zV0) mix Tryz.func76 zjw rfl rfl ?_;simp only[Tryz.f76,gJ]
 repeat' first|simp only[go_sem,zjv, *]|apply bc<;>intro hc
 refine z8 g [(0, .no,true),(1, .no,true),(2, .no,true),(3, .no,true),(5, .no,true),(6, .st,true),(7, .no,true),(8, .st,true),(4, .no,true),(9, .no,true),(10, .no,true),(11, .no,true),(12, .no,true)] (by kernel_rfl) (by kernel_rfl) (fun _ _ e=>e) ?_
 repeat' first|simp only[go_sem,zjv, *]|apply bc<;>intro hc|(refine zA.mono (h1 _) ?_;rintro r h ⟨rfl,rfl⟩)|(refine zA.mono (h2 _) ?_;rintro r h ⟨rfl,rfl⟩)|(refine zA.mono (h3 _) ?_;rintro r h ⟨rfl,rfl⟩)
theorem Vio.Is.two {v:Vio} {cv:List D} (hv:v.Is cv):zS true 2 cv 0=some (.agg cv):=by
 obtain⟨d,rfl,_⟩:=hv;exact zB rfl (by omega)
theorem zaz {v w:Vio} {cv cw:List D} (hv:v.Is cv) (hw:w.Is cw) (g:Heap):zA Tryz.prog 45 [.agg cv, .agg cw] g fun r h'=>h'=g∧r= .bool (zfX v w==0):=by
 have hc:=zNR hv hw;have h1:=Vio.Is.two hv;have h2:=Vio.Is.two hw;refine zA.of_fn (g:=zVt) mix Tryz.func45 zjn rfl rfl ?_;simp only[Tryz.f45,gJ]
 repeat' first|simp only[go_sem,zkl, *]|apply bc<;>intro hc|(refine zA.mono (hc _) ?_;rintro r h ⟨rfl,rfl⟩)
theorem zCu:∀a b:List Int,qw a b=zGf yz a b
 | [],[]=>rfl
 | [],_::_=>rfl
 |_::_,[]=>rfl
 |x::xs,y::ys=>by
  simp only[qw,zGf,zQT,zCu xs ys]
theorem zUt:QC qw:=by
 have:=zLR.list;exact⟨fun x y=>by rw[zCu,zCu];exact this.anti x y,fun x y z=>by rw[zCu,zCu,zCu];exact this.trans x y z⟩
theorem zUu (x y:List Int) (h:qw x y=0):x=y:=by
 rw[zCu] at h;exact zLM zaW _ _ h
def zRm (num:Int) (x:List Int):List D:=[.int .i64 num, .sl 1 (wa x) .no]
def vbs (num:Int) (l:List (List Int)):List (List D):=l.map (zRm num)
theorem zAl (num:Int) (l:List (List Int)):(vbs num l).length=l.length:=List.length_map ..
theorem zCv (num:Int) (l:List (List Int)):∀x∈vbs num l,x.length=2:=fun x hx=>by
 obtain⟨y,_,rfl⟩:=List.mem_map.1 hx;rfl
theorem zLf (num:Int) {x:List Int} (h:x.length≤1048576):(Vio.mk num x).Is (zRm num x):=⟨_,rfl,za.mk .no,h⟩
theorem zNS (num:Int) (x y:List Int):zfX ⟨num,x⟩ ⟨num,y⟩ =qw x y:=by
 have h:yz num num=0:=zLR.refl num;simp only[zfX,orL,h,if_true];split
 ·rename_i q;exact q.symm
 ·rfl
theorem za0 {num:Int} {l:List (List Int)} {id:Nat} {g:Heap} (h0:l≠[]) (hl:l.length≤16777216) (hle:∀x∈l,x.length≤1048576) (hrow:g.at' id=some (.row (vbs num l).flatten)):
  zA Tryz.prog 112 [.rs id 2 0 l.length, .fn (.func 76) [] []] g fun r h'=>r= .tuple []∧h'=g.set id (.row (vbs num (srt qw l)).flatten):=by
 have:=zA.of_sortK (P:=Tryz.prog) (f:=112) (cmp:=76) (k:=2) (cells:=zRm num) (xs:=l) (id:=id) (pre:=[]) (post:=[]) (h:=g) (cf:=qw) (mid:=[]) (midV:=[]) (fun M ρ vs h=>by simpa [yA] using h) h0 (by omega) (fun x hx=>rfl) (by kernel_rfl) (enters_of Tryz.func76 (by kernel_rfl) rfl) (by simpa [vbs] using hrow) zUt.swo (by omega)
  (fun x hx y hy H=>by have:=zNR (zLf num (hle x hx)) (zLf num (hle y hy)) H;rw[zNS] at this;exact this) (fun α _ enc h1 h2 cf hO g cb blk off cap d w hg hc hH hb hs hd=>AnyQ.slices_SortFunc Tryz.sortVio 2 (Tryz.isAgg33) (Tryz.sizeOf33) enc h1 h2 cf hO g cb blk off cap d w hg hc hH hb hs)
 refine this.mono fun r h' ⟨e1,ys,hp,hs,e2⟩=>⟨e1,?_⟩;rw[e2,zQU zUt zUu hp hs];simp[vbs]
theorem zCw {α:Type} {f:α→List D} {p:α→Prop} :∀ {ys:List (List D)},(∀y∈ys,∃s,y=f s∧p s)→∃l:List α,ys=l.map f∧∀s∈l,p s
 | [],_=>⟨[],rfl,fun n hn=>by cases hn⟩
 |y::ys,h=>by
  obtain⟨n,rfl,hn⟩:=h y (by simp);obtain⟨ks,rfl,hk⟩:=zCw (ys:=ys) fun z hz=>h z (List.mem_cons_of_mem _ hz);exact⟨n::ks,rfl,fun m hm=>by
   rcases List.mem_cons.1 hm with rfl|hm
   ·exact hn
   ·exact hk m hm⟩
theorem zQh {k:Nat} {c:List D} (h:Shp Tryz.prog k 40 c):∃d l,c= [d]∧za 1 (yI l) d∧l.length≤1048576:=by
 obtain⟨d,xs,j,e,hj,hs,_,hl,hx⟩:=zGY Tryz.underlying40 zAe h;obtain⟨l,rfl,hk⟩:=zCw (f:=fun s:List UInt8=>[D.str s]) fun y hy=>zAg Tryz.underlying9 (hx y hy);rw[List.length_map] at hl;exact⟨d,l,e,hs,hl⟩
theorem zXF {k:Nat} {c:List D} (h:Shp Tryz.prog k 31 c):∃d l,c= [d]∧za 1 (wa l) d∧l.length≤1048576:=by
 obtain⟨d,xs,j,e,hj,hs,_,hl,hx⟩:=zGY Tryz.underlying31 wV h;obtain⟨l,rfl,hk⟩:=zCw (f:=fun s:Int=>[D.int .i64 s]) fun y hy=>zA4 Tryz.underlying3 (hx y hy);rw[List.length_map] at hl;exact⟨d,l,e,hs,hl⟩
theorem za1 {k:Nat} {c:List D} (h:Shp Tryz.prog k 124 c):∃n:Lic,c=n.cells∧n.Sm:=by
 obtain⟨j,_,hf⟩:=zAh Tryz.underlying124 h;obtain⟨c1,r1,rfl,h1,hf⟩:=zl hf;obtain⟨c2,r2,rfl,h2,hf⟩:=zl hf;obtain⟨c3,r3,rfl,h3,hf⟩:=zl hf;obtain⟨c4,r4,rfl,h4,hf⟩:=zl hf;obtain rfl:=zCf hf;obtain⟨s1,rfl,b1⟩:=zAg Tryz.underlying9 h1;obtain⟨s2,rfl,b2⟩:=zAg Tryz.underlying9 h2;obtain⟨s3,rfl,b3⟩:=zA4 Tryz.underlying3 h3;obtain⟨s4,rfl,b4⟩:=zAg Tryz.underlying9 h4;exact⟨⟨s1,s2,s3,s4⟩,rfl,b1,b2,b4⟩
theorem za2 {k:Nat} {c:List D} (h:Shp Tryz.prog k 129 c):∃n:Exc,c=n.cells∧n.Ok:=by
 obtain⟨j,_,hf⟩:=zAh Tryz.underlying129 h;obtain⟨c1,r1,rfl,h1,hf⟩:=zl hf;obtain⟨c2,r2,rfl,h2,hf⟩:=zl hf;obtain⟨c3,r3,rfl,h3,hf⟩:=zl hf;obtain rfl:=zCf hf;obtain⟨s1,rfl,b1⟩:=zAg Tryz.underlying9 h1;obtain⟨s2,rfl,b2⟩:=zAg Tryz.underlying9 h2;obtain⟨d,l,rfl,i3,b3⟩:=zXF h3;exact⟨⟨s1,s2,l,d⟩,rfl,i3,b3,b1⟩
theorem za3 {k:Nat} {c:List D} (h:Shp Tryz.prog k 92 c):∃n:Cla,c=n.cells∧n.Ok:=by
 obtain⟨j,_,hf⟩:=zAh Tryz.underlying92 h;obtain⟨c1,r1,rfl,h1,hf⟩:=zl hf;obtain⟨c2,r2,rfl,h2,hf⟩:=zl hf;obtain⟨c3,r3,rfl,h3,hf⟩:=zl hf;obtain⟨c4,r4,rfl,h4,hf⟩:=zl hf;obtain⟨c5,r5,rfl,h5,hf⟩:=zl hf;obtain rfl:=zCf hf;obtain⟨s1,rfl,b1⟩:=zAg Tryz.underlying9 h1;obtain⟨s2,rfl,b2⟩:=zA4 Tryz.underlying3 h2;obtain⟨s3,rfl,b3⟩:=zA4 Tryz.underlying3 h3;obtain⟨s4,rfl,b4⟩:=zA4 Tryz.underlying3 h4;obtain⟨d,l,rfl,i5,b5⟩:=zQh h5;exact⟨⟨s1,s2,s3,s4,l,d⟩,rfl,i5,b5⟩
theorem za4 {k:Nat} {c:List D} (h:Shp Tryz.prog k 135 c):∃n:Apt,c=n.cells∧True:=by
 obtain⟨j,_,hf⟩:=zAh Tryz.underlying135 h;obtain⟨c1,r1,rfl,h1,hf⟩:=zl hf;obtain⟨c2,r2,rfl,h2,hf⟩:=zl hf;obtain rfl:=zCf hf;obtain⟨s1,rfl,b1⟩:=zAg Tryz.underlying9 h1;obtain⟨s2,rfl,b2⟩:=zAg Tryz.underlying9 h2;exact⟨⟨s1,s2⟩,rfl,trivial⟩
theorem za5 {k:Nat} {c:List D} (h:Shp Tryz.prog k 27 c):∃n:Cat,qg n (.agg c)∧n.Sm:=by
 obtain⟨j,_,hf⟩:=zAh Tryz.underlying27 h;obtain⟨c1,r1,rfl,h1,hf⟩:=zl hf;obtain⟨c2,r2,rfl,h2,hf⟩:=zl hf;obtain⟨c3,r3,rfl,h3,hf⟩:=zl hf;obtain⟨c4,r4,rfl,h4,hf⟩:=zl hf;obtain rfl:=zCf hf;obtain⟨d1,x1,j1,rfl,_,i1,_,b1,h1⟩:=zGY Tryz.underlying22 zCc h1;obtain⟨d2,x2,j2,rfl,_,i2,_,b2,h2⟩:=zGY Tryz.underlying23 zHv h2;obtain⟨d3,x3,j3,rfl,_,i3,_,b3,h3⟩:=zGY Tryz.underlying24 zGU h3;obtain⟨d4,x4,j4,rfl,_,i4,_,b4,h4⟩:=zGY Tryz.underlying25 zKv h4;obtain⟨l1,rfl,k1⟩:=zCw fun y hy=>za1 (h1 y hy);obtain⟨l2,rfl,k2⟩:=zCw fun y hy=>za2 (h2 y hy);obtain⟨l3,rfl,k3⟩:=zCw fun y hy=>za3 (h3 y hy)
 obtain⟨l4,rfl,k4⟩:=zCw fun y hy=>za4 (h4 y hy);rw[List.length_map] at b1 b2 b3 b4;exact⟨⟨l1,l2,l3,l4⟩,⟨d1,d2,d3,d4,rfl,i1,i2,i3,i4⟩,⟨b1,k1⟩,⟨b2,k2⟩,⟨b3,k3⟩,b4⟩
theorem zYb:∀ {l:List Ex},(∀e∈l,e.Ok)→okL l
 | [],_=>by simp only[okL]
 |e::l,h=>by simp only[okL];exact⟨h e (by simp),zYb fun x hx=>h x (List.mem_cons_of_mem _ hx)⟩
theorem zfY (k:Nat):∀ {c:List D},Shp Tryz.prog k 85 c→∃e:Ex,c=e.cells∧e.Ok:=by
 induction k using Nat.strongRecOn with
 |_ k ih=>
 intro c h;obtain⟨j,hj,hf⟩:=zAh Tryz.underlying85 h;obtain⟨c1,r1,rfl,h1,hf⟩:=zl hf;obtain⟨c2,r2,rfl,h2,hf⟩:=zl hf;obtain⟨c3,r3,rfl,h3,hf⟩:=zl hf;obtain⟨c4,r4,rfl,h4,hf⟩:=zl hf;obtain rfl:=zCf hf;obtain⟨s1,rfl,b1⟩:=zA4 Tryz.underlying3 h1;obtain⟨s2,rfl,b2⟩:=zAg Tryz.underlying9 h2;obtain⟨s3,rfl,b3⟩:=zAg Tryz.underlying9 h3;obtain⟨d4,x4,m,rfl,hm,i4,_,b4,h4⟩:=zGY Tryz.underlying83 zSl h4;obtain⟨l,rfl,kl⟩:=zCw fun y hy=>ih m (by omega) (h4 y hy);rw[List.length_map] at b4;exact⟨.mk s1 s2 s3 l d4,rfl,by simp only[Ex.Ok];exact⟨i4,b4,b2,b3,zYb kl⟩⟩
theorem za6 {k:Nat} {c:List D} (h:Shp Tryz.prog k 87 c):∃f:Fac,c=f.cells∧f.Ok0:=by
 obtain⟨j,_,hf⟩:=zAh Tryz.underlying87 h;obtain⟨c1,r1,rfl,h1,hf⟩:=zl hf;obtain⟨c2,r2,rfl,h2,hf⟩:=zl hf;obtain⟨c3,r3,rfl,h3,hf⟩:=zl hf;obtain⟨c4,r4,rfl,h4,hf⟩:=zl hf;obtain⟨c5,r5,rfl,h5,hf⟩:=zl hf;obtain⟨c6,r6,rfl,h6,hf⟩:=zl hf;obtain⟨c7,r7,rfl,h7,hf⟩:=zl hf;obtain⟨c8,r8,rfl,h8,hf⟩:=zl hf;obtain⟨c9,r9,rfl,h9,hf⟩:=zl hf;obtain rfl:=zCf hf;obtain⟨s1,rfl,b1⟩:=zA4 Tryz.underlying3 h1;obtain⟨s2,rfl,b2⟩:=zAg Tryz.underlying9 h2;obtain⟨s3,rfl,b3⟩:=zAg Tryz.underlying9 h3;obtain⟨s4,rfl,b4⟩:=zA4 Tryz.underlying3 h4;obtain⟨s5,rfl,b5⟩:=zA4 Tryz.underlying3 h5;obtain⟨s6,rfl,b6⟩:=zA4 Tryz.underlying3 h6
 obtain⟨s7,rfl⟩:=zWW Tryz.underlying4 h7;obtain⟨e,rfl,b8⟩:=zfY _ h8;obtain⟨d,l,rfl,i9,b9⟩:=zQh h9;exact⟨⟨s1,s2,s3,s4,s5,s6,s7,e,l,d⟩,rfl,b8,i9,b9,b2,b3⟩
theorem zUv {k:Nat} {c:List D} (h:Shp Tryz.prog k 29 c):∃d fs,c= [d]∧za 12 (zCz fs) d∧fs.length≤1048576∧(∀f∈fs,f.Ok0)∧∀f∈fs,yS f.cells:=by
 obtain⟨d,xs,j,e,hj,hs,_,hl,hx⟩:=zGY Tryz.underlying29 zGT h;obtain⟨l,rfl,hk⟩:=zCw (f:=Fac.cells) (p:=fun f=>f.Ok0∧yS f.cells) fun y hy=>by
  obtain⟨f,hf,ho⟩:=za6 (hx y hy);exact⟨f,hf,ho,by rw[←hf];exact zDK _ _ _ (hx y hy)⟩
 rw[List.length_map] at hl;exact⟨d,l,e,hs,hl,fun f hf=>(hk f hf).1,fun f hf=>(hk f hf).2⟩
set_option maxHeartbeats 4000000 in
theorem zRn {num:Int} {l:List (List Int)} {id:Nat} {g:Heap} (h0:l≠[]) (hl:l.length≤16777216) (hle:∀x∈l,x.length≤1048576) (hrow:g.at' id=some (.row (vbs num l).flatten)):
  zA Tryz.prog 113 [.rs id 2 0 l.length, .fn (.func 45) [] []] g fun r h'=>r= .rs id 2 0 (cpt qw l).length∧∃rest,h'=g.set id (.row ((vbs num (cpt qw l)).flatten++rest)):=by
 have hlen:=fun(h:Heap)=>zCe (P:=Tryz.prog) (t:=45) (sz:=2) (id:=id) (off:=0) (len:=l.length) (h:=h) Tryz.underlying45;have hpos:0<l.length:=List.length_pos_iff.2 h0;have heq:∀x∈l,∀y∈l,∀H,zA Tryz.prog 45 [.agg (zRm num x), .agg (zRm num y)] H fun r h'=>h'=H∧r= .bool (qw x y==0):=fun x hx y hy H=>by
  have:=zaz (zLf num (hle x hx)) (zLf num (hle y hy)) H;rw[zNS] at this;exact this
 have hsame:∀n,n≤l.length→(∀i (h:i+1<l.length),i+1<n→(qw l[i+1] l[i]==0)=false)→yy qw l n=l.take n:=fun n hn hh=>by
  induction n with
  |zero=>rfl
  |succ n ih=>
   cases n with
   |zero=>rw[zFR hpos,List.take_one];simp[List.head?_eq_getElem?,hpos]
   |succ k=>
    rw[zAz (by omega),if_neg (by rw[hh k (by omega) (by omega)];exact Bool.false_ne_true),ih (by omega) fun i h1 h2=>hh i h1 (by omega)];exact(List.take_succ_eq_append_getElem (by omega)).symm
 refine zA.post fun Q hQ=> ?_;have hdone:(∀i (h:i+1<l.length),i+1<l.length→(qw l[i+1] l[i]==0)=false)→Q (.rs id 2 0 l.length) g:=fun hh=>hQ _ _ (by
  have e:cpt qw l=l:=by
   have:=hsame l.length (Nat.le_refl _) hh;rw[List.take_length] at this;exact this
  rw[e];exact⟨rfl,[],by rw[List.append_nil,zBK hrow]⟩)
 refine zA.of_fn (g:=zMV) mix Tryz.func113 zZr rfl rfl ?_;simp only[Tryz.f113,gJ];cases q1:decide ((l.length:Int)<2) with
 |true=>
  have hd:=hdone fun i h1 h2=>by have:=of_decide_eq_true q1;omega
  clear hdone hQ
  repeat' first|simp only[go_sem,zES, *]|apply bc<;>intro hc
 |false=>
 repeat' first|simp only[go_sem,zES, *]|apply bc<;>intro hc
 refine yC (fun i fr h=>fr 0= .rs id 2 0 l.length∧fr 1= .fn (.func 45) [] []∧fr 5= .int .i64 ((i+1:Nat):Int)∧h=g∧i+1≤l.length∧∀j (h:j+1<l.length),j+1<i+1→(qw l[j+1] l[j]==0)=false) l.length ?_ ?_
 ·simp only[go_sem,zES,true_and,and_true,Int.ofNat_zero];exact⟨rfl,hpos,fun j h1 h2=>by omega⟩
 rintro i fr k0 hi ⟨f0,f1,f5,rfl,hile,hj⟩;by_cases hlt:i+1<l.length
 ·have e1:decide (((i+1:Nat):Int)<(l.length:Int))=true:=decide_eq_true (by omega);have ew:IntKind.i64.wrap (((i+1:Nat):Int)+1)=((i+2:Nat):Int):=ze (by unfold lim;omega);have ew2:IntKind.i64.wrap (((i+1:Nat):Int)-1)=((i:Nat):Int):=by rw[zZ (by omega) (by omega)];omega
  have a1:=zx (P:=Tryz.prog) (sz:=2) (id:=id) wt zBj (k:= .i64) hlt;have a2:=zx (P:=Tryz.prog) (sz:=2) (id:=id) wt zBj (k:= .i64) (show i<l.length by omega);have p1:=zBT (zCv num l) (by omega) (show(vbs num l)[i+1]? =some (zRm num l[i+1]) by simp[vbs,hlt]);have p2:=zBT (zCv num l) (by omega) (show(vbs num l)[i]? =some (zRm num l[i]) by simp[vbs,show i<l.length by omega]);have hq:=heq l[i+1] (List.getElem_mem hlt) l[i] (List.getElem_mem (by omega)) k0;cases hb:(qw l[i+1] l[i]==0) with
  |false=>
   rw[hb] at hq;have hn:∀j (h:j+1<l.length),j+1<i+2→(qw l[j+1] l[j]==0)=false:=fun j h1 h2=>by
    by_cases e:j=i
    ·subst e;exact hb
    ·exact hj j h1 (by omega)
   clear hj hdone hsame q1 h0 hb heq
   repeat' first|simp only[go_sem,zES, *]|apply bc<;>intro hc
   refine zQ (by kernel_rfl) ?_
   repeat' first|simp only[go_sem,zES, *]|apply bc<;>intro hc|(refine zA.mono hq ?_;rintro r h ⟨hq2,rfl⟩)
   exact⟨by omega,hlt,hn⟩
  |true=>
   rw[hb] at hq;have hcs:yy qw l (i+2)=l.take (i+1):=by
    rw[zAz hlt,if_pos hb,hsame (i+1) (by omega) fun j h1 h2=>hj j h1 h2]
   have hsl:=zAF (P:=Tryz.prog) (t:=45) (sz:=2) (id:=id) (h:=k0) zN8 wt zBj (k:= .i64) hile;clear hj hdone hsame q1 h0 hb
   repeat' first|simp only[go_sem,zES, *]|apply bc<;>intro hc
   refine zQ (by kernel_rfl) ?_
   repeat' first|simp only[go_sem,zES, *]|apply bc<;>intro hc|(refine zA.mono hq ?_;rintro r h ⟨hq2,rfl⟩)
   refine yC (fun m fr h'=>fr 0= .rs id 2 0 l.length∧fr 1= .fn (.func 45) [] []∧fr 6= .rs id 2 ((i+1)*2) (l.length- (i+1))∧fr 7= .int .i64 ((m+1:Nat):Int)∧i+1+(m+1)≤l.length∧∃ys:List (List Int),ys.length=l.length∧h'=k0.set id (.row (vbs num ys).flatten)∧
    (yy qw l (i+2+m)).length≤i+1+m∧fr 5= .int .i64 (((yy qw l (i+2+m)).length:Nat):Int)∧ys.take (yy qw l (i+2+m)).length=yy qw l (i+2+m)∧ys.drop (i+1+m)=l.drop (i+1+m)) l.length ?_ ?_
   ·have hc1:(yy qw l (i+2)).length=i+1:=by rw[hcs,List.length_take];omega
    have hc2:yy qw l (i+2+0)=yy qw l (i+2):=rfl;have hres:i+1+(0+1)≤l.length∧∃ys:List (List Int),ys.length=l.length∧k0=k0.set id (.row (vbs num ys).flatten)∧
     (yy qw l (i+2+0)).length≤i+1+0∧D.int .i64 ((i+1:Nat):Int)= .int .i64 (((yy qw l (i+2+0)).length:Nat):Int)∧ys.take (yy qw l (i+2+0)).length=yy qw l (i+2+0)∧ys.drop (i+1+0)=l.drop (i+1+0):=
     ⟨by omega,l,rfl,(zBK hrow).symm,by rw[hc2,hc1];omega,by rw[hc2,hc1],by rw[hc2,hc1,hcs],rfl⟩
    clear hc1 hc2 hcs;simp only[go_sem,zES,true_and,and_true,Int.ofNat_zero];obtain⟨r0,ys,r1,r2,r3,r4,r5,r6⟩:=hres;exact⟨f0,f1,rfl,r0,ys,r1,r2,r3,f5.trans r4,r5,r6⟩
   clear hcs hsl hq p1 p2 a1 a2 f0 f1 f5 e1 ew ew2;rintro m fr2 h2 hm ⟨f0,f1,f6,f7,hml,ys,hyl,rfl,hcl,f5,hyt,hyd⟩;have hrow2:(k0.set id (.row (vbs num ys).flatten)).at' id=some (.row (vbs num ys).flatten):=zC _ _ _;have hlen2:=fun(H:Heap)=>zCe (P:=Tryz.prog) (t:=45) (sz:=2) (id:=id) (off:=(i+1)*2) (len:=l.length- (i+1)) (h:=H) Tryz.underlying45;by_cases hlt2:m+1<l.length- (i+1)
   ·have e1:decide (((m+1:Nat):Int)<((l.length- (i+1):Nat):Int))=true:=decide_eq_true (by omega);have ew:IntKind.i64.wrap (((m+1:Nat):Int)+1)=((m+2:Nat):Int):=ze (by unfold lim;omega);have ew2:IntKind.i64.wrap (((m+1:Nat):Int)-1)=((m:Nat):Int):=by rw[zZ (by omega) (by omega)];omega
    have a1:=wA (P:=Tryz.prog) (sz:=2) (id:=id) (off:=(i+1)*2) wt zBj (k:= .i64) hlt2;have a2:=wA (P:=Tryz.prog) (sz:=2) (id:=id) (off:=(i+1)*2) wt zBj (k:= .i64) (show m<l.length- (i+1) by omega);obtain⟨x,hx⟩:∃x,l[i+1+m+1]? =some x:=⟨_,List.getElem?_eq_getElem (by omega)⟩;obtain⟨y,hy⟩:∃y,l[i+1+m]? =some y:=⟨_,List.getElem?_eq_getElem (by omega)⟩;have g1:ys[i+1+(m+1)]? =some x:=by
     have:=congrArg (fun z=>z[1]?) hyd;simp only[List.getElem?_drop] at this;rw[show i+1+(m+1)=i+1+m+1 by omega,this,hx]
    have g2:ys[i+1+m]? =some y:=by
     have:=congrArg (fun z=>z[0]?) hyd;simp only[List.getElem?_drop,Nat.add_zero] at this;rw[this,hy]
    have cg:∀ (k:Nat) (x:List Int),ys[k]? =some x→(vbs num ys)[k]? =some (zRm num x):=fun k x e=>by simp[vbs,e]
    have p1:=zCp (zCv num ys) (by omega) (cg _ _ g1);have p2:=zCp (zCv num ys) (by omega) (cg _ _ g2);have hsx:yy qw l (i+2+(m+1))=if(qw x y==0)=true then yy qw l (i+2+m) else yy qw l (i+2+m)++ [x]:=by
     have:=zOk (c:=qw) hx hy;rw[show i+2+(m+1)=i+1+m+2 by omega,this,show i+2+m=i+1+m+1 by omega]
    have hyd2:∀zs:List (List Int),zs.drop (i+1+m)=l.drop (i+1+m)→zs.drop (i+1+(m+1))=l.drop (i+1+(m+1)):=fun zs e=>by
     have:=congrArg (List.drop 1) e;simpa [List.drop_drop,Nat.add_assoc] using this
    generalize hR:yy qw l (i+2+m)=R at *
    have hqn:=heq x (List.mem_of_getElem? hx) y (List.mem_of_getElem? hy) (k0.set id (.row (vbs num ys).flatten));cases hb:(qw x y==0) with
    |true=>
     rw[hb] at hqn;rw[if_pos hb] at hsx;have hres:m<l.length∧i+1+(m+1+1)≤l.length∧∃zs:List (List Int),zs.length=l.length∧k0.set id (.row (vbs num ys).flatten)=k0.set id (.row (vbs num zs).flatten)∧
      (yy qw l (i+2+(m+1))).length≤i+1+(m+1)∧D.int .i64 ((R.length:Nat):Int)= .int .i64 (((yy qw l (i+2+(m+1))).length:Nat):Int)∧zs.take (yy qw l (i+2+(m+1))).length=yy qw l (i+2+(m+1))∧zs.drop (i+1+(m+1))=l.drop (i+1+(m+1)):=
      ⟨by omega,by omega,ys,hyl,rfl,by rw[hsx];omega,by rw[hsx],by rw[hsx];exact hyt,hyd2 _ hyd⟩
     clear hyt hyd hyd2 hsx g1 g2 cg hx hy hR hcl hb
     repeat' first|simp only[go_sem,zES, *]|apply bc<;>intro hc
     refine zQ (by kernel_rfl) ?_
     repeat' first|simp only[go_sem,zES, *]|apply bc<;>intro hc|(refine zA.mono hqn ?_;rintro r h ⟨hq2,rfl⟩)
    |false=>
     rw[hb] at hqn;rw[if_neg (by rw[hb];exact Bool.false_ne_true)] at hsx;have hRl:R.length<l.length:=by omega
     have a3:=zx (P:=Tryz.prog) (sz:=2) (id:=id) wt zBj (k:= .i64) hRl;have hst:=zH9 (P:=Tryz.prog) (t:=33) hrow2 (zCv num ys) (by omega) zBj (i:=R.length) (by rw[zAl,hyl];exact hRl) (x:=zRm num x) rfl rfl;have hset:(vbs num ys).set R.length (zRm num x)=vbs num (ys.set R.length x):=by rw[vbs,vbs,List.map_set]
     rw[hset,zDU] at hst;have ew3:IntKind.i64.wrap (((R.length:Nat):Int)+1)=((R.length+1:Nat):Int):=ze (by unfold lim;omega);have hres:m<l.length∧i+1+(m+1+1)≤l.length∧∃zs:List (List Int),zs.length=l.length∧k0.set id (.row (vbs num (ys.set R.length x)).flatten)=k0.set id (.row (vbs num zs).flatten)∧
      (yy qw l (i+2+(m+1))).length≤i+1+(m+1)∧D.int .i64 ((R.length+1:Nat):Int)= .int .i64 (((yy qw l (i+2+(m+1))).length:Nat):Int)∧zs.take (yy qw l (i+2+(m+1))).length=yy qw l (i+2+(m+1))∧zs.drop (i+1+(m+1))=l.drop (i+1+(m+1)):=by
      have hRn:(R++ [x]).length=R.length+1:=by simp
      refine⟨by omega,by omega,ys.set R.length x,by simpa using hyl,rfl,by rw[hsx,hRn];omega,by rw[hsx,hRn],?_,?_⟩
      ·rw[hsx,hRn,List.take_succ_eq_append_getElem (by rw[List.length_set];omega),List.getElem_set_self,List.take_set_of_le (Nat.le_refl _),hyt]
      ·rw[List.drop_set_of_lt (by omega)];exact hyd2 _ hyd
     clear hyt hyd hyd2 hsx g1 g2 cg hx hy hR hcl hb hset
     repeat' first|simp only[go_sem,zES, *]|apply bc<;>intro hc
     refine zQ (by kernel_rfl) ?_
     repeat' first|simp only[go_sem,zES, *]|apply bc<;>intro hc|(refine zA.mono hqn ?_;rintro r h ⟨hq2,rfl⟩)
   ·have e1:decide (((m+1:Nat):Int)<((l.length- (i+1):Nat):Int))=false:=decide_eq_false (by omega);have hme:i+2+m=l.length:=by omega
    have hce:yy qw l (i+2+m)=cpt qw l:=by rw[hme];rfl
    rw[hce] at hyt f5 hcl;have hcle:(cpt qw l).length≤l.length:=zB1 _;have hsl:=fun(H:Heap)=>zAF (P:=Tryz.prog) (t:=45) (sz:=2) (id:=id) (h:=H) zN8 wt zBj (k:= .i64) hcle;have hsh:=fun(H:Heap)=>zAw (P:=Tryz.prog) (t:=45) (h:=H) zN8 wt (id:=id) (sz:=2) zBj (k:= .i64) hcle;obtain⟨rest,hclr⟩:=zIU (P:=Tryz.prog) (sz:=2) (t:=45) wt zG9 rfl rfl hrow2 (zCv num ys) (n:=(cpt qw l).length) (by rw[zAl];omega);have htk:(vbs num ys).take (cpt qw l).length=vbs num (cpt qw l):=by rw[vbs,←List.map_take,hyt];rfl
    rw[htk,zDU,zAl,hyl] at hclr;have hfin:=hQ (.rs id 2 0 (cpt qw l).length) (k0.set id (.row ((vbs num (cpt qw l)).flatten++rest))) ⟨rfl,rest,rfl⟩;clear hyt hyd hme hce htk hQ
    repeat' first|simp only[go_sem,zES, *]|apply bc<;>intro hc
 ·have e1:decide (((i+1:Nat):Int)<(l.length:Int))=false:=decide_eq_false (by omega);have hd:=hdone fun j h1 h2=>hj j h1 (by omega);clear hj hdone hsame q1 h0 hQ
  repeat' first|simp only[go_sem,zES, *]|apply bc<;>intro hc
theorem za7 (g:Heap):zA Tryz.prog 221 [.nilsl, .int .i64 0, .int .i64 0, .fn (.func 76) [] []] g fun _ h'=>h'=g:=by
 have hw:IntKind.i64.wrap (0+1)=1:=rfl;have hlt:decide ((1:Int)<0)=false:=rfl;refine zA.of_fn (g:=zPx) mix Tryz.func221 zd5 rfl rfl ?_;simp only[Tryz.f221,gJ]
 repeat' first|simp only[go_sem,zZu, *]|apply bc<;>intro hc
 refine yC (fun j fr h2=>fr 2= .int .i64 0∧fr 8= .int .i64 1∧h2=g) 0 ?_ ?_
 ·simp only[go_sem,zZu,true_and,and_true,Int.ofNat_zero]
 rintro j fr2 h2 _ ⟨f2,f8,rfl⟩
 repeat' first|simp only[go_sem,zZu, *]|apply bc<;>intro hc
theorem za8 (m:Int) (g:Heap):zA Tryz.prog 163 [.nilsl, .int .i64 0, .int .i64 0, .int .i64 m, .fn (.func 76) [] []] g fun _ h'=>h'=g:=by
 have hw:IntKind.i64.wrap (0-0)=0:=rfl;have h12:decide ((0:Int)≤12)=true:=rfl;have hi:=za7;refine zA.of_fn (g:=zPk) mix Tryz.func163 zdh rfl rfl ?_;simp only[Tryz.f163,gJ]
 repeat' first|simp only[go_sem,zZs, *]|apply bc<;>intro hc
 refine yC (fun j fr h2=>fr 0= .nilsl∧fr 1= .int .i64 0∧fr 2= .int .i64 0∧fr 4= .fn (.func 76) [] []∧h2=g) 0 ?_ ?_
 ·simp only[go_sem,zZs,true_and,and_true,Int.ofNat_zero]
 rintro j fr2 h2 _ ⟨f0,f1,f2,f4,rfl⟩
 repeat' first|simp only[go_sem,zZs, *]|apply bc<;>intro hc
theorem zXG (g:Heap):zA Tryz.prog 112 [.nilsl, .fn (.func 76) [] []] g fun _ h'=>h'=g:=by
 have hcv:wp Tryz.prog 3 239 (.int .i64 0)=some (.int .u64 0):=by kernel_rfl
 have hb:=zM4 (n:=0) (by omega);have hp:=fun m=>za8 m;have hl:∀h,zC1 Tryz.prog 45 .nilsl h=some (.int .i64 0):=fun h=>qC (za.nil (sz:=2)) Tryz.underlying45;simp only[Int.ofNat_zero] at hb;refine zA.of_fn (g:=zPc) mix Tryz.func112 zdN rfl rfl ?_;simp only[Tryz.f112,gJ]
 repeat' first|simp only[go_sem,zhZ, *]|apply bc<;>intro hc|(refine zA.mono (hb _) ?_;rintro r h ⟨rfl,rfl⟩)
theorem zOx (g:Heap):zA Tryz.prog 113 [.nilsl, .fn (.func 45) [] []] g fun r h'=>h'=g∧r= .nilsl:=by
 have hl:∀h,zC1 Tryz.prog 45 .nilsl h=some (.int .i64 0):=fun h=>qC (za.nil (sz:=2)) Tryz.underlying45;have hlt:decide ((0:Int)<2)=true:=rfl;refine zA.of_fn (g:=zMV) mix Tryz.func113 zZr rfl rfl ?_;simp only[Tryz.f113,gJ]
 repeat' first|simp only[go_sem,zES, *]|apply bc<;>intro hc
theorem zOy {num:Int} {l:List (List Int)} {id:Nat} {g:Heap} (h0:l≠[]) (hl:l.length≤16777216) (hle:∀x∈l,x.length≤1048576) (hrow:g.at' id=some (.row (vbs num l).flatten)):
  zA Tryz.prog 113 [.rs id 2 0 l.length, .fn (.func 45) [] []] g fun r h'=>h'=g.del id∧r= .sl 2 (vbs num (cpt qw l)) .no:=
 zA.freezeD ((zRn h0 hl hle hrow).mono (by
  rintro r h' ⟨rfl,rest,rfl⟩;exact⟨id,_,zC _ _ _,by rw[zOl],zLP (zCv num _) (zAl num _) rfl⟩))
def zUw (s:D):Nat→D
 |0=> .fn (.func 155) [s] []
 |1=> .fn (.func 156) [s] []
 |2=> .fn (.func 157) [s] []
 |3=> .fn (.func 158) [s] []
 |4=> .fn (.func 159) [s] []
 |_=> .fn (.func 160) [s] []
def zEi (c:Cat) (fs:List Fac) (al:Nat→Option Alt) (O:KV):Nat→List (List Int)
 |0=>(zq fs al).flatMap (wS c fs al)
 |1=>(zq fs al).flatMap (zAS c fs al O)
 |2=>(zq fs al).flatMap (zD2 c fs al)
 |3=>(zq fs al).flatMap (wk c fs al)
 |4=>(zD3 fs).flatMap (zCQ fs O)
 |_=>zIm c fs
def qv (s:D) (i:Nat):List D:=[.int .i64 (i:Int),zUw s i]
def zcC (s:D):List (List D):=[qv s 0,qv s 1,qv s 2,qv s 3,qv s 4,qv s 5]
theorem zXH (s:D):∀i,i<6→(zcC s)[i]? =some (qv s i)
 |0,_=>rfl
 |1,_=>rfl
 |2,_=>rfl
 |3,_=>rfl
 |4,_=>rfl
 |5,_=>rfl
 |n+6,h=>by omega
theorem zGB:∀ {a:List D},a.length=2→∃x y,a= [x,y]
 | [x,y],_=>⟨x,y,rfl⟩
theorem zfZ (sc:List D) (h:Heap):zA Tryz.prog 107 [.iptr sc 0] h fun r h'=>h'=h∧r= .sl 2 (zcC (.iptr sc 0)) .full:=by
 refine zA.of_fn (g:=zPi) mix Tryz.func107 zdc rfl rfl ?_;simp only[Tryz.f107,gJ];have hb:∀ (i:Int) (f:FuncId),yN Tryz.prog 190 [(0, .int .i64 i),(1, .fn (.func f) [.iptr sc 0] [])]=some (.agg [.int .i64 i, .fn (.func f) [.iptr sc 0] []]):=fun i f=>by
  simp[yN,zOD,zMP,qj,yj,D.cells,D.notTuple]
 have hs:∀a b c d e f:List D,a.length=2→b.length=2→c.length=2→d.length=2→e.length=2→f.length=2→zM Tryz.prog false h.next 186 6 [(0, .agg a),(1, .agg b),(2, .agg c),(3, .agg d),(4, .agg e),(5, .agg f)] h=some (.sl 2 [a,b,c,d,e,f] .full,h):=fun a b c d e f ha hb hc hd he hf=>by
  obtain⟨a1,a2,rfl⟩:=zGB ha;obtain⟨b1,b2,rfl⟩:=zGB hb;obtain⟨c1,c2,rfl⟩:=zGB hc;obtain⟨d1,d2,rfl⟩:=zGB hd;obtain⟨e1,e2,rfl⟩:=zGB he;obtain⟨f1,f2,rfl⟩:=zGB hf;simp[zM,zMO,zMP,zOC,D.notTuple,D.cells,zA7,qj,yj,yH,lim]
 simp only[go_sem,zdb,hb];rw[hs _ _ _ _ _ _ rfl rfl rfl rfl rfl rfl];simp only[go_sem,zdb];rfl
theorem zi6 {c:Cat} {fs:List Fac} {al:Nat→Option Alt} {M:KM Int} {O:KV} {sc:List D} {m1 m2:Nat} (hs:Stt c fs al M O sc m1 m2) (hn:fs.length≤16)
  {ff:FuncId} {cap:List D} {Y:List (List Int)→(Nat→Prop)→Heap→Prop} (y:Fnd2 Tryz.prog 5 ff cap Y) {S:Nat→Prop} {w:Heap} (hY:Y [] S w) (hH:StH M O m1 m2 w) (n1:¬S m1) (n2:¬S m2):∀i,i<6→
  zGk Tryz.prog (zUw (.iptr sc 0) i) [.fn (.func ff) [] cap] w fun _ h'=>∃S',(∀i,S' i→S i∨w.next≤i)∧But S w h'∧Y (zEi c fs al O i) S' h':=by
 intro i hi;rcases i with _|_|_|_|_|_|i
 ·exact zXB hs hn y hY hH n1 n2
 ·exact zap hs hn y hY hH n1 n2
 ·exact zfS hs hn y hY hH n1 n2
 ·exact zas hs hn y hY hH n1 n2
 ·exact zfU hs hn y hY hH n1 n2
 ·exact zfV hs hn y hY hH n1 n2
 ·omega
def zC5 (c:Cat) (fs:List Fac) (al:Nat→Option Alt) (O:KV) (i:Nat):List (List Int):=cpt qw (srt qw ((zEi c fs al O i).map zD4))
def zXI (c:Cat) (fs:List Fac) (al:Nat→Option Alt) (O:KV) (i:Nat):D:=if zEi c fs al O i= [] then .nilsl else .sl 2 (vbs (i:Int) (zC5 c fs al O i)) .no
theorem zXJ {c:Cat} {fs:List Fac} {al:Nat→Option Alt} {O:KV} (hn:fs.length≤16) (i:Nat):(zEi c fs al O i).length≤16777216:=by
 have h4:=zBV (al:=al) hn;have hfm:∀ {α:Type} {l:List α} {f:α→List (List Int)} {m n:Nat},l.length≤n→(∀x∈l,(f x).length≤m)→n*m≤16777216→(l.flatMap f).length≤16777216:=fun h1 h2 h3=>Nat.le_trans (qi h2) (Nat.le_trans (Nat.mul_le_mul_right _ h1) h3);unfold zEi;split
 ·exact hfm (m:=1) h4 (fun t _=>by unfold wS;split<;>simp) (by omega)
 ·exact hfm (m:=1) h4 (fun t _=>by
   unfold zAS;split
   ·simp
   ·split<;>simp) (by omega)
 ·exact hfm (m:=16) h4 (fun t _=>zNO c hn al t) (by omega)
 ·exact hfm (m:=4096) h4 (fun t _=>zKE c hn al t) (by omega)
 ·exact hfm (m:=16) (n:=16) (Nat.le_trans (qP _ fs 0) hn) (fun t _=>zNP hn O t) (by omega)
 ·unfold zIm;split
  ·simp
  ·exact hfm (m:=1) (n:=16) (Nat.le_trans (qP _ fs 0) hn) (fun t _=>Nat.le_refl _) (by omega)
theorem zUx (l:List Int):(zD4 l).length≤l.length:=Nat.le_trans (zB1 _) (Nat.le_of_eq (qZ l).length_eq)
theorem zUy {c:Cat} {fs:List Fac} {al:Nat→Option Alt} {O:KV} (i:Nat):∀l∈zEi c fs al O i,l.length≤5:=by
 intro l hl;unfold zEi at hl;split at hl
 ·obtain⟨t,_,h⟩:=List.mem_flatMap.1 hl;unfold wS at h;split at h
  ·rw[List.mem_singleton.1 h];simp
  ·cases h
 ·obtain⟨t,_,h⟩:=List.mem_flatMap.1 hl;unfold zAS at h;split at h
  ·cases h
  ·split at h
   ·rw[List.mem_singleton.1 h];simp
   ·cases h
 ·obtain⟨t,_,h⟩:=List.mem_flatMap.1 hl;obtain⟨k,_,h⟩:=List.mem_flatMap.1 h;unfold zEf at h;split at h
  ·rw[List.mem_singleton.1 h];simp
  ·cases h
 ·obtain⟨t,_,h⟩:=List.mem_flatMap.1 hl;unfold wk at h;split at h
  ·obtain⟨r,_,h⟩:=List.mem_flatMap.1 h;unfold zBC at h;split at h
   ·rw[List.mem_singleton.1 h];simp
   ·cases h
  ·cases h
 ·obtain⟨t,_,h⟩:=List.mem_flatMap.1 hl;unfold zCQ at h;split at h
  ·cases h
  ·split at h
   ·cases h
   ·obtain⟨r,_,h⟩:=List.mem_flatMap.1 h;rw[List.mem_singleton.1 h];simp
 ·unfold zIm at hl;split at hl
  ·cases hl
  ·obtain⟨r,_,h⟩:=List.mem_flatMap.1 hl;rw[List.mem_singleton.1 h];simp
def zUz (sc:List D):D:= .fn (.func 106) [] [.iptr [.iptr sc 0] 0]
theorem zNT (sc:List D) (g:Heap):zA Tryz.prog 75 [.iptr sc 0] g fun r h'=>h'=g∧r=zUz sc:=by
 refine zA.of_fn (g:=zVw) mix Tryz.func75 zjr rfl rfl ?_;simp only[Tryz.f75,gJ]
 repeat' first|simp only[go_sem,zko,zUz, *]|apply bc<;>intro hc
theorem zU0 (num:Int) (l:List (List Int)):l.map (zJD num)=vbs num (l.map zD4):=by
 unfold vbs;rw[List.map_map];rfl
set_option maxHeartbeats 4000000 in
theorem zLg {c:Cat} {fs:List Fac} {al:Nat→Option Alt} {M:KM Int} {O:KV} {sc:List D} {m1 m2:Nat} (hs:Stt c fs al M O sc m1 m2) (hn:fs.length≤16)
  {id:Nat} {Y:Nat→(Nat→Prop)→Heap→Prop} {Z:(Nat→Prop)→Heap→Prop} (y:Yld Tryz.prog id 6 (fun i=>[zXI c fs al O i]) Y Z) {S:Nat→Prop} {w:Heap} (hY:Y 0 S w) (hH:StH M O m1 m2 w) (n1:¬S m1) (n2:¬S m2):
  zA Tryz.prog 106 [.yld id, .iptr [.iptr sc 0] 0] w fun _ h'=>∃S',(∀j,S' j→S j∨w.next≤j)∧But S w h'∧(Y 6 S' h'∨Z S' h'):=by
 have hrw:=zfZ sc;have hlr:∀h,zC1 Tryz.prog 186 (.sl 2 (zcC (.iptr sc 0)) .full) h=some (.int .i64 6):=fun h=>qC (za.mk (sz:=2) (xs:=zcC (.iptr sc 0)) .full) Tryz.underlying186;refine zA.of_fn (g:=zPb) mix Tryz.func106 zdM rfl rfl ?_;simp only[Tryz.f106,gJ]
 repeat' first|simp only[go_sem,zGp, *]|apply bc<;>intro hc|(refine zA.mono (hrw _) ?_;rintro r h ⟨hq,rfl⟩)
 subst hq
 rename Heap=>w
 refine yC (fun i fr h'=>fr 0= .yld id∧fr 1= .iptr [.iptr sc 0] 0∧fr 7= .sl 2 (zcC (.iptr sc 0)) .full∧fr 8= .int .i64 6∧fr 9= .int .i64 (i:Int)∧∃S',(∀j,S' j→S j∨w.next≤j)∧But S w h'∧Y i S' h') 6 ?_ ?_
 ·have hst:∃S',(∀j,S' j→S j∨w.next≤j)∧But S w w∧Y 0 S' w:=⟨S,fun j hj=> .inl hj,But.refl S w,hY⟩;simp only[go_sem,zGp,true_and,and_true,Int.ofNat_zero];exact hst
 rintro i fr h1 hi ⟨f0,f1,f7,f8,f9,S',hS,hbut,hYi⟩;by_cases hlt:i<6
 ·have e1:decide ((i:Int)<6)=true:=decide_eq_true (by omega);have ew:IntKind.i64.wrap ((i:Int)+1)=((i+1:Nat):Int):=ze (by unfold lim;omega);have hw:zS true 2 (qv (.iptr sc 0) i) 0=some (.agg (qv (.iptr sc 0) i)):=zB rfl (by omega);have hst:∀ (h:Heap) (id:Nat),zW Tryz.prog 190 (.ptr id 0) (.agg (qv (.iptr sc 0) i)) (h.new id (.row [.int .i64 0, .nilfn]))=some (h.new id (.row (qv (.iptr sc 0) i))):=fun h id=>zh zOC (by omega) rfl rfl (by rcases i with _|_|_|_|_|i<;>rfl)
  have ha:zX Tryz.prog 186 (.sl 2 (zcC (.iptr sc 0)) .full) (.int .i64 (i:Int))=some (.iptr (qv (.iptr sc 0) i) 0):=zd (za.mk (sz:=2) _) zMO zOC (zXH _ _ hlt);have hc1:(qv (.iptr sc 0) i)[1]? =some (zUw (.iptr sc 0) i):=rfl;have hb1:=hbut.1;obtain⟨H,hHe,hHn,hnr,hnl,hE⟩:∃H:Heap,(h1.new h1.next (.row (qv (.iptr sc 0) i))).new (h1.next+1) (.row [.nilsl])=H∧H.next=h1.next+2∧H.at' h1.next=some (.row (qv (.iptr sc 0) i))∧H.at' (h1.next+1)=some (.row [.nilsl])∧Ext h1 H:=
   ⟨_,rfl,zj _ (by rw[zF];exact Nat.le_refl _) _,by rw[zD (by omega),zJ],zJ _ _ _,((Ext.refl h1).new (Nat.le_refl _) _).new (by omega) _⟩
  have hbutH:But S w H:=hbut.trans (hE.but S) fun i hi=> .inl hi;have hstH:StH M O m1 m2 H:=⟨⟨by rw[hbutH.2 _ hH.2.1 n1];exact hH.1.1,by rw[hbutH.2 _ hH.2.2 n2];exact hH.1.2⟩,by have:=hH.2.1;omega,by have:=hH.2.2;omega⟩;have Y0:YVf (i:Int) (zUw (.iptr sc 0) i) (h1.next+1) h1.next [] (fun j=>j=h1.next+1∨j=h1.next) H:=⟨by omega,by omega,by omega,hnr, .nilsl,hnl, .inl ⟨rfl,rfl⟩,fun e=>e,fun e=>e,fun j=>⟨fun e=>e.elim .inl fun e=> .inr (.inl e),fun e=>e.elim .inl fun e=>e.elim .inr fun e=>e.elim⟩⟩
  have hcr:=zi6 hs hn (zXE (num:=(i:Int)) (fn:=zUw (.iptr sc 0) i) (nl:=h1.next+1) (nr:=h1.next)) Y0 hstH (fun e=>by have:=hH.2.1;omega) (fun e=>by have:=hH.2.2;omega) i hlt;clear hstH hbutH Y0
  repeat' first|simp only[go_sem,zGp,zF, *]|apply bc<;>intro hc
  refine zGk.mono ?_ hcr;rintro r h2 ⟨S2,s2,b2,w1,w2,w3,w4,d2,w5,w6,w7,w8,w9⟩;have b20:=b2.1;have hold:∀j,j<h1.next→h2.at' j=h1.at' j:=fun j hj=>by rw[b2.2 j (by omega) (by omega),hE.2 j hj]
  rw[zU0] at w6;have hRl:=zXJ (c:=c) (al:=al) (O:=O) hn i;have hR5:=zUy (c:=c) (fs:=fs) (al:=al) (O:=O) i;clear hcr hst ha hw hc1 hHe e1;rcases w6 with⟨rfl,e⟩ | ⟨id2,rfl,g1,g2,g3⟩
  ·have e0:zEi c fs al O i= []:=by simpa [vbs] using e
   have hv:zXI c fs al O i= .nilsl:=by unfold zXI;rw[if_pos e0]
   have hE4:Ext h1 h2:=⟨by omega,hold⟩;have hgo:=y.go i S' h2 hlt (y.ext hYi hE4);have hfin:∀ (S3:Nat→Prop) (h5:Heap),(∀j,S3 j→S' j∨h2.next≤j)→But S' h2 h5→(∀j,S3 j→S j∨w.next≤j)∧But S w h5:=fun S3 h5 hS3 hb5=>⟨fun j hj=>by
    rcases hS3 j hj with hj|hj
    ·exact hS j hj
    ·exact .inr (by omega),(hbut.trans (hE4.but S) fun i hi=> .inl hi).trans hb5 hS⟩
   simp only[hv] at hgo;simp only[go_sem,zGp,w5,f0];refine(zXG h2).mono ?_;rintro r h3 hq;subst hq;simp only[go_sem,zGp,w5,f0];refine(zOx h3).mono ?_;rintro r h4 ⟨hq,rfl⟩;subst hq;refine hgo.mono ?_;rintro r h5 ⟨S3,hS3,hb5,⟨rfl,hY5⟩ | ⟨rfl,hZ5⟩⟩
   ·have hres:=hfin S3 h5 hS3 hb5;simp only[go_sem,zGp,vun,ew,f0,f1,f7,f8,f9,true_and];exact⟨hlt,S3,hres.1,hres.2,hY5⟩
   ·have hres:=hfin S3 h5 hS3 hb5;simp only[go_sem,zGp,vun];exact⟨S3,hres.1,hres.2, .inr hZ5⟩
  ·have hne:(zEi c fs al O i).map zD4≠[]:=fun e=>g3 (by rw[e];rfl);have hne0:zEi c fs al O i≠[]:=fun e=>hne (by rw[e];rfl);have hml:((zEi c fs al O i).map zD4).length≤16777216:=by rw[List.length_map];exact hRl
   have hmx:∀x∈(zEi c fs al O i).map zD4,x.length≤1048576:=fun x hx=>by
    obtain⟨z,hz,rfl⟩:=List.mem_map.1 hx;have h1:=zUx z;have h2:=hR5 z hz;omega
   have hv:zXI c fs al O i= .sl 2 (vbs (i:Int) (zC5 c fs al O i)) .no:=by unfold zXI;rw[if_neg hne0]
   have hrv:zC5 c fs al O i=cpt qw (srt qw ((zEi c fs al O i).map zD4)):=rfl;rw[hrv] at hv;clear hrv;generalize(zEi c fs al O i).map zD4=L at *
   have hid:H.next≤id2:=by
    rcases s2 id2 ((w9 id2).2 (.inr (.inr rfl))) with(e|e)|e
    ·exact absurd e.symm (fun e=>w7 (by rw[e];rfl))
    ·exact absurd e.symm (fun e=>w8 (by rw[e];rfl))
    ·exact e
   have hso:=za0 (num:=(i:Int)) hne hml hmx g1;have sl:(srt qw L).length=L.length:=(qZ L).length_eq;have s0:srt qw L≠[]:=fun e=>hne (List.length_eq_zero_iff.1 (by rw[←sl,e];rfl));have hco:=zOy (num:=(i:Int)) s0 (by omega) (fun x hx=>hmx x (zIX.1 hx)) (zC h2 id2 (.row (vbs (i:Int) (srt qw L)).flatten));rw[sl] at hco;rw[zAl] at w5;obtain⟨h3,hh3,hn3,w53⟩:∃h3,h2.set id2 (.row (vbs (i:Int) (srt qw L)).flatten)=h3∧h3.next=h2.next∧h3.at' (h1.next+1)=some (.row [.rs id2 2 0 L.length]):=⟨_,rfl,zu _ _ _,by rw[zE (by omega)];exact w5⟩
   have hE4:Ext h1 (h3.del id2):=⟨by rw[zQG,hn3];omega,fun j hj=>by rw[yi (by omega),←hh3,zE (by omega),hold j hj]⟩;have hn4:(h3.del id2).next=h2.next:=by rw[zQG,hn3]
   rw[hh3] at hso hco;generalize h3.del id2=h4 at *
   have hgo:=y.go i S' h4 hlt (y.ext hYi hE4);have hfin:∀ (S3:Nat→Prop) (h5:Heap),(∀j,S3 j→S' j∨h4.next≤j)→But S' h4 h5→(∀j,S3 j→S j∨w.next≤j)∧But S w h5:=fun S3 h5 hS3 hb5=>⟨fun j hj=>by
    rcases hS3 j hj with hj|hj
    ·exact hS j hj
    ·exact .inr (by omega),(hbut.trans (hE4.but S) fun i hi=> .inl hi).trans hb5 hS⟩
   simp only[hv] at hgo;simp only[go_sem,zGp,w5,f0];refine hso.mono ?_;rintro r h ⟨rfl,hq⟩;subst hq;simp only[go_sem,zGp,w53,f0];refine hco.mono ?_;rintro r h ⟨hq,rfl⟩;subst hq;refine hgo.mono ?_;rintro r h5 ⟨S3,hS3,hb5,⟨rfl,hY5⟩ | ⟨rfl,hZ5⟩⟩
   ·have hres:=hfin S3 h5 hS3 hb5;simp only[go_sem,zGp,vun,ew,f0,f1,f7,f8,f9,true_and];exact⟨hlt,S3,hres.1,hres.2,hY5⟩
   ·have hres:=hfin S3 h5 hS3 hb5;simp only[go_sem,zGp,vun];exact⟨S3,hres.1,hres.2, .inr hZ5⟩
 ·have e1:decide ((i:Int)<6)=false:=decide_eq_false (by omega);have hie:i=6:=by omega
  subst hie;have hfin:∃S',(∀j,S' j→S j∨w.next≤j)∧But S w h1∧(Y 6 S' h1∨Z S' h1):=⟨S',hS,hbut, .inl hYi⟩;clear hS hbut hYi hrw
  repeat' first|simp only[go_sem,zGp, *]|apply bc<;>intro hc
end Go.V
