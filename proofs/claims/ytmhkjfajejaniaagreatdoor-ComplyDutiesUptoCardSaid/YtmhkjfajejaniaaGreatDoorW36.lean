/- A machine of abstract values for programs of the model, further rules, part 2. No condition. -/
import Derived.Test.YtmhkjfajejaniaaGreatDoorW34
import Derived.Test.YtmhkjfajejaniaaGreatDoorW35
import Derived.Test.YtmhkjfajejaniaaGreatDoorW31
import Derived.Test.YtmhkjfajejaniaaGreatDoorW30
import Derived.Test.YtmhkjfajejaniaaGreatDoorW23
import Derived.Test.YtmhkjfajejaniaaGreatDoorW33
import Derived.Test.YtmhkjfajejaniaaGreatDoorW06
set_option linter.all false
namespace Go.V
open Go.Shelf Go.Proofs Go.Sort
open Go.RowKit (Below)
theorem zA.of_sortI {P:Program} {f:FuncId} {xs:List Int} {id:Nat} {h:Heap} (h0:xs≠[]) (he:wm P f=true) (hrow:h.at' id=some (.row (xs.map (D.int .i64)))) (hlen:xs.length<4611686018427387904)
  (hlib:∀ (blk off cap:Nat) (zs:List Int) (w:World),Go.Sort.Holds (Value.int .i64) w blk off zs.toArray→blk<w.heap.size→zs.length<4611686018427387904→
   Calls P f #[.slice (some ⟨blk,off,none⟩) zs.length cap] w fun e w'=>e= .returned (.tuple #[])∧∃n os,w'=Go.Sort.grow (putRow (Value.int .i64) (Go.Sort.ahead w n) blk off (zs.mergeSort fun x y=>decide (x≤y)).toArray) os):
  zA P f [.rs id 1 0 xs.length] h fun r h'=>r= .tuple []∧h'=h.set id (.row ((xs.mergeSort fun x y=>decide (x≤y)).map (D.int .i64))):=by
 refine⟨he,fun w0 G M ρ w va hg0 hs hfr hr=> ?_⟩;simp only[zu] at hr;obtain⟨v,vs',hva,hv,rfl⟩:=hr;simp only[rel,zu] at hv;obtain⟨_,hlim,l,cap,o,hl,rfl,⟨hc1,hc2⟩,hsz,ho⟩:=hv;have hxl:0<xs.length:=List.length_pos_iff.2 h0;have ho:o=0:=by
  rcases ho with hz|ho
  ·omega
  ·exact ho
 subst ho;have hva':va= #[.slice (some ⟨l.blk,0,none⟩) xs.length cap]:=Array.ext' (by simpa using hva);subst hva';obtain⟨l',h1,hkeep,hM,c,e,hw,hls,hcl,hcells⟩:=hs.live id _ hrow;rw[hl] at h1;cases h1;have hblk:l.blk<w.heap.size:=(Array.getElem?_eq_some_iff.1 hw).1;have hholds:Go.Sort.Holds (Value.int .i64) w l.blk 0 xs.toArray:=by
  intro j hj;have hj':j<xs.length:=by simpa using hj
  refine⟨?_,by simp[World.frozen?,hw]⟩;obtain⟨_,v,h2,h3⟩:=hcells j (.int .i64 xs[j]) (by rw[List.getElem?_map,List.getElem?_eq_getElem hj'];rfl);simp only[rel] at h3;obtain⟨rfl,_⟩:=h3;simp only[World.cell?,hw,Option.isSome_none,Bool.false_eq_true,if_false];rw[Nat.zero_add,h2];simp[hj']
 refine(hlib l.blk 0 cap xs w hholds hblk hlen).mono fun e w' hq=> ?_;obtain⟨rfl,n,os,rfl⟩:=hq;have hrow2:h.at' id=some (.row ([]++xs.map (D.int .i64)++ [])):=by simpa using hrow
 have hS:=(hs.ahead n).putRow (α:=Int) (enc:=Value.int .i64) (dd:=D.int .i64) (fun q=>rfl) hrow2 hl (ys:=xs.mergeSort fun x y=>decide (x≤y)) (List.length_mergeSort _) (fun q hq=>by
  obtain⟨i,hi,rfl⟩:=List.mem_iff_getElem.1 (List.mem_mergeSort.1 hq);obtain⟨_,v,_,h3⟩:=hcells i (.int .i64 xs[i]) (by rw[List.getElem?_map,List.getElem?_eq_getElem hi];rfl);simp only[rel] at h3;exact yR h3.2)
 have hS2:=hS.grow os;refine⟨.tuple #[],M,ρ, .tuple [],_,rfl,MLe.refl _,RLe.refl _,hS2,hfr,by simp only[rel,zu];exact⟨#[],rfl,rfl⟩,rfl,by simp⟩
open Go.Proofs
set_option maxRecDepth 100000
theorem zFO (l:List Int):(wU l).flatten=l.map (D.int .i64):=by
 induction l with
 |nil=>rfl
 |cons a l ih=>simp only[wU,List.map_cons,List.flatten_cons] at ih⊢;rw[ih];rfl
theorem zIY {l:List Int} :∀x∈wU l,x.length=1:=fun x hx=>by
 obtain⟨y,_,rfl⟩:=List.mem_map.1 hx;rfl
theorem zQm (x y:Int):(yj x y==0)=(x==y):=by
 unfold yj;split
 ·have:x≠y:=by omega
  simp[this]
 ·split
  ·have:x≠y:=by omega
   simp[this]
  ·have:x=y:=by omega
   simp[this]
set_option maxHeartbeats 4000000 in
theorem zRv {l:List Int} {id:Nat} {g:Heap} (h0:l≠[]) (hl:l.length≤1048576) (hrow:g.at' id=some (.row (l.map (D.int .i64)))):
  zA Tryz.prog 111 [.rs id 1 0 l.length] g fun r h'=>r= .rs id 1 0 (cpt yj l).length∧∃rest,h'=g.set id (.row ((cpt yj l).map (D.int .i64)++rest)):=by
 have hlen:=fun(h:Heap)=>zCU (P:=Tryz.prog) (t:=31) (sz:=1) (id:=id) (off:=0) (len:=l.length) (h:=h) Tryz.underlying31;have hpos:0<l.length:=List.length_pos_iff.2 h0;have hsame:∀n,n≤l.length→(∀i (h:i+1<l.length),i+1<n→(yj l[i+1] l[i]==0)=false)→yk yj l n=l.take n:=fun n hn hh=>by
  induction n with
  |zero=>rfl
  |succ n ih=>
   cases n with
   |zero=>rw[zDi hpos,List.take_one];simp[List.head?_eq_getElem?,hpos]
   |succ k=>
    rw[zAE (by omega),if_neg (by rw[hh k (by omega) (by omega)];exact Bool.false_ne_true),ih (by omega) fun i h1 h2=>hh i h1 (by omega)];exact(List.take_succ_eq_append_getElem (by omega)).symm
 refine zA.post fun Q hQ=> ?_;have hdone:(∀i (h:i+1<l.length),i+1<l.length→(yj l[i+1] l[i]==0)=false)→Q (.rs id 1 0 l.length) g:=fun hh=>hQ _ _ (by
  have e:cpt yj l=l:=by
   have:=hsame l.length (Nat.le_refl _) hh;rw[List.take_length] at this;exact this
  rw[e];exact⟨rfl,[],by rw[List.append_nil,zA7 hrow]⟩)
 refine zA.of_fn (g:=zPc) mix Tryz.func111 zdb rfl rfl ?_;simp only[Tryz.f111,gJ];cases q1:decide ((l.length:Int)<2) with
 |true=>
  have hd:=hdone fun i h1 h2=>by have:=of_decide_eq_true q1;omega
  clear hdone hQ
  repeat' first|simp only[go_sem,zEv, *]|apply bc<;>intro hc
 |false=>
 repeat' first|simp only[go_sem,zEv, *]|apply bc<;>intro hc
 refine zy (fun i fr h=>fr 0= .rs id 1 0 l.length∧fr 3= .int .i64 ((i+1:Nat):Int)∧h=g∧i+1≤l.length∧∀j (h:j+1<l.length),j+1<i+1→(yj l[j+1] l[j]==0)=false) l.length ?_ ?_
 ·simp only[go_sem,zEv,true_and,and_true,Int.ofNat_zero];exact⟨rfl,hpos,fun j h1 h2=>by omega⟩
 rintro i fr h hi ⟨f0,f3,rfl,hile,hj⟩;by_cases hlt:i+1<l.length
 ·have e1:decide (((i+1:Nat):Int)<(l.length:Int))=true:=decide_eq_true (by omega);have ew:IntKind.i64.wrap (((i+1:Nat):Int)+1)=((i+2:Nat):Int):=zh (by unfold lim;omega);have ew2:IntKind.i64.wrap (((i+1:Nat):Int)-1)=((i:Nat):Int):=by rw[zZ (by omega) (by omega)];omega
  have a1:=zt (P:=Tryz.prog) (sz:=1) (id:=id) yG wP (k:= .i64) hlt;have a2:=zt (P:=Tryz.prog) (sz:=1) (id:=id) yG wP (k:= .i64) (show i<l.length by omega);have p1:(l.map (D.int .i64))[i+1]? =some (.int .i64 l[i+1]):=by simp[hlt]
  have p2:(l.map (D.int .i64))[i]? =some (.int .i64 l[i]):=by simp[show i<l.length by omega]
  have hq:=zQm l[i+1] l[i];rw[Nat.mul_one] at a1 a2;cases hb:(yj l[i+1] l[i]==0) with
  |false=>
   rw[hb] at hq;replace hq:=hq.symm;have hn:∀j (h:j+1<l.length),j+1<i+2→(yj l[j+1] l[j]==0)=false:=fun j h1 h2=>by
    by_cases e:j=i
    ·subst e;exact hb
    ·exact hj j h1 (by omega)
   clear hj hdone hsame q1 h0 hb
   repeat' first|simp only[go_sem,zEv, *]|apply bc<;>intro hc
   refine zS (by kernel_rfl) ?_
   repeat' first|simp only[go_sem,zEv, *]|apply bc<;>intro hc
   exact⟨by omega,hlt,hn⟩
  |true=>
   rw[hb] at hq;replace hq:=hq.symm;have hcs:yk yj l (i+2)=l.take (i+1):=by
    rw[zAE hlt,if_pos hb,hsame (i+1) (by omega) fun j h1 h2=>hj j h1 h2]
   have hsl:=wu (P:=Tryz.prog) (t:=31) (sz:=1) (id:=id) (h:=h) zN6 yG wP (k:= .i64) hile;rw[Nat.mul_one] at hsl;clear hj hdone hsame q1 h0 hb
   repeat' first|simp only[go_sem,zEv, *]|apply bc<;>intro hc
   refine zS (by kernel_rfl) ?_
   repeat' first|simp only[go_sem,zEv, *]|apply bc<;>intro hc
   refine zy (fun m fr h'=>fr 0= .rs id 1 0 l.length∧fr 4= .rs id 1 (i+1) (l.length- (i+1))∧fr 5= .int .i64 ((m+1:Nat):Int)∧i+1+(m+1)≤l.length∧∃ys:List Int,ys.length=l.length∧h'=h.set id (.row (ys.map (D.int .i64)))∧
    (yk yj l (i+2+m)).length≤i+1+m∧fr 3= .int .i64 (((yk yj l (i+2+m)).length:Nat):Int)∧ys.take (yk yj l (i+2+m)).length=yk yj l (i+2+m)∧ys.drop (i+1+m)=l.drop (i+1+m)) l.length ?_ ?_
   ·have hc1:(yk yj l (i+2)).length=i+1:=by rw[hcs,List.length_take];omega
    have hc2:yk yj l (i+2+0)=yk yj l (i+2):=rfl;have hres:i+1+(0+1)≤l.length∧∃ys:List Int,ys.length=l.length∧h=h.set id (.row (ys.map (D.int .i64)))∧
     (yk yj l (i+2+0)).length≤i+1+0∧D.int .i64 ((i+1:Nat):Int)= .int .i64 (((yk yj l (i+2+0)).length:Nat):Int)∧ys.take (yk yj l (i+2+0)).length=yk yj l (i+2+0)∧ys.drop (i+1+0)=l.drop (i+1+0):=
     ⟨by omega,l,rfl,(zA7 hrow).symm,by rw[hc2,hc1];omega,by rw[hc2,hc1],by rw[hc2,hc1,hcs],rfl⟩
    clear hc1 hc2 hcs;simp only[go_sem,zEv,true_and,and_true,Int.ofNat_zero];obtain⟨r0,ys,r1,r2,r3,r4,r5,r6⟩:=hres;exact⟨f0,rfl,r0,ys,r1,r2,r3,f3.trans r4,r5,r6⟩
   clear hcs hsl hq p1 p2 a1 a2 f0 f3 e1 ew ew2;rintro m fr2 h2 hm ⟨f0,f4,f5,hml,ys,hyl,rfl,hcl,f3,hyt,hyd⟩;have hrow2:(h.set id (.row (ys.map (D.int .i64)))).at' id=some (.row (ys.map (D.int .i64))):=zC _ _ _;have hlen2:=fun(H:Heap)=>zCU (P:=Tryz.prog) (t:=31) (sz:=1) (id:=id) (off:=i+1) (len:=l.length- (i+1)) (h:=H) Tryz.underlying31;by_cases hlt2:m+1<l.length- (i+1)
   ·have e1:decide (((m+1:Nat):Int)<((l.length- (i+1):Nat):Int))=true:=decide_eq_true (by omega);have ew:IntKind.i64.wrap (((m+1:Nat):Int)+1)=((m+2:Nat):Int):=zh (by unfold lim;omega);have ew2:IntKind.i64.wrap (((m+1:Nat):Int)-1)=((m:Nat):Int):=by rw[zZ (by omega) (by omega)];omega
    have a1:=qv (P:=Tryz.prog) (sz:=1) (id:=id) (off:=i+1) yG wP (k:= .i64) hlt2;have a2:=qv (P:=Tryz.prog) (sz:=1) (id:=id) (off:=i+1) yG wP (k:= .i64) (show m<l.length- (i+1) by omega);obtain⟨x,hx⟩:∃x,l[i+1+m+1]? =some x:=⟨_,List.getElem?_eq_getElem (by omega)⟩;obtain⟨y,hy⟩:∃y,l[i+1+m]? =some y:=⟨_,List.getElem?_eq_getElem (by omega)⟩;have g1:ys[i+1+(m+1)]? =some x:=by
     have:=congrArg (fun z=>z[1]?) hyd;simp only[List.getElem?_drop] at this;rw[show i+1+(m+1)=i+1+m+1 by omega,this,hx]
    have g2:ys[i+1+m]? =some y:=by
     have:=congrArg (fun z=>z[0]?) hyd;simp only[List.getElem?_drop,Nat.add_zero] at this;rw[this,hy]
    rw[Nat.mul_one] at a1 a2;have p1:(ys.map (D.int .i64))[i+1+(m+1)]? =some (.int .i64 x):=by rw[List.getElem?_map,g1];rfl
    have p2:(ys.map (D.int .i64))[i+1+m]? =some (.int .i64 y):=by rw[List.getElem?_map,g2];rfl
    have hsx:yk yj l (i+2+(m+1))=if(yj x y==0)=true then yk yj l (i+2+m) else yk yj l (i+2+m)++ [x]:=by
     have:=zOj (c:=yj) hx hy;rw[show i+2+(m+1)=i+1+m+2 by omega,this,show i+2+m=i+1+m+1 by omega]
    have hyd2:∀zs:List Int,zs.drop (i+1+m)=l.drop (i+1+m)→zs.drop (i+1+(m+1))=l.drop (i+1+(m+1)):=fun zs e=>by
     have:=congrArg (List.drop 1) e;simpa [List.drop_drop,Nat.add_assoc] using this
    generalize hR:yk yj l (i+2+m)=R at *
    have hqn:=(zQm x y).symm;cases hb:(yj x y==0) with
    |true=>
     rw[hb] at hqn;rw[if_pos hb] at hsx;have hres:m<l.length∧i+1+(m+1+1)≤l.length∧∃zs:List Int,zs.length=l.length∧h.set id (.row (ys.map (D.int .i64)))=h.set id (.row (zs.map (D.int .i64)))∧
      (yk yj l (i+2+(m+1))).length≤i+1+(m+1)∧D.int .i64 ((R.length:Nat):Int)= .int .i64 (((yk yj l (i+2+(m+1))).length:Nat):Int)∧zs.take (yk yj l (i+2+(m+1))).length=yk yj l (i+2+(m+1))∧zs.drop (i+1+(m+1))=l.drop (i+1+(m+1)):=
      ⟨by omega,by omega,ys,hyl,rfl,by rw[hsx];omega,by rw[hsx],by rw[hsx];exact hyt,hyd2 _ hyd⟩
     clear hyt hyd hyd2 hsx g1 g2 hx hy hR hcl hb
     repeat' first|simp only[go_sem,zEv, *]|apply bc<;>intro hc
     refine zS (by kernel_rfl) ?_
     repeat' first|simp only[go_sem,zEv, *]|apply bc<;>intro hc
    |false=>
     rw[hb] at hqn;rw[if_neg (by rw[hb];exact Bool.false_ne_true)] at hsx;have hRl:R.length<l.length:=by omega
     have a3:=zt (P:=Tryz.prog) (sz:=1) (id:=id) yG wP (k:= .i64) hRl;rw[Nat.mul_one] at a3;have hst:zQ Tryz.prog 3 (.ptr id R.length) (.int .i64 x) (h.set id (.row (ys.map (D.int .i64))))=some (h.set id (.row ((ys.set R.length x).map (D.int .i64)))):=by
      rw[zV hrow2 wP (by rw[List.length_map,hyl];exact hRl) rfl rfl,zEN,List.map_set]
     have ew3:IntKind.i64.wrap (((R.length:Nat):Int)+1)=((R.length+1:Nat):Int):=zh (by unfold lim;omega);have hres:m<l.length∧i+1+(m+1+1)≤l.length∧∃zs:List Int,zs.length=l.length∧h.set id (.row ((ys.set R.length x).map (D.int .i64)))=h.set id (.row (zs.map (D.int .i64)))∧
      (yk yj l (i+2+(m+1))).length≤i+1+(m+1)∧D.int .i64 ((R.length+1:Nat):Int)= .int .i64 (((yk yj l (i+2+(m+1))).length:Nat):Int)∧zs.take (yk yj l (i+2+(m+1))).length=yk yj l (i+2+(m+1))∧zs.drop (i+1+(m+1))=l.drop (i+1+(m+1)):=by
      have hRn:(R++ [x]).length=R.length+1:=by simp
      refine⟨by omega,by omega,ys.set R.length x,by simpa using hyl,rfl,by rw[hsx,hRn];omega,by rw[hsx,hRn],?_,?_⟩
      ·rw[hsx,hRn,List.take_succ_eq_append_getElem (by rw[List.length_set];omega),List.getElem_set_self,List.take_set_of_le (Nat.le_refl _),hyt]
      ·rw[List.drop_set_of_lt (by omega)];exact hyd2 _ hyd
     clear hyt hyd hyd2 hsx g1 g2 hx hy hR hcl hb
     repeat' first|simp only[go_sem,zEv, *]|apply bc<;>intro hc
     refine zS (by kernel_rfl) ?_
     repeat' first|simp only[go_sem,zEv, *]|apply bc<;>intro hc
   ·have e1:decide (((m+1:Nat):Int)<((l.length- (i+1):Nat):Int))=false:=decide_eq_false (by omega);have hme:i+2+m=l.length:=by omega
    have hce:yk yj l (i+2+m)=cpt yj l:=by rw[hme];rfl
    rw[hce] at hyt f3 hcl;have hcle:(cpt yj l).length≤l.length:=zBo _;have hsl:∀H:Heap,yY Tryz.prog 31 (.rs id 1 0 l.length) (some (.int .i64 (((cpt yj l).length:Nat):Int))) none none H=some (.rs id 1 (cpt yj l).length (l.length- (cpt yj l).length)):=fun H=>by
     have:=wu (P:=Tryz.prog) (t:=31) (sz:=1) (id:=id) (h:=H) zN6 yG wP (k:= .i64) hcle;rw[Nat.mul_one] at this;exact this
    have hsh:=fun(H:Heap)=>zAn (P:=Tryz.prog) (t:=31) (h:=H) zN6 yG (id:=id) (sz:=1) wP (k:= .i64) hcle;obtain⟨rest,hclr⟩:=zIF (P:=Tryz.prog) (sz:=1) (t:=31) (xs:=wU ys) yG zAW rfl rfl (by rw[zFO];exact hrow2) zIY (n:=(cpt yj l).length) (by rw[yp];omega);have htk:((wU ys).take (cpt yj l).length).flatten=(cpt yj l).map (D.int .i64):=by rw[wU,←List.map_take,hyt];exact zFO _
    rw[htk,zEN,yp,hyl,Nat.mul_one] at hclr;have hfin:=hQ (.rs id 1 0 (cpt yj l).length) (h.set id (.row ((cpt yj l).map (D.int .i64)++rest))) ⟨rfl,rest,rfl⟩;clear hyt hyd hme hce htk hQ
    repeat' first|simp only[go_sem,zEv, *]|apply bc<;>intro hc
 ·have e1:decide (((i+1:Nat):Int)<(l.length:Int))=false:=decide_eq_false (by omega);have hd:=hdone fun j h1 h2=>hj j h1 (by omega);clear hj hdone hsame q1 h0 hQ
  repeat' first|simp only[go_sem,zEv, *]|apply bc<;>intro hc
theorem zbP (l:List Int):(l.mergeSort fun x y=>decide (x≤y))=srt yj l:=by
 unfold srt;congr 1
 funext a b
 unfold yj;by_cases h:a≤b
 ·rw[decide_eq_true h];have h1:¬b<a:=by omega
  rw[if_neg h1];split<;>simp
 ·rw[decide_eq_false h];have h1:b<a:=by omega
  rw[if_pos h1];rfl
def zDv (l:List Int):List Int:=cpt yj (srt yj l)
theorem zXb {l:List Int} (h0:l≠[]) (hl:l.length≤1048576) (tk:Tk) (h:Heap):zA Tryz.prog 109 [.sl 1 (wU l) tk] h fun r h'=>r= .rs h.next 1 0 l.length∧h'=h.new h.next (.row (l.map (D.int .i64))):=by
 have hpos:0<l.length:=List.length_pos_iff.2 h0;have hn:zCz Tryz.prog .eql 31 true (.sl 1 (wU l) tk) .nilsl=some (.bool false):=by rw[zBX (zf.mk tk) Tryz.underlying31];rfl
 have hz:=fun nid h=>wk (P:=Tryz.prog) (nid:=nid) (h:=h) yG zAW wP rfl rfl (by omega:0<1);have hap:z8 Tryz.prog true h.next 31 (.sl 1 [] .full) (.sl 1 (wU l) tk) h=some (.rs h.next 1 0 l.length,h.new h.next (.row (l.map (D.int .i64)))):=by
  rw[zE3 yG zSz wP (by omega) zIY (by rw[zGv,yp];unfold lim;omega) (by rw[yp];unfold lim;omega),yp,if_neg (by omega),zRR Tryz.underlying3,zFO]
 refine zA.of_fn (g:=zP3) mix Tryz.func109 zed rfl rfl ?_;simp only[Tryz.f109,gJ];simp only[qi,go_sem,zih,hn,hz,hap]
theorem zbQ {l:List Int} {id:Nat} {g:Heap} (h0:l≠[]) (hl:l.length≤1048576) (hrow:g.at' id=some (.row (l.map (D.int .i64)))):
  zA Tryz.prog 110 [.rs id 1 0 l.length] g fun r h'=>r= .tuple []∧h'=g.set id (.row ((srt yj l).map (D.int .i64))):=by
 have:=zA.of_sortI (P:=Tryz.prog) (f:=110) h0 (by kernel_rfl) hrow (by omega) (fun blk off cap zs w h1 h2 h3=>Tryz.slices_Sort_int blk off cap zs w h1 h2 h3);rw[zbP] at this;exact this
theorem zOv {l:List Int} {id:Nat} {g:Heap} (h0:l≠[]) (hl:l.length≤1048576) (hrow:g.at' id=some (.row (l.map (D.int .i64)))):
  zA Tryz.prog 111 [.rs id 1 0 l.length] g fun r h'=>h'=g.del id∧r= .sl 1 (wU (cpt yj l)) .no:=
 zA.freezeD ((zRv h0 hl hrow).mono (by
  rintro r h' ⟨rfl,rest,rfl⟩;exact⟨id,_,zC _ _ _,by rw[zOk],zLC zIY (yp _) (by rw[zFO])⟩))
def zI2 (num:Int) (ks:List Int):List D:=[.int .i64 num, .sl 1 (wU (zDv ks)) .no]
theorem zQn (num:Int) (ks:List (List Int)):∀c∈ks.map (zI2 num),c.length=2:=fun c hc=>by
 obtain⟨k,_,rfl⟩:=List.mem_map.1 hc;rfl
def zVg (h:Heap) (sz:Nat) (xs:List (List D)) (d:D):Prop:=(d= .nilsl∧xs= [])∨∃id,d= .rs id sz 0 xs.length∧h.at' id=some (.row xs.flatten)∧id<h.next∧xs≠[]
def zI3 (d:D) (i:Nat):Prop:=match d with
 | .rs id _ _ _=>i=id
 |_=>False
theorem zVg.loc {h h':Heap} {sz:Nat} {xs:List (List D)} {d:D} (ho:zVg h sz xs d) (hn:h.next≤h'.next) (hk:∀i,zI3 d i→h'.at' i=h.at' i):zVg h' sz xs d:=by
 rcases ho with h1| ⟨t,rfl,h1,h2⟩
 ·exact .inl h1
 ·exact .inr ⟨t,rfl,by rw[hk t rfl];exact h1,by omega,h2.2⟩
theorem zVg.app {P:Program} {h:Heap} {sz nid:Nat} {xs ys:List (List D)} {d:D} {tk:Tk} {t e:TypeId} (ho:zVg h sz xs d) (he:qC P t=some e) (hz:zGk P e=true) (hs:szT P e=sz) (h0:0<sz) (hr:∀cs,zAv P e cs= .row cs) (hxs:∀y∈xs,y.length=sz) (hys:∀y∈ys,y.length=sz) (hy0:ys≠[])
  (hb:(xs.length+ys.length)*yL P e≤lim) (hl:xs.length+ys.length≤lim):∃g:Heap,z8 P true nid t d (.sl sz ys tk) h=some (.rs nid sz 0 (xs++ys).length,g.new nid (.row (xs++ys).flatten))∧g.next=h.next∧(∀i,¬zI3 d i→g.at' i=h.at' i):=by
 have hfl:ys.flatten.length=ys.length*sz:=yv hys;have hlen:0<ys.length:=List.length_pos_iff.2 hy0;simp only[z8,he,hz,hs,zSJ,if_true,hfl,Nat.mul_div_cancel _ h0];rcases ho with⟨rfl,rfl⟩ | ⟨id,rfl,h1,h2⟩
 ·refine⟨h,?_,rfl,fun _ _=>rfl⟩;simp only[qO];rw[if_neg (by omega),if_pos (by simp only[Bool.and_eq_true,decide_eq_true_eq];simp only[List.length_nil,Nat.zero_add] at hb hl;exact⟨hb,hl⟩)];simp[hr]
 ·refine⟨h.del id,?_,rfl,fun i hi=>yV fun e=>hi (by rw[e];rfl)⟩;have hf2:xs.flatten.length=xs.length*sz:=yv hxs;simp only[qO,Bool.true_and,decide_true];rw[if_pos (by simp only[Bool.and_eq_true,decide_eq_true_eq];exact⟨hb,hl⟩)];simp only[h1,hf2,if_true];simp
theorem zVg.trunc {h:Heap} {sz:Nat} {xs:List (List D)} {d:D} (ho:zVg h sz xs d) (hx:∀x∈xs,x.length=sz) (x:D):qi d x h=h:=by
 rcases ho with⟨rfl,_⟩ | ⟨id,rfl,hr,_⟩
 ·rfl
 ·have hf:xs.flatten.length=xs.length*sz:=yv hx;cases x<;>simp[qi,hr,hf]
def YVf (num:Int) (fn:D) (nl nr:Nat) (ks:List (List Int)) (S:Nat→Prop) (h:Heap):Prop:=
 nl<h.next∧nr<h.next∧nl≠nr∧h.at' nr=some (.row [.int .i64 num,fn])∧∃d,h.at' nl=some (.row [d])∧zVg h 2 (ks.map (zI2 num)) d∧¬zI3 d nl∧¬zI3 d nr∧∀i,S i↔(i=nl∨i=nr∨zI3 d i)
set_option maxHeartbeats 2000000 in
theorem zbR {num:Int} {fn:D} {nl nr:Nat} {ks:List (List Int)} (hks:ks.length<16777216) {S:Nat→Prop} {h:Heap} (hY:YVf num fn nl nr ks S h) {l:List Int} (l0:l≠[]) (hl:l.length≤5) (tk:Tk):
  zA Tryz.prog 108 [.sl 1 (wU l) tk, .ptr nl 0, .ptr nr 0] h fun _ h'=>∃S',(∀i,S' i→S i∨h.next≤i)∧But S h h'∧YVf num fn nl nr (ks++ [l]) S' h':=by
 obtain⟨y1,y2,y3,y4,d,y5,y6,y7,y8,y9⟩:=hY;have hcl:=zXb l0 (by omega) tk h;have hso:=zbQ l0 (by omega) (zJ h h.next (.row (l.map (D.int .i64))));have s0:srt yj l≠[]:=fun e=>l0 (List.length_eq_zero_iff.1 (by rw[←(qR (c:=yj) l).length_eq,e];rfl));have sl:(srt yj l).length=l.length:=(qR l).length_eq;have hco:=zOv s0 (by omega) (zC (h.new h.next (.row (l.map (D.int .i64)))) h.next (.row ((srt yj l).map (D.int .i64))));rw[sl] at hco;refine zA.of_fn (g:=zPu) mix Tryz.func108 zeP rfl rfl ?_;simp only[Tryz.f108,gJ]
 repeat' first|simp only[go_sem,zWZ, *]|apply bc<;>intro hc
 refine hcl.mono ?_;rintro r h1 ⟨rfl,rfl⟩
 repeat' first|simp only[go_sem,zWZ, *]|apply bc<;>intro hc
 refine hso.mono ?_;rintro r h1 ⟨rfl,rfl⟩;obtain⟨h0,e1,e2,e3⟩:∃h0:Heap,h0.at' nl=some (.row [d])∧h0.at' nr=some (.row [.int .i64 num,fn])∧∀i ob,h0.at' i=some ob→(i=nl∨i=nr)∧h.at' i=some ob:=by
  refine⟨⟨h.next,fun i=>if i=nl∨i=nr then h.at' i else none⟩,by simp[y5],by simp[y4],fun i ob e=> ?_⟩
  simp only at e;split at e
  ·exact⟨‹_›,e⟩
  ·cases e
 obtain⟨H1,hH1,hle1⟩:∃H1,(h.new h.next (.row (l.map (D.int .i64)))).set h.next (.row ((srt yj l).map (D.int .i64)))=H1∧HLe h0 H1:=⟨_,rfl,fun i ob e=>by
  obtain⟨g1,g2⟩:=e3 i ob e;have hne:i≠h.next:=by rcases g1 with rfl|rfl<;>omega
  rw[zE hne,zF hne];exact g2⟩
 have hnx:(H1.del h.next).next=h.next+1:=by rw[←hH1];exact zD h (.row (l.map (D.int .i64)))
 have hke:∀i,i≠h.next→(H1.del h.next).at' i=h.at' i:=fun i hi=>by rw[←hH1,yV hi,zE hi,zF hi]
 have hle2:HLe h0 (H1.del h.next):=fun i ob e=>by
  obtain⟨g1,g2⟩:=e3 i ob e;rw[hke _ (by rcases g1 with rfl|rfl<;>omega)];exact g2
 rw[hH1] at hco⊢;clear hcl hso hH1;have hb:yC Tryz.prog 33 [(0, .int .i64 num),(1, .sl 1 (wU (zDv l)) .no)]=some (.agg (zI2 num l)):=by
  simp[yC,zFh,zEs,qS,yX,zI2,D.cells,D.notTuple]
 have hbs:∀nid H,zK Tryz.prog false nid 45 1 [(0, .agg (zI2 num l))] H=some (.sl 2 [zI2 num l] .full,H):=fun nid H=>yU (x:= .agg (zI2 num l)) wj zEs zAB rfl rfl (by omega) (by omega) rfl rfl;refine zx h0 [(0, .st,true),(1, .no,true),(2, .st,true),(3, .no,true),(4, .no,true),(5, .no,true),(6, .no,true),(7, .no,false),(8, .no,false)] (by kernel_rfl) (by kernel_rfl) hle1 ?_;simp only[go_sem,zWZ,e1,e2,eq_true hle1];refine hco.mono ?_;rintro r h2 ⟨rfl,rfl⟩;generalize H1.del h.next=h2 at hnx hke hle2⊢;have y6':zVg h2 2 (ks.map (zI2 num)) d:=y6.loc (by omega) fun i hi=>by
  refine hke i ?_;rcases y6 with⟨rfl,_⟩ | ⟨id,rfl,_,hid,_⟩
  ·exact hi.elim
  ·simp only[zI3] at hi;omega
 have hkl:(ks.map (zI2 num)).length=ks.length:=List.length_map ..;obtain⟨g,hg1,hg2,hg3⟩:=zVg.app (nid:=h2.next) (tk:= .full) y6' wj zZT zAB (by omega) (fun cs=>zA6 Tryz.underlying33) (zQn num ks) (ys:=[zI2 num l]) (by simp[zI2]) (by simp) (by rw[hkl,zS0];unfold lim;simp;omega) (by rw[hkl];unfold lim;simp;omega);have hmp:ks.map (zI2 num)++ [zI2 num l]=(ks++ [l]).map (zI2 num):=by simp
 rw[hmp] at hg1;have hnl:(g.new h2.next (.row ((ks++ [l]).map (zI2 num)).flatten)).at' nl=some (.row [d]):=by rw[zF (by omega),hg3 _ y7,hke _ (by omega),y5]
 have hstr:zQ Tryz.prog 45 (.ptr nl 0) (.rs h2.next 2 0 ((ks++ [l]).map (zI2 num)).length) (g.new h2.next (.row ((ks++ [l]).map (zI2 num)).flatten))=some ((g.new h2.next (.row ((ks++ [l]).map (zI2 num)).flatten)).set nl (.row [.rs h2.next 2 0 ((ks++ [l]).map (zI2 num)).length])):=by
  rw[zV hnl zdT (by simp) rfl rfl];rfl
 have hgn:(g.new h2.next (.row ((ks++ [l]).map (zI2 num)).flatten)).next=h.next+2:=by simp only[Heap.new];omega
 have htr:=y6'.trunc (zQn num ks);have hnorm:cpt yj (srt yj l)=zDv l:=rfl;simp only[go_sem,zWZ,hnorm,hb,hbs,htr,hg1,hstr,eq_true hle2];refine⟨fun i=>i=nl∨i=nr∨i=h2.next,fun i hi=> ?_,⟨by simp only[ze];omega,fun i hi hn=> ?_⟩,by simp only[ze];omega,by simp only[ze];omega,y3,?_,_,zC _ _ _, .inr ⟨h2.next,rfl,?_,?_,by simp⟩,?_,?_,fun i=>Iff.rfl⟩
 ·rcases hi with rfl|rfl|rfl
  ·exact .inl (.inl rfl)
  ·exact .inl (.inr (.inl rfl))
  ·exact .inr (by omega)
 ·have n1:i≠nl:=fun e=>hn ((y9 i).2 (.inl e));have n2:¬zI3 d i:=fun e=>hn ((y9 i).2 (.inr (.inr e)));rw[zE n1,zF (by omega),hg3 _ n2,hke _ (by omega)]
 ·rw[zE (Ne.symm y3),zF (by omega),hg3 _ y8,hke _ (by omega),y4]
 ·rw[zE (by omega),zJ]
 ·simp only[ze];omega
 ·simp only[zI3];omega
 ·simp only[zI3];omega
theorem zXc {num:Int} {fn:D} {nl nr:Nat} :Fnd2 Tryz.prog 5 108 [.ptr nl 0, .ptr nr 0] (YVf num fn nl nr):=by
 refine⟨fun ks S h hy i hi=> ?_,fun ks S h h' hy hn hk=> ?_,fun ks S h l tk hy hl h0 h8 hft=> ?_⟩
 ·obtain⟨y1,y2,y3,y4,d,y5,y6,y7,y8,y9⟩:=hy;rcases(y9 i).1 hi with rfl|rfl|hi
  ·exact y1
  ·exact y2
  ·rcases y6 with⟨rfl,_⟩ | ⟨id,rfl,_,hid,_⟩
   ·exact hi.elim
   ·simp only[zI3] at hi;omega
 ·obtain⟨y1,y2,y3,y4,d,y5,y6,y7,y8,y9⟩:=hy;exact⟨by omega,by omega,y3,by rw[hk nr ((y9 _).2 (.inr (.inl rfl)))];exact y4,d,by rw[hk nl ((y9 _).2 (.inl rfl))];exact y5,y6.loc hn fun i hi=>hk i ((y9 i).2 (.inr (.inr hi))),y7,y8,y9⟩
 ·exact zbR hl hy (List.length_pos_iff.1 h0) h8 tk
open Go.Proofs Go.Shelf Go.Sort
theorem zfx {l m:List Int} {d e:D} (hd:zf 1 (wU l) d) (he:zf 1 (wU m) e) (hl:l.length≤1048576) (g:Heap):zA Tryz.prog 114 [d,e] g fun r h'=>h'=g∧r= .int .i64 (qh l m):=by
 have hll:=zAh hd;have hml:=zAh he;obtain⟨q1,q2,_⟩:=zM hd;obtain⟨q3,q4,_⟩:=zM he;refine zA.of_fn (g:=zPv) mix Tryz.func114 zeQ rfl rfl ?_;simp only[Tryz.f114,gJ]
 repeat' first|simp only[go_sem,zOH, *]|apply bc<;>intro hc
 refine zy (fun i fr h'=>fr 0=d∧fr 1=e∧fr 9=d∧fr 10= .int .i64 l.length∧fr 11= .int .i64 (i:Int)∧h'=g∧i≤m.length∧qh (l.drop i) (m.drop i)=qh l m) l.length ?_ ?_
 ·simp only[go_sem,zOH,true_and,and_true,Int.ofNat_zero];exact⟨Nat.zero_le _,rfl⟩
 rintro i fr h' hi ⟨f0,f1,f9,f10,f11,rfl,him,ho⟩;by_cases hlt:i<l.length
 ·have e1:decide ((i:Int)<(l.length:Int))=true:=decide_eq_true (by omega);have a1:=zCb hd hlt;by_cases hge:i≥m.length
  ·have e2:decide ((i:Int)≥(m.length:Int))=true:=decide_eq_true (by omega);have hr:qh l m=1:=by
    rw[List.drop_eq_getElem_cons hlt,List.drop_eq_nil_of_le hge] at ho;rw[←ho];rfl
   rw[hr];clear ho hr him hge
   repeat' first|simp only[go_sem,zOH, *]|apply bc<;>intro hc
  ·have e2:decide ((i:Int)≥(m.length:Int))=false:=decide_eq_false (by omega);have hmlt:i<m.length:=by omega
   have a2:=zCb he hmlt;rw[zUR hlt hmlt] at ho;simp only[List.getD_eq_getElem?_getD,List.getElem?_eq_getElem hlt,List.getElem?_eq_getElem hmlt,Option.getD_some] at ho;have hc:=zH5 l[i] m[i] h';have ew:IntKind.i64.wrap ((i:Int)+1)=((i+1:Nat):Int):=zh (by unfold lim;omega);generalize hz:yj l[i] m[i]=z at *
   cases hb:(z==0) with
   |true=>
    have h0:z=0:=by simpa using hb
    rw[if_pos h0] at ho;have hfin:i<l.length∧i+1≤m.length∧qh (l.drop (i+1)) (m.drop (i+1))=qh l m:=⟨hlt,hmlt,ho⟩;clear ho him hge hz h0
    repeat' first|simp only[go_sem,zOH, *]|apply bc<;>intro hc|(refine zA.mono hc ?_;rintro r h ⟨hq,rfl⟩)
   |false=>
    have h0:¬z=0:=by simpa using hb
    rw[if_neg h0] at ho;rw[←ho];clear ho him hge hz h0
    repeat' first|simp only[go_sem,zOH, *]|apply bc<;>intro hc|(refine zA.mono hc ?_;rintro r h ⟨rfl,rfl⟩)
 ·have e1:decide ((i:Int)<(l.length:Int))=false:=decide_eq_false (by omega);have hie:l.length≤i:=by omega
  rw[List.drop_eq_nil_of_le hie] at ho;cases hlm:decide ((l.length:Int)<(m.length:Int)) with
  |true=>
   have hlm':=of_decide_eq_true hlm;have hr:qh l m= -1:=by
    rw[List.drop_eq_getElem_cons (show i<m.length by omega)] at ho;rw[←ho];rfl
   rw[hr];clear ho hr him hie
   repeat' first|simp only[go_sem,zOH, *]|apply bc<;>intro hc
  |false=>
   have hlm':=of_decide_eq_false hlm;have hr:qh l m=0:=by
    rw[List.drop_eq_nil_of_le (by omega)] at ho;rw[←ho];rfl
   rw[hr];clear ho hr him hie
   repeat' first|simp only[go_sem,zOH, *]|apply bc<;>intro hc
structure Vio where
 row:Int
 facts:List Int
def Vio.Is (v:Vio) (cs:List D):Prop:=∃d,cs= [.int .i64 v.row,d]∧zf 1 (wU v.facts) d∧v.facts.length≤1048576
def zVB (v w:Vio):Int:=orL [yj v.row w.row,qh v.facts w.facts]
theorem zNN {v w:Vio} {cv cw:List D} (hv:v.Is cv) (hw:w.Is cw) (g:Heap):zA Tryz.prog 76 [.agg cv, .agg cw] g fun r h'=>h'=g∧r= .int .i64 (zVB v w):=by
 obtain⟨d,rfl,hd,hdl⟩:=hv;obtain⟨e,rfl,he,hel⟩:=hw;have h1:=zH5 v.row w.row;have h2:=zfx hd he hdl;have h3:=zfW (l:=[yj v.row w.row,qh v.facts w.facts]) (zf.mk .full) (by simp);have hb:=bs2 (yj v.row w.row) (qh v.facts w.facts);obtain⟨q1,q2,_⟩:=zM hd;obtain⟨q3,q4,_⟩:=zM he;have hle:∀h:Heap,HLe h h:=fun _ _ _ e=>e;unfold zVB;refine zA.of_fn (g:=zWK) mix Tryz.func76 zkO rfl rfl ?_;simp only[Tryz.f76,gJ]
 repeat' first|simp only[go_sem,zkN, *]|apply bc<;>intro hc
 refine zx g [(0, .no,true),(1, .no,true),(2, .no,true),(3, .no,true),(5, .no,true),(6, .st,true),(7, .no,true),(8, .st,true),(4, .no,true),(9, .no,true),(10, .no,true),(11, .no,true),(12, .no,true)] (by kernel_rfl) (by kernel_rfl) (fun _ _ e=>e) ?_
 repeat' first|simp only[go_sem,zkN, *]|apply bc<;>intro hc|(refine zA.mono (h1 _) ?_;rintro r h ⟨rfl,rfl⟩)|(refine zA.mono (h2 _) ?_;rintro r h ⟨rfl,rfl⟩)|(refine zA.mono (h3 _) ?_;rintro r h ⟨rfl,rfl⟩)
theorem Vio.Is.two {v:Vio} {cv:List D} (hv:v.Is cv):zO true 2 cv 0=some (.agg cv):=by
 obtain⟨d,rfl,_⟩:=hv;exact zB rfl (by omega)
theorem zbS {v w:Vio} {cv cw:List D} (hv:v.Is cv) (hw:w.Is cw) (g:Heap):zA Tryz.prog 45 [.agg cv, .agg cw] g fun r h'=>h'=g∧r= .bool (zVB v w==0):=by
 have hc:=zNN hv hw;have h1:=Vio.Is.two hv;have h2:=Vio.Is.two hw;refine zA.of_fn (g:=zWB) mix Tryz.func45 zkB rfl rfl ?_;simp only[Tryz.f45,gJ]
 repeat' first|simp only[go_sem,zlE, *]|apply bc<;>intro hc|(refine zA.mono (hc _) ?_;rintro r h ⟨rfl,rfl⟩)
theorem zCn:∀a b:List Int,qh a b=zGQ yj a b
 | [],[]=>rfl
 | [],_::_=>rfl
 |_::_,[]=>rfl
 |x::xs,y::ys=>by
  simp only[qh,zGQ,zMw,zCn xs ys]
theorem zIZ:QC qh:=by
 have:=zIL.list;exact⟨fun x y=>by rw[zCn,zCn];exact this.anti x y,fun x y z=>by rw[zCn,zCn,zCn];exact this.trans x y z⟩
theorem zVC (x y:List Int) (h:qh x y=0):x=y:=by
 rw[zCn] at h;exact zK9 zay _ _ h
def zRw (num:Int) (x:List Int):List D:=[.int .i64 num, .sl 1 (wU x) .no]
def vbs (num:Int) (l:List (List Int)):List (List D):=l.map (zRw num)
theorem zAf (num:Int) (l:List (List Int)):(vbs num l).length=l.length:=List.length_map ..
theorem zCo (num:Int) (l:List (List Int)):∀x∈vbs num l,x.length=2:=fun x hx=>by
 obtain⟨y,_,rfl⟩:=List.mem_map.1 hx;rfl
theorem zLR (num:Int) {x:List Int} (h:x.length≤1048576):(Vio.mk num x).Is (zRw num x):=⟨_,rfl,zf.mk .no,h⟩
theorem zIa (num:Int) (x y:List Int):zVB ⟨num,x⟩ ⟨num,y⟩ =qh x y:=by
 have h:yj num num=0:=zIL.refl num;simp only[zVB,orL,h,if_true];split
 ·rename_i q;exact q.symm
 ·rfl
theorem zbT {num:Int} {l:List (List Int)} {id:Nat} {g:Heap} (h0:l≠[]) (hl:l.length≤16777216) (hle:∀x∈l,x.length≤1048576) (hrow:g.at' id=some (.row (vbs num l).flatten)):
  zA Tryz.prog 112 [.rs id 2 0 l.length, .fn (.func 76) [] []] g fun r h'=>r= .tuple []∧h'=g.set id (.row (vbs num (srt qh l)).flatten):=by
 have:=zA.of_sortK (P:=Tryz.prog) (f:=112) (cmp:=76) (k:=2) (cells:=zRw num) (xs:=l) (id:=id) (pre:=[]) (post:=[]) (h:=g) (cf:=qh) (mid:=[]) (midV:=[]) (fun M ρ vs h=>by simpa [zu] using h) h0 (by omega) (fun x hx=>rfl) (by kernel_rfl) (enters_of Tryz.func76 (by kernel_rfl) rfl) (by simpa [vbs] using hrow) zIZ.swo (by omega)
  (fun x hx y hy H=>by have:=zNN (zLR num (hle x hx)) (zLR num (hle y hy)) H;rw[zIa] at this;exact this) (fun α _ enc h1 h2 cf hO g cb blk off cap d w hg hc hH hb hs hd=>AnyQ.slices_SortFunc Tryz.sortVio 2 (Tryz.isAgg33) (Tryz.sizeOf33) enc h1 h2 cf hO g cb blk off cap d w hg hc hH hb hs)
 refine this.mono fun r h' ⟨e1,ys,hp,hs,e2⟩=>⟨e1,?_⟩;rw[e2,zQX zIZ zVC hp hs];simp[vbs]
theorem zCp {α:Type} {f:α→List D} {p:α→Prop} :∀ {ys:List (List D)},(∀y∈ys,∃s,y=f s∧p s)→∃l:List α,ys=l.map f∧∀s∈l,p s
 | [],_=>⟨[],rfl,fun n hn=>by cases hn⟩
 |y::ys,h=>by
  obtain⟨n,rfl,hn⟩:=h y (by simp);obtain⟨ks,rfl,hk⟩:=zCp (ys:=ys) fun z hz=>h z (List.mem_cons_of_mem _ hz);exact⟨n::ks,rfl,fun m hm=>by
   rcases List.mem_cons.1 hm with rfl|hm
   ·exact hn
   ·exact hk m hm⟩
theorem zQo {k:Nat} {c:List D} (h:Shp Tryz.prog k 40 c):∃d l,c= [d]∧zf 1 (yW l) d∧l.length≤1048576:=by
 obtain⟨d,xs,j,e,hj,hs,_,hl,hx⟩:=zGJ Tryz.underlying40 zBg h;obtain⟨l,rfl,hk⟩:=zCp (f:=fun s:List UInt8=>[D.str s]) fun y hy=>zAY Tryz.underlying9 (hx y hy);rw[List.length_map] at hl;exact⟨d,l,e,hs,hl⟩
theorem zXd {k:Nat} {c:List D} (h:Shp Tryz.prog k 31 c):∃d l,c= [d]∧zf 1 (wU l) d∧l.length≤1048576:=by
 obtain⟨d,xs,j,e,hj,hs,_,hl,hx⟩:=zGJ Tryz.underlying31 wP h;obtain⟨l,rfl,hk⟩:=zCp (f:=fun s:Int=>[D.int .i64 s]) fun y hy=>zBY Tryz.underlying3 (hx y hy);rw[List.length_map] at hl;exact⟨d,l,e,hs,hl⟩
theorem zbU {k:Nat} {c:List D} (h:Shp Tryz.prog k 124 c):∃n:Lic,c=n.cells∧n.Sm:=by
 obtain⟨j,_,hf⟩:=zAZ Tryz.underlying124 h;obtain⟨c1,r1,rfl,h1,hf⟩:=zm hf;obtain⟨c2,r2,rfl,h2,hf⟩:=zm hf;obtain⟨c3,r3,rfl,h3,hf⟩:=zm hf;obtain⟨c4,r4,rfl,h4,hf⟩:=zm hf;obtain rfl:=zCV hf;obtain⟨s1,rfl,b1⟩:=zAY Tryz.underlying9 h1;obtain⟨s2,rfl,b2⟩:=zAY Tryz.underlying9 h2;obtain⟨s3,rfl,b3⟩:=zBY Tryz.underlying3 h3;obtain⟨s4,rfl,b4⟩:=zAY Tryz.underlying9 h4;exact⟨⟨s1,s2,s3,s4⟩,rfl,b1,b2,b4⟩
theorem zbV {k:Nat} {c:List D} (h:Shp Tryz.prog k 129 c):∃n:Exc,c=n.cells∧n.Ok:=by
 obtain⟨j,_,hf⟩:=zAZ Tryz.underlying129 h;obtain⟨c1,r1,rfl,h1,hf⟩:=zm hf;obtain⟨c2,r2,rfl,h2,hf⟩:=zm hf;obtain⟨c3,r3,rfl,h3,hf⟩:=zm hf;obtain rfl:=zCV hf;obtain⟨s1,rfl,b1⟩:=zAY Tryz.underlying9 h1;obtain⟨s2,rfl,b2⟩:=zAY Tryz.underlying9 h2;obtain⟨d,l,rfl,i3,b3⟩:=zXd h3;exact⟨⟨s1,s2,l,d⟩,rfl,i3,b3,b1⟩
theorem zbW {k:Nat} {c:List D} (h:Shp Tryz.prog k 92 c):∃n:Cla,c=n.cells∧n.Ok:=by
 obtain⟨j,_,hf⟩:=zAZ Tryz.underlying92 h;obtain⟨c1,r1,rfl,h1,hf⟩:=zm hf;obtain⟨c2,r2,rfl,h2,hf⟩:=zm hf;obtain⟨c3,r3,rfl,h3,hf⟩:=zm hf;obtain⟨c4,r4,rfl,h4,hf⟩:=zm hf;obtain⟨c5,r5,rfl,h5,hf⟩:=zm hf;obtain rfl:=zCV hf;obtain⟨s1,rfl,b1⟩:=zAY Tryz.underlying9 h1;obtain⟨s2,rfl,b2⟩:=zBY Tryz.underlying3 h2;obtain⟨s3,rfl,b3⟩:=zBY Tryz.underlying3 h3;obtain⟨s4,rfl,b4⟩:=zBY Tryz.underlying3 h4;obtain⟨d,l,rfl,i5,b5⟩:=zQo h5;exact⟨⟨s1,s2,s3,s4,l,d⟩,rfl,i5,b5⟩
theorem zbX {k:Nat} {c:List D} (h:Shp Tryz.prog k 135 c):∃n:Apt,c=n.cells∧True:=by
 obtain⟨j,_,hf⟩:=zAZ Tryz.underlying135 h;obtain⟨c1,r1,rfl,h1,hf⟩:=zm hf;obtain⟨c2,r2,rfl,h2,hf⟩:=zm hf;obtain rfl:=zCV hf;obtain⟨s1,rfl,b1⟩:=zAY Tryz.underlying9 h1;obtain⟨s2,rfl,b2⟩:=zAY Tryz.underlying9 h2;exact⟨⟨s1,s2⟩,rfl,trivial⟩
theorem zbY {k:Nat} {c:List D} (h:Shp Tryz.prog k 27 c):∃n:Cat,qW n (.agg c)∧n.Sm:=by
 obtain⟨j,_,hf⟩:=zAZ Tryz.underlying27 h;obtain⟨c1,r1,rfl,h1,hf⟩:=zm hf;obtain⟨c2,r2,rfl,h2,hf⟩:=zm hf;obtain⟨c3,r3,rfl,h3,hf⟩:=zm hf;obtain⟨c4,r4,rfl,h4,hf⟩:=zm hf;obtain rfl:=zCV hf;obtain⟨d1,x1,j1,rfl,_,i1,_,b1,h1⟩:=zGJ Tryz.underlying22 zCS h1;obtain⟨d2,x2,j2,rfl,_,i2,_,b2,h2⟩:=zGJ Tryz.underlying23 zHk h2;obtain⟨d3,x3,j3,rfl,_,i3,_,b3,h3⟩:=zGJ Tryz.underlying24 zEu h3;obtain⟨d4,x4,j4,rfl,_,i4,_,b4,h4⟩:=zGJ Tryz.underlying25 zKh h4;obtain⟨l1,rfl,k1⟩:=zCp fun y hy=>zbU (h1 y hy);obtain⟨l2,rfl,k2⟩:=zCp fun y hy=>zbV (h2 y hy);obtain⟨l3,rfl,k3⟩:=zCp fun y hy=>zbW (h3 y hy)
 obtain⟨l4,rfl,k4⟩:=zCp fun y hy=>zbX (h4 y hy);rw[List.length_map] at b1 b2 b3 b4;exact⟨⟨l1,l2,l3,l4⟩,⟨d1,d2,d3,d4,rfl,i1,i2,i3,i4⟩,⟨b1,k1⟩,⟨b2,k2⟩,⟨b3,k3⟩,b4⟩
theorem zYx:∀ {l:List Ex},(∀e∈l,e.Ok)→okL l
 | [],_=>by simp only[okL]
 |e::l,h=>by simp only[okL];exact⟨h e (by simp),zYx fun x hx=>h x (List.mem_cons_of_mem _ hx)⟩
theorem zfy (k:Nat):∀ {c:List D},Shp Tryz.prog k 85 c→∃e:Ex,c=e.cells∧e.Ok:=by
 induction k using Nat.strongRecOn with
 |_ k ih=>
 intro c h;obtain⟨j,hj,hf⟩:=zAZ Tryz.underlying85 h;obtain⟨c1,r1,rfl,h1,hf⟩:=zm hf;obtain⟨c2,r2,rfl,h2,hf⟩:=zm hf;obtain⟨c3,r3,rfl,h3,hf⟩:=zm hf;obtain⟨c4,r4,rfl,h4,hf⟩:=zm hf;obtain rfl:=zCV hf;obtain⟨s1,rfl,b1⟩:=zBY Tryz.underlying3 h1;obtain⟨s2,rfl,b2⟩:=zAY Tryz.underlying9 h2;obtain⟨s3,rfl,b3⟩:=zAY Tryz.underlying9 h3;obtain⟨d4,x4,m,rfl,hm,i4,_,b4,h4⟩:=zGJ Tryz.underlying83 zS4 h4;obtain⟨l,rfl,kl⟩:=zCp fun y hy=>ih m (by omega) (h4 y hy);rw[List.length_map] at b4;exact⟨.mk s1 s2 s3 l d4,rfl,by simp only[Ex.Ok];exact⟨i4,b4,b2,b3,zYx kl⟩⟩
theorem zbZ {k:Nat} {c:List D} (h:Shp Tryz.prog k 87 c):∃f:Fac,c=f.cells∧f.Ok0:=by
 obtain⟨j,_,hf⟩:=zAZ Tryz.underlying87 h;obtain⟨c1,r1,rfl,h1,hf⟩:=zm hf;obtain⟨c2,r2,rfl,h2,hf⟩:=zm hf;obtain⟨c3,r3,rfl,h3,hf⟩:=zm hf;obtain⟨c4,r4,rfl,h4,hf⟩:=zm hf;obtain⟨c5,r5,rfl,h5,hf⟩:=zm hf;obtain⟨c6,r6,rfl,h6,hf⟩:=zm hf;obtain⟨c7,r7,rfl,h7,hf⟩:=zm hf;obtain⟨c8,r8,rfl,h8,hf⟩:=zm hf;obtain⟨c9,r9,rfl,h9,hf⟩:=zm hf;obtain rfl:=zCV hf;obtain⟨s1,rfl,b1⟩:=zBY Tryz.underlying3 h1;obtain⟨s2,rfl,b2⟩:=zAY Tryz.underlying9 h2;obtain⟨s3,rfl,b3⟩:=zAY Tryz.underlying9 h3;obtain⟨s4,rfl,b4⟩:=zBY Tryz.underlying3 h4;obtain⟨s5,rfl,b5⟩:=zBY Tryz.underlying3 h5;obtain⟨s6,rfl,b6⟩:=zBY Tryz.underlying3 h6
 obtain⟨s7,rfl⟩:=zWt Tryz.underlying4 h7;obtain⟨e,rfl,b8⟩:=zfy _ h8;obtain⟨d,l,rfl,i9,b9⟩:=zQo h9;exact⟨⟨s1,s2,s3,s4,s5,s6,s7,e,l,d⟩,rfl,b8,i9,b9,b2,b3⟩
theorem zVD {k:Nat} {c:List D} (h:Shp Tryz.prog k 29 c):∃d fs,c= [d]∧zf 12 (zFC fs) d∧fs.length≤1048576∧(∀f∈fs,f.Ok0)∧∀f∈fs,yr f.cells:=by
 obtain⟨d,xs,j,e,hj,hs,_,hl,hx⟩:=zGJ Tryz.underlying29 zS5 h;obtain⟨l,rfl,hk⟩:=zCp (f:=Fac.cells) (p:=fun f=>f.Ok0∧yr f.cells) fun y hy=>by
  obtain⟨f,hf,ho⟩:=zbZ (hx y hy);exact⟨f,hf,ho,by rw[←hf];exact zE2 _ _ _ (hx y hy)⟩
 rw[List.length_map] at hl;exact⟨d,l,e,hs,hl,fun f hf=>(hk f hf).1,fun f hf=>(hk f hf).2⟩
end Go.V
