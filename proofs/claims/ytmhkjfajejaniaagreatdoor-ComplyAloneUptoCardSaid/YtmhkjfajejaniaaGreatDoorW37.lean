/- A machine of abstract values for programs of the model, further rules, part 3. No condition. -/
import Derived.Test.YtmhkjfajejaniaaGreatDoorW34
import Derived.Test.YtmhkjfajejaniaaGreatDoorW36
import Derived.Test.YtmhkjfajejaniaaGreatDoorW31
import Derived.Test.YtmhkjfajejaniaaGreatDoorW30
import Derived.Test.YtmhkjfajejaniaaGreatDoorW23
import Derived.Test.YtmhkjfajejaniaaGreatDoorW33
import Derived.Test.YtmhkjfajejaniaaGreatDoorW06
set_option linter.all false
namespace Go.V
open Go.Shelf Go.Proofs Go.Sort
open Go.RowKit (Below)
theorem zA.of_sortI {P:Program} {f:FuncId} {xs:List Int} {id:Nat} {h:Heap} (h0:xs≠[]) (he:wt P f=true) (hrow:h.at' id=some (.row (xs.map (D.int .i64)))) (hlen:xs.length<4611686018427387904)
  (hlib:∀ (blk off cap:Nat) (zs:List Int) (w:World),Go.Sort.Holds (Value.int .i64) w blk off zs.toArray→blk<w.heap.size→zs.length<4611686018427387904→
   Calls P f #[.slice (some ⟨blk,off,none⟩) zs.length cap] w fun e w'=>e= .returned (.tuple #[])∧∃n os,w'=Go.Sort.grow (putRow (Value.int .i64) (Go.Sort.ahead w n) blk off (zs.mergeSort fun x y=>decide (x≤y)).toArray) os):
  zA P f [.rs id 1 0 xs.length] h fun r h'=>r= .tuple []∧h'=h.set id (.row ((xs.mergeSort fun x y=>decide (x≤y)).map (D.int .i64))):=by
 refine⟨he,fun w0 G M ρ w va hg0 hs hfr hr=> ?_⟩;simp only[z8] at hr;obtain⟨v,vs',hva,hv,rfl⟩:=hr;simp only[rel,z8] at hv;obtain⟨_,hlim,l,cap,o,hl,rfl,⟨hc1,hc2⟩,hsz,ho⟩:=hv;have hxl:0<xs.length:=List.length_pos_iff.2 h0;have ho:o=0:=by
  rcases ho with hz|ho
  ·omega
  ·exact ho
 subst ho;have hva':va= #[.slice (some ⟨l.blk,0,none⟩) xs.length cap]:=Array.ext' (by simpa using hva);subst hva';obtain⟨l',h1,hkeep,hM,c,e,hw,hls,hcl,hcells⟩:=hs.live id _ hrow;rw[hl] at h1;cases h1;have hblk:l.blk<w.heap.size:=(Array.getElem?_eq_some_iff.1 hw).1;have hholds:Go.Sort.Holds (Value.int .i64) w l.blk 0 xs.toArray:=by
  intro j hj;have hj':j<xs.length:=by simpa using hj
  refine⟨?_,by simp[World.frozen?,hw]⟩;obtain⟨_,v,h2,h3⟩:=hcells j (.int .i64 xs[j]) (by rw[List.getElem?_map,List.getElem?_eq_getElem hj'];rfl);simp only[rel] at h3;obtain⟨rfl,_⟩:=h3;simp only[World.cell?,hw,Option.isSome_none,Bool.false_eq_true,if_false];rw[Nat.zero_add,h2];simp[hj']
 refine(hlib l.blk 0 cap xs w hholds hblk hlen).mono fun e w' hq=> ?_;obtain⟨rfl,n,os,rfl⟩:=hq;have hrow2:h.at' id=some (.row ([]++xs.map (D.int .i64)++ [])):=by simpa using hrow
 have hS:=(hs.ahead n).putRow (α:=Int) (enc:=Value.int .i64) (dd:=D.int .i64) (fun q=>rfl) hrow2 hl (ys:=xs.mergeSort fun x y=>decide (x≤y)) (List.length_mergeSort _) (fun q hq=>by
  obtain⟨i,hi,rfl⟩:=List.mem_iff_getElem.1 (List.mem_mergeSort.1 hq);obtain⟨_,v,_,h3⟩:=hcells i (.int .i64 xs[i]) (by rw[List.getElem?_map,List.getElem?_eq_getElem hi];rfl);simp only[rel] at h3;exact yX h3.2)
 have hS2:=hS.grow os;refine⟨.tuple #[],M,ρ, .tuple [],_,rfl,MLe.refl _,RLe.refl _,hS2,hfr,by simp only[rel,z8];exact⟨#[],rfl,rfl⟩,rfl,by simp⟩
open Go.Proofs
set_option maxRecDepth 100000
theorem zFe (l:List Int):(qp l).flatten=l.map (D.int .i64):=by
 induction l with
 |nil=>rfl
 |cons a l ih=>simp only[qp,List.map_cons,List.flatten_cons] at ih⊢;rw[ih];rfl
theorem zIq {l:List Int} :∀x∈qp l,x.length=1:=fun x hx=>by
 obtain⟨y,_,rfl⟩:=List.mem_map.1 hx;rfl
theorem zQr (x y:Int):(yn x y==0)=(x==y):=by
 unfold yn;split
 ·have:x≠y:=by omega
  simp[this]
 ·split
  ·have:x≠y:=by omega
   simp[this]
  ·have:x=y:=by omega
   simp[this]
set_option maxHeartbeats 4000000 in
theorem zRz {l:List Int} {id:Nat} {g:Heap} (h0:l≠[]) (hl:l.length≤1048576) (hrow:g.at' id=some (.row (l.map (D.int .i64)))):
  zA Tryz.prog 111 [.rs id 1 0 l.length] g fun r h'=>r= .rs id 1 0 (cpt yn l).length∧∃rest,h'=g.set id (.row ((cpt yn l).map (D.int .i64)++rest)):=by
 have hlen:=fun(h:Heap)=>zCb (P:=Tryz.prog) (t:=31) (sz:=1) (id:=id) (off:=0) (len:=l.length) (h:=h) Tryz.underlying31;have hpos:0<l.length:=List.length_pos_iff.2 h0;have hsame:∀n,n≤l.length→(∀i (h:i+1<l.length),i+1<n→(yn l[i+1] l[i]==0)=false)→yt yn l n=l.take n:=fun n hn hh=>by
  induction n with
  |zero=>rfl
  |succ n ih=>
   cases n with
   |zero=>rw[zDr hpos,List.take_one];simp[List.head?_eq_getElem?,hpos]
   |succ k=>
    rw[zAQ (by omega),if_neg (by rw[hh k (by omega) (by omega)];exact Bool.false_ne_true),ih (by omega) fun i h1 h2=>hh i h1 (by omega)];exact(List.take_succ_eq_append_getElem (by omega)).symm
 refine zA.post fun Q hQ=> ?_;have hdone:(∀i (h:i+1<l.length),i+1<l.length→(yn l[i+1] l[i]==0)=false)→Q (.rs id 1 0 l.length) g:=fun hh=>hQ _ _ (by
  have e:cpt yn l=l:=by
   have:=hsame l.length (Nat.le_refl _) hh;rw[List.take_length] at this;exact this
  rw[e];exact⟨rfl,[],by rw[List.append_nil,zBv hrow]⟩)
 refine zA.of_fn (g:=zPi) mix Tryz.func111 zdQ rfl rfl ?_;simp only[Tryz.f111,gJ];cases q1:decide ((l.length:Int)<2) with
 |true=>
  have hd:=hdone fun i h1 h2=>by have:=of_decide_eq_true q1;omega
  clear hdone hQ
  repeat' first|simp only[go_sem,zFE, *]|apply bc<;>intro hc
 |false=>
 repeat' first|simp only[go_sem,zFE, *]|apply bc<;>intro hc
 refine yC (fun i fr h=>fr 0= .rs id 1 0 l.length∧fr 3= .int .i64 ((i+1:Nat):Int)∧h=g∧i+1≤l.length∧∀j (h:j+1<l.length),j+1<i+1→(yn l[j+1] l[j]==0)=false) l.length ?_ ?_
 ·simp only[go_sem,zFE,true_and,and_true,Int.ofNat_zero];exact⟨rfl,hpos,fun j h1 h2=>by omega⟩
 rintro i fr h hi ⟨f0,f3,rfl,hile,hj⟩;by_cases hlt:i+1<l.length
 ·have e1:decide (((i+1:Nat):Int)<(l.length:Int))=true:=decide_eq_true (by omega);have ew:IntKind.i64.wrap (((i+1:Nat):Int)+1)=((i+2:Nat):Int):=ze (by unfold lim;omega);have ew2:IntKind.i64.wrap (((i+1:Nat):Int)-1)=((i:Nat):Int):=by rw[zX (by omega) (by omega)];omega
  have a1:=z6 (P:=Tryz.prog) (sz:=1) (id:=id) yH wI (k:= .i64) hlt;have a2:=z6 (P:=Tryz.prog) (sz:=1) (id:=id) yH wI (k:= .i64) (show i<l.length by omega);have p1:(l.map (D.int .i64))[i+1]? =some (.int .i64 l[i+1]):=by simp[hlt]
  have p2:(l.map (D.int .i64))[i]? =some (.int .i64 l[i]):=by simp[show i<l.length by omega]
  have hq:=zQr l[i+1] l[i];rw[Nat.mul_one] at a1 a2;cases hb:(yn l[i+1] l[i]==0) with
  |false=>
   rw[hb] at hq;replace hq:=hq.symm;have hn:∀j (h:j+1<l.length),j+1<i+2→(yn l[j+1] l[j]==0)=false:=fun j h1 h2=>by
    by_cases e:j=i
    ·subst e;exact hb
    ·exact hj j h1 (by omega)
   clear hj hdone hsame q1 h0 hb
   repeat' first|simp only[go_sem,zFE, *]|apply bc<;>intro hc
   refine zQ (by kernel_rfl) ?_
   repeat' first|simp only[go_sem,zFE, *]|apply bc<;>intro hc
   exact⟨by omega,hlt,hn⟩
  |true=>
   rw[hb] at hq;replace hq:=hq.symm;have hcs:yt yn l (i+2)=l.take (i+1):=by
    rw[zAQ hlt,if_pos hb,hsame (i+1) (by omega) fun j h1 h2=>hj j h1 h2]
   have hsl:=zAB (P:=Tryz.prog) (t:=31) (sz:=1) (id:=id) (h:=h) zOG yH wI (k:= .i64) hile;rw[Nat.mul_one] at hsl;clear hj hdone hsame q1 h0 hb
   repeat' first|simp only[go_sem,zFE, *]|apply bc<;>intro hc
   refine zQ (by kernel_rfl) ?_
   repeat' first|simp only[go_sem,zFE, *]|apply bc<;>intro hc
   refine yC (fun m fr h'=>fr 0= .rs id 1 0 l.length∧fr 4= .rs id 1 (i+1) (l.length- (i+1))∧fr 5= .int .i64 ((m+1:Nat):Int)∧i+1+(m+1)≤l.length∧∃ys:List Int,ys.length=l.length∧h'=h.set id (.row (ys.map (D.int .i64)))∧
    (yt yn l (i+2+m)).length≤i+1+m∧fr 3= .int .i64 (((yt yn l (i+2+m)).length:Nat):Int)∧ys.take (yt yn l (i+2+m)).length=yt yn l (i+2+m)∧ys.drop (i+1+m)=l.drop (i+1+m)) l.length ?_ ?_
   ·have hc1:(yt yn l (i+2)).length=i+1:=by rw[hcs,List.length_take];omega
    have hc2:yt yn l (i+2+0)=yt yn l (i+2):=rfl;have hres:i+1+(0+1)≤l.length∧∃ys:List Int,ys.length=l.length∧h=h.set id (.row (ys.map (D.int .i64)))∧
     (yt yn l (i+2+0)).length≤i+1+0∧D.int .i64 ((i+1:Nat):Int)= .int .i64 (((yt yn l (i+2+0)).length:Nat):Int)∧ys.take (yt yn l (i+2+0)).length=yt yn l (i+2+0)∧ys.drop (i+1+0)=l.drop (i+1+0):=
     ⟨by omega,l,rfl,(zBv hrow).symm,by rw[hc2,hc1];omega,by rw[hc2,hc1],by rw[hc2,hc1,hcs],rfl⟩
    clear hc1 hc2 hcs;simp only[go_sem,zFE,true_and,and_true,Int.ofNat_zero];obtain⟨r0,ys,r1,r2,r3,r4,r5,r6⟩:=hres;exact⟨f0,rfl,r0,ys,r1,r2,r3,f3.trans r4,r5,r6⟩
   clear hcs hsl hq p1 p2 a1 a2 f0 f3 e1 ew ew2;rintro m fr2 h2 hm ⟨f0,f4,f5,hml,ys,hyl,rfl,hcl,f3,hyt,hyd⟩;have hrow2:(h.set id (.row (ys.map (D.int .i64)))).at' id=some (.row (ys.map (D.int .i64))):=zC _ _ _;have hlen2:=fun(H:Heap)=>zCb (P:=Tryz.prog) (t:=31) (sz:=1) (id:=id) (off:=i+1) (len:=l.length- (i+1)) (h:=H) Tryz.underlying31;by_cases hlt2:m+1<l.length- (i+1)
   ·have e1:decide (((m+1:Nat):Int)<((l.length- (i+1):Nat):Int))=true:=decide_eq_true (by omega);have ew:IntKind.i64.wrap (((m+1:Nat):Int)+1)=((m+2:Nat):Int):=ze (by unfold lim;omega);have ew2:IntKind.i64.wrap (((m+1:Nat):Int)-1)=((m:Nat):Int):=by rw[zX (by omega) (by omega)];omega
    have a1:=wB (P:=Tryz.prog) (sz:=1) (id:=id) (off:=i+1) yH wI (k:= .i64) hlt2;have a2:=wB (P:=Tryz.prog) (sz:=1) (id:=id) (off:=i+1) yH wI (k:= .i64) (show m<l.length- (i+1) by omega);obtain⟨x,hx⟩:∃x,l[i+1+m+1]? =some x:=⟨_,List.getElem?_eq_getElem (by omega)⟩;obtain⟨y,hy⟩:∃y,l[i+1+m]? =some y:=⟨_,List.getElem?_eq_getElem (by omega)⟩;have g1:ys[i+1+(m+1)]? =some x:=by
     have:=congrArg (fun z=>z[1]?) hyd;simp only[List.getElem?_drop] at this;rw[show i+1+(m+1)=i+1+m+1 by omega,this,hx]
    have g2:ys[i+1+m]? =some y:=by
     have:=congrArg (fun z=>z[0]?) hyd;simp only[List.getElem?_drop,Nat.add_zero] at this;rw[this,hy]
    rw[Nat.mul_one] at a1 a2;have p1:(ys.map (D.int .i64))[i+1+(m+1)]? =some (.int .i64 x):=by rw[List.getElem?_map,g1];rfl
    have p2:(ys.map (D.int .i64))[i+1+m]? =some (.int .i64 y):=by rw[List.getElem?_map,g2];rfl
    have hsx:yt yn l (i+2+(m+1))=if(yn x y==0)=true then yt yn l (i+2+m) else yt yn l (i+2+m)++ [x]:=by
     have:=zOt (c:=yn) hx hy;rw[show i+2+(m+1)=i+1+m+2 by omega,this,show i+2+m=i+1+m+1 by omega]
    have hyd2:∀zs:List Int,zs.drop (i+1+m)=l.drop (i+1+m)→zs.drop (i+1+(m+1))=l.drop (i+1+(m+1)):=fun zs e=>by
     have:=congrArg (List.drop 1) e;simpa [List.drop_drop,Nat.add_assoc] using this
    generalize hR:yt yn l (i+2+m)=R at *
    have hqn:=(zQr x y).symm;cases hb:(yn x y==0) with
    |true=>
     rw[hb] at hqn;rw[if_pos hb] at hsx;have hres:m<l.length∧i+1+(m+1+1)≤l.length∧∃zs:List Int,zs.length=l.length∧h.set id (.row (ys.map (D.int .i64)))=h.set id (.row (zs.map (D.int .i64)))∧
      (yt yn l (i+2+(m+1))).length≤i+1+(m+1)∧D.int .i64 ((R.length:Nat):Int)= .int .i64 (((yt yn l (i+2+(m+1))).length:Nat):Int)∧zs.take (yt yn l (i+2+(m+1))).length=yt yn l (i+2+(m+1))∧zs.drop (i+1+(m+1))=l.drop (i+1+(m+1)):=
      ⟨by omega,by omega,ys,hyl,rfl,by rw[hsx];omega,by rw[hsx],by rw[hsx];exact hyt,hyd2 _ hyd⟩
     clear hyt hyd hyd2 hsx g1 g2 hx hy hR hcl hb
     repeat' first|simp only[go_sem,zFE, *]|apply bc<;>intro hc
     refine zQ (by kernel_rfl) ?_
     repeat' first|simp only[go_sem,zFE, *]|apply bc<;>intro hc
    |false=>
     rw[hb] at hqn;rw[if_neg (by rw[hb];exact Bool.false_ne_true)] at hsx;have hRl:R.length<l.length:=by omega
     have a3:=z6 (P:=Tryz.prog) (sz:=1) (id:=id) yH wI (k:= .i64) hRl;rw[Nat.mul_one] at a3;have hst:zV Tryz.prog 3 (.ptr id R.length) (.int .i64 x) (h.set id (.row (ys.map (D.int .i64))))=some (h.set id (.row ((ys.set R.length x).map (D.int .i64)))):=by
      rw[zZ hrow2 wI (by rw[List.length_map,hyl];exact hRl) rfl rfl,zEa,List.map_set]
     have ew3:IntKind.i64.wrap (((R.length:Nat):Int)+1)=((R.length+1:Nat):Int):=ze (by unfold lim;omega);have hres:m<l.length∧i+1+(m+1+1)≤l.length∧∃zs:List Int,zs.length=l.length∧h.set id (.row ((ys.set R.length x).map (D.int .i64)))=h.set id (.row (zs.map (D.int .i64)))∧
      (yt yn l (i+2+(m+1))).length≤i+1+(m+1)∧D.int .i64 ((R.length+1:Nat):Int)= .int .i64 (((yt yn l (i+2+(m+1))).length:Nat):Int)∧zs.take (yt yn l (i+2+(m+1))).length=yt yn l (i+2+(m+1))∧zs.drop (i+1+(m+1))=l.drop (i+1+(m+1)):=by
      have hRn:(R++ [x]).length=R.length+1:=by simp
      refine⟨by omega,by omega,ys.set R.length x,by simpa using hyl,rfl,by rw[hsx,hRn];omega,by rw[hsx,hRn],?_,?_⟩
      ·rw[hsx,hRn,List.take_succ_eq_append_getElem (by rw[List.length_set];omega),List.getElem_set_self,List.take_set_of_le (Nat.le_refl _),hyt]
      ·rw[List.drop_set_of_lt (by omega)];exact hyd2 _ hyd
     clear hyt hyd hyd2 hsx g1 g2 hx hy hR hcl hb
     repeat' first|simp only[go_sem,zFE, *]|apply bc<;>intro hc
     refine zQ (by kernel_rfl) ?_
     repeat' first|simp only[go_sem,zFE, *]|apply bc<;>intro hc
   ·have e1:decide (((m+1:Nat):Int)<((l.length- (i+1):Nat):Int))=false:=decide_eq_false (by omega);have hme:i+2+m=l.length:=by omega
    have hce:yt yn l (i+2+m)=cpt yn l:=by rw[hme];rfl
    rw[hce] at hyt f3 hcl;have hcle:(cpt yn l).length≤l.length:=zBw _;have hsl:∀H:Heap,ye Tryz.prog 31 (.rs id 1 0 l.length) (some (.int .i64 (((cpt yn l).length:Nat):Int))) none none H=some (.rs id 1 (cpt yn l).length (l.length- (cpt yn l).length)):=fun H=>by
     have:=zAB (P:=Tryz.prog) (t:=31) (sz:=1) (id:=id) (h:=H) zOG yH wI (k:= .i64) hcle;rw[Nat.mul_one] at this;exact this
    have hsh:=fun(H:Heap)=>zAs (P:=Tryz.prog) (t:=31) (h:=H) zOG yH (id:=id) (sz:=1) wI (k:= .i64) hcle;obtain⟨rest,hclr⟩:=zIX (P:=Tryz.prog) (sz:=1) (t:=31) (xs:=qp ys) yH zAK rfl rfl (by rw[zFe];exact hrow2) zIq (n:=(cpt yn l).length) (by rw[yg];omega);have htk:((qp ys).take (cpt yn l).length).flatten=(cpt yn l).map (D.int .i64):=by rw[qp,←List.map_take,hyt];exact zFe _
    rw[htk,zEa,yg,hyl,Nat.mul_one] at hclr;have hfin:=hQ (.rs id 1 0 (cpt yn l).length) (h.set id (.row ((cpt yn l).map (D.int .i64)++rest))) ⟨rfl,rest,rfl⟩;clear hyt hyd hme hce htk hQ
    repeat' first|simp only[go_sem,zFE, *]|apply bc<;>intro hc
 ·have e1:decide (((i+1:Nat):Int)<(l.length:Int))=false:=decide_eq_false (by omega);have hd:=hdone fun j h1 h2=>hj j h1 (by omega);clear hj hdone hsame q1 h0 hQ
  repeat' first|simp only[go_sem,zFE, *]|apply bc<;>intro hc
theorem zbJ (l:List Int):(l.mergeSort fun x y=>decide (x≤y))=srt yn l:=by
 unfold srt;congr 1
 funext a b
 unfold yn;by_cases h:a≤b
 ·rw[decide_eq_true h];have h1:¬b<a:=by omega
  rw[if_neg h1];split<;>simp
 ·rw[decide_eq_false h];have h1:b<a:=by omega
  rw[if_pos h1];rfl
def zC5 (l:List Int):List Int:=cpt yn (srt yn l)
theorem zXY {l:List Int} (h0:l≠[]) (hl:l.length≤1048576) (tk:Tk) (h:Heap):zA Tryz.prog 109 [.sl 1 (qp l) tk] h fun r h'=>r= .rs h.next 1 0 l.length∧h'=h.new h.next (.row (l.map (D.int .i64))):=by
 have hpos:0<l.length:=List.length_pos_iff.2 h0;have hn:zDz Tryz.prog .eql 31 true (.sl 1 (qp l) tk) .nilsl=some (.bool false):=by rw[zBe (zb.mk tk) Tryz.underlying31];rfl
 have hz:=fun nid h=>wp (P:=Tryz.prog) (nid:=nid) (h:=h) yH zAK wI rfl rfl (by omega:0<1);have hap:yD Tryz.prog true h.next 31 (.sl 1 [] .full) (.sl 1 (qp l) tk) h=some (.rs h.next 1 0 l.length,h.new h.next (.row (l.map (D.int .i64)))):=by
  rw[zFL yH zPc wI (by omega) zIq (by rw[zFA,yg];unfold lim;omega) (by rw[yg];unfold lim;omega),yg,if_neg (by omega),zRU Tryz.underlying3,zFe]
 refine zA.of_fn (g:=zP9) mix Tryz.func109 zeR rfl rfl ?_;simp only[Tryz.f109,gJ];simp only[qt,go_sem,zic,hn,hz,hap]
theorem zbK {l:List Int} {id:Nat} {g:Heap} (h0:l≠[]) (hl:l.length≤1048576) (hrow:g.at' id=some (.row (l.map (D.int .i64)))):
  zA Tryz.prog 110 [.rs id 1 0 l.length] g fun r h'=>r= .tuple []∧h'=g.set id (.row ((srt yn l).map (D.int .i64))):=by
 have:=zA.of_sortI (P:=Tryz.prog) (f:=110) h0 (by kernel_rfl) hrow (by omega) (fun blk off cap zs w h1 h2 h3=>Tryz.slices_Sort_int blk off cap zs w h1 h2 h3);rw[zbJ] at this;exact this
theorem zO6 {l:List Int} {id:Nat} {g:Heap} (h0:l≠[]) (hl:l.length≤1048576) (hrow:g.at' id=some (.row (l.map (D.int .i64)))):
  zA Tryz.prog 111 [.rs id 1 0 l.length] g fun r h'=>h'=g.del id∧r= .sl 1 (qp (cpt yn l)) .no:=
 zA.freezeD ((zRz h0 hl hrow).mono (by
  rintro r h' ⟨rfl,rest,rfl⟩;exact⟨id,_,zC _ _ _,by rw[zOu],zLO zIq (yg _) (by rw[zFe])⟩))
def zJI (num:Int) (ks:List Int):List D:=[.int .i64 num, .sl 1 (qp (zC5 ks)) .no]
theorem zQs (num:Int) (ks:List (List Int)):∀c∈ks.map (zJI num),c.length=2:=fun c hc=>by
 obtain⟨k,_,rfl⟩:=List.mem_map.1 hc;rfl
def zVg (h:Heap) (sz:Nat) (xs:List (List D)) (d:D):Prop:=(d= .nilsl∧xs= [])∨∃id,d= .rs id sz 0 xs.length∧h.at' id=some (.row xs.flatten)∧id<h.next∧xs≠[]
def zJJ (d:D) (i:Nat):Prop:=match d with
 | .rs id _ _ _=>i=id
 |_=>False
theorem zVg.loc {h h':Heap} {sz:Nat} {xs:List (List D)} {d:D} (ho:zVg h sz xs d) (hn:h.next≤h'.next) (hk:∀i,zJJ d i→h'.at' i=h.at' i):zVg h' sz xs d:=by
 rcases ho with h1| ⟨t,rfl,h1,h2⟩
 ·exact .inl h1
 ·exact .inr ⟨t,rfl,by rw[hk t rfl];exact h1,by omega,h2.2⟩
theorem zVg.app {P:Program} {h:Heap} {sz nid:Nat} {xs ys:List (List D)} {d:D} {tk:Tk} {t e:TypeId} (ho:zVg h sz xs d) (he:qK P t=some e) (hz:zGn P e=true) (hs:szT P e=sz) (h0:0<sz) (hr:∀cs,zA1 P e cs= .row cs) (hxs:∀y∈xs,y.length=sz) (hys:∀y∈ys,y.length=sz) (hy0:ys≠[])
  (hb:(xs.length+ys.length)*yR P e≤lim) (hl:xs.length+ys.length≤lim):∃g:Heap,yD P true nid t d (.sl sz ys tk) h=some (.rs nid sz 0 (xs++ys).length,g.new nid (.row (xs++ys).flatten))∧g.next=h.next∧(∀i,¬zJJ d i→g.at' i=h.at' i):=by
 have hfl:ys.flatten.length=ys.length*sz:=qD hys;have hlen:0<ys.length:=List.length_pos_iff.2 hy0;simp only[yD,he,hz,hs,zSK,if_true,hfl,Nat.mul_div_cancel _ h0];rcases ho with⟨rfl,rfl⟩ | ⟨id,rfl,h1,h2⟩
 ·refine⟨h,?_,rfl,fun _ _=>rfl⟩;simp only[qV];rw[if_neg (by omega),if_pos (by simp only[Bool.and_eq_true,decide_eq_true_eq];simp only[List.length_nil,Nat.zero_add] at hb hl;exact⟨hb,hl⟩)];simp[hr]
 ·refine⟨h.del id,?_,rfl,fun i hi=>yz fun e=>hi (by rw[e];rfl)⟩;have hf2:xs.flatten.length=xs.length*sz:=qD hxs;simp only[qV,Bool.true_and,decide_true];rw[if_pos (by simp only[Bool.and_eq_true,decide_eq_true_eq];exact⟨hb,hl⟩)];simp only[h1,hf2,if_true];simp
theorem zVg.trunc {h:Heap} {sz:Nat} {xs:List (List D)} {d:D} (ho:zVg h sz xs d) (hx:∀x∈xs,x.length=sz) (x:D):qt d x h=h:=by
 rcases ho with⟨rfl,_⟩ | ⟨id,rfl,hr,_⟩
 ·rfl
 ·have hf:xs.flatten.length=xs.length*sz:=qD hx;cases x<;>simp[qt,hr,hf]
def YVf (num:Int) (fn:D) (nl nr:Nat) (ks:List (List Int)) (S:Nat→Prop) (h:Heap):Prop:=
 nl<h.next∧nr<h.next∧nl≠nr∧h.at' nr=some (.row [.int .i64 num,fn])∧∃d,h.at' nl=some (.row [d])∧zVg h 2 (ks.map (zJI num)) d∧¬zJJ d nl∧¬zJJ d nr∧∀i,S i↔(i=nl∨i=nr∨zJJ d i)
set_option maxHeartbeats 2000000 in
theorem zbL {num:Int} {fn:D} {nl nr:Nat} {ks:List (List Int)} (hks:ks.length<16777216) {S:Nat→Prop} {h:Heap} (hY:YVf num fn nl nr ks S h) {l:List Int} (l0:l≠[]) (hl:l.length≤5) (tk:Tk):
  zA Tryz.prog 108 [.sl 1 (qp l) tk, .ptr nl 0, .ptr nr 0] h fun _ h'=>∃S',(∀i,S' i→S i∨h.next≤i)∧But S h h'∧YVf num fn nl nr (ks++ [l]) S' h':=by
 obtain⟨y1,y2,y3,y4,d,y5,y6,y7,y8,y9⟩:=hY;have hcl:=zXY l0 (by omega) tk h;have hso:=zbK l0 (by omega) (zM h h.next (.row (l.map (D.int .i64))));have s0:srt yn l≠[]:=fun e=>l0 (List.length_eq_zero_iff.1 (by rw[←(qY (c:=yn) l).length_eq,e];rfl));have sl:(srt yn l).length=l.length:=(qY l).length_eq;have hco:=zO6 s0 (by omega) (zC (h.new h.next (.row (l.map (D.int .i64)))) h.next (.row ((srt yn l).map (D.int .i64))));rw[sl] at hco;refine zA.of_fn (g:=zP0) mix Tryz.func108 zeC rfl rfl ?_;simp only[Tryz.f108,gJ]
 repeat' first|simp only[go_sem,zWZ, *]|apply bc<;>intro hc
 refine hcl.mono ?_;rintro r h1 ⟨rfl,rfl⟩
 repeat' first|simp only[go_sem,zWZ, *]|apply bc<;>intro hc
 refine hso.mono ?_;rintro r h1 ⟨rfl,rfl⟩;obtain⟨h0,e1,e2,e3⟩:∃h0:Heap,h0.at' nl=some (.row [d])∧h0.at' nr=some (.row [.int .i64 num,fn])∧∀i ob,h0.at' i=some ob→(i=nl∨i=nr)∧h.at' i=some ob:=by
  refine⟨⟨h.next,fun i=>if i=nl∨i=nr then h.at' i else none⟩,by simp[y5],by simp[y4],fun i ob e=> ?_⟩
  simp only at e;split at e
  ·exact⟨‹_›,e⟩
  ·cases e
 obtain⟨H1,hH1,hle1⟩:∃H1,(h.new h.next (.row (l.map (D.int .i64)))).set h.next (.row ((srt yn l).map (D.int .i64)))=H1∧HLe h0 H1:=⟨_,rfl,fun i ob e=>by
  obtain⟨g1,g2⟩:=e3 i ob e;have hne:i≠h.next:=by rcases g1 with rfl|rfl<;>omega
  rw[zH hne,zD hne];exact g2⟩
 have hnx:(H1.del h.next).next=h.next+1:=by rw[←hH1];exact zF h (.row (l.map (D.int .i64)))
 have hke:∀i,i≠h.next→(H1.del h.next).at' i=h.at' i:=fun i hi=>by rw[←hH1,yz hi,zH hi,zD hi]
 have hle2:HLe h0 (H1.del h.next):=fun i ob e=>by
  obtain⟨g1,g2⟩:=e3 i ob e;rw[hke _ (by rcases g1 with rfl|rfl<;>omega)];exact g2
 rw[hH1] at hco⊢;clear hcl hso hH1;have hb:yN Tryz.prog 33 [(0, .int .i64 num),(1, .sl 1 (qp (zC5 l)) .no)]=some (.agg (zJI num l)):=by
  simp[yN,zJk,zHD,qi,yc,zJI,D.cells,D.notTuple]
 have hbs:∀nid H,zK Tryz.prog false nid 45 1 [(0, .agg (zJI num l))] H=some (.sl 2 [zJI num l] .full,H):=fun nid H=>yQ (x:= .agg (zJI num l)) wX zHD zBt rfl rfl (by omega) (by omega) rfl rfl;refine z7 h0 [(0, .st,true),(1, .no,true),(2, .st,true),(3, .no,true),(4, .no,true),(5, .no,true),(6, .no,true),(7, .no,false),(8, .no,false)] (by kernel_rfl) (by kernel_rfl) hle1 ?_;simp only[go_sem,zWZ,e1,e2,eq_true hle1];refine hco.mono ?_;rintro r h2 ⟨rfl,rfl⟩;generalize H1.del h.next=h2 at hnx hke hle2⊢;have y6':zVg h2 2 (ks.map (zJI num)) d:=y6.loc (by omega) fun i hi=>by
  refine hke i ?_;rcases y6 with⟨rfl,_⟩ | ⟨id,rfl,_,hid,_⟩
  ·exact hi.elim
  ·simp only[zJJ] at hi;omega
 have hkl:(ks.map (zJI num)).length=ks.length:=List.length_map ..;obtain⟨g,hg1,hg2,hg3⟩:=zVg.app (nid:=h2.next) (tk:= .full) y6' wX zS0 zBt (by omega) (fun cs=>zBE Tryz.underlying33) (zQs num ks) (ys:=[zJI num l]) (by simp[zJI]) (by simp) (by rw[hkl,zMR];unfold lim;simp;omega) (by rw[hkl];unfold lim;simp;omega);have hmp:ks.map (zJI num)++ [zJI num l]=(ks++ [l]).map (zJI num):=by simp
 rw[hmp] at hg1;have hnl:(g.new h2.next (.row ((ks++ [l]).map (zJI num)).flatten)).at' nl=some (.row [d]):=by rw[zD (by omega),hg3 _ y7,hke _ (by omega),y5]
 have hstr:zV Tryz.prog 45 (.ptr nl 0) (.rs h2.next 2 0 ((ks++ [l]).map (zJI num)).length) (g.new h2.next (.row ((ks++ [l]).map (zJI num)).flatten))=some ((g.new h2.next (.row ((ks++ [l]).map (zJI num)).flatten)).set nl (.row [.rs h2.next 2 0 ((ks++ [l]).map (zJI num)).length])):=by
  rw[zZ hnl zX2 (by simp) rfl rfl];rfl
 have hgn:(g.new h2.next (.row ((ks++ [l]).map (zJI num)).flatten)).next=h.next+2:=by simp only[Heap.new];omega
 have htr:=y6'.trunc (zQs num ks);have hnorm:cpt yn (srt yn l)=zC5 l:=rfl;simp only[go_sem,zWZ,hnorm,hb,hbs,htr,hg1,hstr,eq_true hle2];refine⟨fun i=>i=nl∨i=nr∨i=h2.next,fun i hi=> ?_,⟨by simp only[zy];omega,fun i hi hn=> ?_⟩,by simp only[zy];omega,by simp only[zy];omega,y3,?_,_,zC _ _ _, .inr ⟨h2.next,rfl,?_,?_,by simp⟩,?_,?_,fun i=>Iff.rfl⟩
 ·rcases hi with rfl|rfl|rfl
  ·exact .inl (.inl rfl)
  ·exact .inl (.inr (.inl rfl))
  ·exact .inr (by omega)
 ·have n1:i≠nl:=fun e=>hn ((y9 i).2 (.inl e));have n2:¬zJJ d i:=fun e=>hn ((y9 i).2 (.inr (.inr e)));rw[zH n1,zD (by omega),hg3 _ n2,hke _ (by omega)]
 ·rw[zH (Ne.symm y3),zD (by omega),hg3 _ y8,hke _ (by omega),y4]
 ·rw[zH (by omega),zM]
 ·simp only[zy];omega
 ·simp only[zJJ];omega
 ·simp only[zJJ];omega
theorem zXZ {num:Int} {fn:D} {nl nr:Nat} :Fnd2 Tryz.prog 5 108 [.ptr nl 0, .ptr nr 0] (YVf num fn nl nr):=by
 refine⟨fun ks S h hy i hi=> ?_,fun ks S h h' hy hn hk=> ?_,fun ks S h l tk hy hl h0 h8 hft=> ?_⟩
 ·obtain⟨y1,y2,y3,y4,d,y5,y6,y7,y8,y9⟩:=hy;rcases(y9 i).1 hi with rfl|rfl|hi
  ·exact y1
  ·exact y2
  ·rcases y6 with⟨rfl,_⟩ | ⟨id,rfl,_,hid,_⟩
   ·exact hi.elim
   ·simp only[zJJ] at hi;omega
 ·obtain⟨y1,y2,y3,y4,d,y5,y6,y7,y8,y9⟩:=hy;exact⟨by omega,by omega,y3,by rw[hk nr ((y9 _).2 (.inr (.inl rfl)))];exact y4,d,by rw[hk nl ((y9 _).2 (.inl rfl))];exact y5,y6.loc hn fun i hi=>hk i ((y9 i).2 (.inr (.inr hi))),y7,y8,y9⟩
 ·exact zbL hl hy (List.length_pos_iff.1 h0) h8 tk
open Go.Proofs Go.Shelf Go.Sort
theorem zfn {l m:List Int} {d e:D} (hd:zb 1 (qp l) d) (he:zb 1 (qp m) e) (hl:l.length≤1048576) (g:Heap):zA Tryz.prog 114 [d,e] g fun r h'=>h'=g∧r= .int .i64 (qv l m):=by
 have hll:=zAO hd;have hml:=zAO he;obtain⟨q1,q2,_⟩:=zN hd;obtain⟨q3,q4,_⟩:=zN he;refine zA.of_fn (g:=zP1) mix Tryz.func114 zeD rfl rfl ?_;simp only[Tryz.f114,gJ]
 repeat' first|simp only[go_sem,zOR, *]|apply bc<;>intro hc
 refine yC (fun i fr h'=>fr 0=d∧fr 1=e∧fr 9=d∧fr 10= .int .i64 l.length∧fr 11= .int .i64 (i:Int)∧h'=g∧i≤m.length∧qv (l.drop i) (m.drop i)=qv l m) l.length ?_ ?_
 ·simp only[go_sem,zOR,true_and,and_true,Int.ofNat_zero];exact⟨Nat.zero_le _,rfl⟩
 rintro i fr h' hi ⟨f0,f1,f9,f10,f11,rfl,him,ho⟩;by_cases hlt:i<l.length
 ·have e1:decide ((i:Int)<(l.length:Int))=true:=decide_eq_true (by omega);have a1:=zCg hd hlt;by_cases hge:i≥m.length
  ·have e2:decide ((i:Int)≥(m.length:Int))=true:=decide_eq_true (by omega);have hr:qv l m=1:=by
    rw[List.drop_eq_getElem_cons hlt,List.drop_eq_nil_of_le hge] at ho;rw[←ho];rfl
   rw[hr];clear ho hr him hge
   repeat' first|simp only[go_sem,zOR, *]|apply bc<;>intro hc
  ·have e2:decide ((i:Int)≥(m.length:Int))=false:=decide_eq_false (by omega);have hmlt:i<m.length:=by omega
   have a2:=zCg he hmlt;rw[zUQ hlt hmlt] at ho;simp only[List.getD_eq_getElem?_getD,List.getElem?_eq_getElem hlt,List.getElem?_eq_getElem hmlt,Option.getD_some] at ho;have hc:=zIM l[i] m[i] h';have ew:IntKind.i64.wrap ((i:Int)+1)=((i+1:Nat):Int):=ze (by unfold lim;omega);generalize hz:yn l[i] m[i]=z at *
   cases hb:(z==0) with
   |true=>
    have h0:z=0:=by simpa using hb
    rw[if_pos h0] at ho;have hfin:i<l.length∧i+1≤m.length∧qv (l.drop (i+1)) (m.drop (i+1))=qv l m:=⟨hlt,hmlt,ho⟩;clear ho him hge hz h0
    repeat' first|simp only[go_sem,zOR, *]|apply bc<;>intro hc|(refine zA.mono hc ?_;rintro r h ⟨hq,rfl⟩)
   |false=>
    have h0:¬z=0:=by simpa using hb
    rw[if_neg h0] at ho;rw[←ho];clear ho him hge hz h0
    repeat' first|simp only[go_sem,zOR, *]|apply bc<;>intro hc|(refine zA.mono hc ?_;rintro r h ⟨rfl,rfl⟩)
 ·have e1:decide ((i:Int)<(l.length:Int))=false:=decide_eq_false (by omega);have hie:l.length≤i:=by omega
  rw[List.drop_eq_nil_of_le hie] at ho;cases hlm:decide ((l.length:Int)<(m.length:Int)) with
  |true=>
   have hlm':=of_decide_eq_true hlm;have hr:qv l m= -1:=by
    rw[List.drop_eq_getElem_cons (show i<m.length by omega)] at ho;rw[←ho];rfl
   rw[hr];clear ho hr him hie
   repeat' first|simp only[go_sem,zOR, *]|apply bc<;>intro hc
  |false=>
   have hlm':=of_decide_eq_false hlm;have hr:qv l m=0:=by
    rw[List.drop_eq_nil_of_le (by omega)] at ho;rw[←ho];rfl
   rw[hr];clear ho hr him hie
   repeat' first|simp only[go_sem,zOR, *]|apply bc<;>intro hc
structure Vio where
 row:Int
 facts:List Int
def Vio.Is (v:Vio) (cs:List D):Prop:=∃d,cs= [.int .i64 v.row,d]∧zb 1 (qp v.facts) d∧v.facts.length≤1048576
def zNW (v w:Vio):Int:=orL [yn v.row w.row,qv v.facts w.facts]
theorem zNX {v w:Vio} {cv cw:List D} (hv:v.Is cv) (hw:w.Is cw) (g:Heap):zA Tryz.prog 76 [.agg cv, .agg cw] g fun r h'=>h'=g∧r= .int .i64 (zNW v w):=by
 obtain⟨d,rfl,hd,hdl⟩:=hv;obtain⟨e,rfl,he,hel⟩:=hw;have h1:=zIM v.row w.row;have h2:=zfn hd he hdl;have h3:=zfK (l:=[yn v.row w.row,qv v.facts w.facts]) (zb.mk .full) (by simp);have hb:=bs2 (yn v.row w.row) (qv v.facts w.facts);obtain⟨q1,q2,_⟩:=zN hd;obtain⟨q3,q4,_⟩:=zN he;have hle:∀h:Heap,HLe h h:=fun _ _ _ e=>e;unfold zNW;refine zA.of_fn (g:=zWI) mix Tryz.func76 zkF rfl rfl ?_;simp only[Tryz.f76,gJ]
 repeat' first|simp only[go_sem,zkE, *]|apply bc<;>intro hc
 refine z7 g [(0, .no,true),(1, .no,true),(2, .no,true),(3, .no,true),(5, .no,true),(6, .st,true),(7, .no,true),(8, .st,true),(4, .no,true),(9, .no,true),(10, .no,true),(11, .no,true),(12, .no,true)] (by kernel_rfl) (by kernel_rfl) (fun _ _ e=>e) ?_
 repeat' first|simp only[go_sem,zkE, *]|apply bc<;>intro hc|(refine zA.mono (h1 _) ?_;rintro r h ⟨rfl,rfl⟩)|(refine zA.mono (h2 _) ?_;rintro r h ⟨rfl,rfl⟩)|(refine zA.mono (h3 _) ?_;rintro r h ⟨rfl,rfl⟩)
theorem Vio.Is.two {v:Vio} {cv:List D} (hv:v.Is cv):zS true 2 cv 0=some (.agg cv):=by
 obtain⟨d,rfl,_⟩:=hv;exact zB rfl (by omega)
theorem zVE {v w:Vio} {cv cw:List D} (hv:v.Is cv) (hw:w.Is cw) (g:Heap):zA Tryz.prog 45 [.agg cv, .agg cw] g fun r h'=>h'=g∧r= .bool (zNW v w==0):=by
 have hc:=zNX hv hw;have h1:=Vio.Is.two hv;have h2:=Vio.Is.two hw;refine zA.of_fn (g:=zWA) mix Tryz.func45 zj5 rfl rfl ?_;simp only[Tryz.f45,gJ]
 repeat' first|simp only[go_sem,zk8, *]|apply bc<;>intro hc|(refine zA.mono (hc _) ?_;rintro r h ⟨rfl,rfl⟩)
theorem zCu:∀a b:List Int,qv a b=zGk yn a b
 | [],[]=>rfl
 | [],_::_=>rfl
 |_::_,[]=>rfl
 |x::xs,y::ys=>by
  simp only[qv,zGk,zM8,zCu xs ys]
theorem zO7:QC qv:=by
 have:=zCp.list;exact⟨fun x y=>by rw[zCu,zCu];exact this.anti x y,fun x y z=>by rw[zCu,zCu,zCu];exact this.trans x y z⟩
theorem zO8 (x y:List Int) (h:qv x y=0):x=y:=by
 rw[zCu] at h;exact zLL zOw _ _ h
def zSJ (num:Int) (x:List Int):List D:=[.int .i64 num, .sl 1 (qp x) .no]
def vbs (num:Int) (l:List (List Int)):List (List D):=l.map (zSJ num)
theorem zAF (num:Int) (l:List (List Int)):(vbs num l).length=l.length:=List.length_map ..
theorem zDh (num:Int) (l:List (List Int)):∀x∈vbs num l,x.length=2:=fun x hx=>by
 obtain⟨y,_,rfl⟩:=List.mem_map.1 hx;rfl
theorem zLe (num:Int) {x:List Int} (h:x.length≤1048576):(Vio.mk num x).Is (zSJ num x):=⟨_,rfl,zb.mk .no,h⟩
theorem zNY (num:Int) (x y:List Int):zNW ⟨num,x⟩ ⟨num,y⟩ =qv x y:=by
 have h:yn num num=0:=zCp.refl num;simp only[zNW,orL,h,if_true];split
 ·rename_i q;exact q.symm
 ·rfl
theorem zbM {num:Int} {l:List (List Int)} {id:Nat} {g:Heap} (h0:l≠[]) (hl:l.length≤16777216) (hle:∀x∈l,x.length≤1048576) (hrow:g.at' id=some (.row (vbs num l).flatten)):
  zA Tryz.prog 112 [.rs id 2 0 l.length, .fn (.func 76) [] []] g fun r h'=>r= .tuple []∧h'=g.set id (.row (vbs num (srt qv l)).flatten):=by
 have:=zA.of_sortK (P:=Tryz.prog) (f:=112) (cmp:=76) (k:=2) (cells:=zSJ num) (xs:=l) (id:=id) (pre:=[]) (post:=[]) (h:=g) (cf:=qv) (mid:=[]) (midV:=[]) (fun M ρ vs h=>by simpa [z8] using h) h0 (by omega) (fun x hx=>rfl) (by kernel_rfl) (enters_of Tryz.func76 (by kernel_rfl) rfl) (by simpa [vbs] using hrow) zO7.swo (by omega)
  (fun x hx y hy H=>by have:=zNX (zLe num (hle x hx)) (zLe num (hle y hy)) H;rw[zNY] at this;exact this) (fun α _ enc h1 h2 cf hO g cb blk off cap d w hg hc hH hb hs hd=>AnyQ.slices_SortFunc Tryz.sortVio 2 (Tryz.isAgg33) (Tryz.sizeOf33) enc h1 h2 cf hO g cb blk off cap d w hg hc hH hb hs)
 refine this.mono fun r h' ⟨e1,ys,hp,hs,e2⟩=>⟨e1,?_⟩;rw[e2,zQe zO7 zO8 hp hs];simp[vbs]
theorem zCv {α:Type} {f:α→List D} {p:α→Prop} :∀ {ys:List (List D)},(∀y∈ys,∃s,y=f s∧p s)→∃l:List α,ys=l.map f∧∀s∈l,p s
 | [],_=>⟨[],rfl,fun n hn=>by cases hn⟩
 |y::ys,h=>by
  obtain⟨n,rfl,hn⟩:=h y (by simp);obtain⟨ks,rfl,hk⟩:=zCv (ys:=ys) fun z hz=>h z (List.mem_cons_of_mem _ hz);exact⟨n::ks,rfl,fun m hm=>by
   rcases List.mem_cons.1 hm with rfl|hm
   ·exact hn
   ·exact hk m hm⟩
theorem zQt {k:Nat} {c:List D} (h:Shp Tryz.prog k 40 c):∃d l,c= [d]∧zb 1 (yK l) d∧l.length≤1048576:=by
 obtain⟨d,xs,j,e,hj,hs,_,hl,hx⟩:=zGd Tryz.underlying40 zBC h;obtain⟨l,rfl,hk⟩:=zCv (f:=fun s:List UInt8=>[D.str s]) fun y hy=>zAg Tryz.underlying9 (hx y hy);rw[List.length_map] at hl;exact⟨d,l,e,hs,hl⟩
theorem zXa {k:Nat} {c:List D} (h:Shp Tryz.prog k 31 c):∃d l,c= [d]∧zb 1 (qp l) d∧l.length≤1048576:=by
 obtain⟨d,xs,j,e,hj,hs,_,hl,hx⟩:=zGd Tryz.underlying31 wI h;obtain⟨l,rfl,hk⟩:=zCv (f:=fun s:Int=>[D.int .i64 s]) fun y hy=>zBf Tryz.underlying3 (hx y hy);rw[List.length_map] at hl;exact⟨d,l,e,hs,hl⟩
theorem zbN {k:Nat} {c:List D} (h:Shp Tryz.prog k 124 c):∃n:Lic,c=n.cells∧n.Sm:=by
 obtain⟨j,_,hf⟩:=zAh Tryz.underlying124 h;obtain⟨c1,r1,rfl,h1,hf⟩:=zj hf;obtain⟨c2,r2,rfl,h2,hf⟩:=zj hf;obtain⟨c3,r3,rfl,h3,hf⟩:=zj hf;obtain⟨c4,r4,rfl,h4,hf⟩:=zj hf;obtain rfl:=zCc hf;obtain⟨s1,rfl,b1⟩:=zAg Tryz.underlying9 h1;obtain⟨s2,rfl,b2⟩:=zAg Tryz.underlying9 h2;obtain⟨s3,rfl,b3⟩:=zBf Tryz.underlying3 h3;obtain⟨s4,rfl,b4⟩:=zAg Tryz.underlying9 h4;exact⟨⟨s1,s2,s3,s4⟩,rfl,b1,b2,b4⟩
theorem zbO {k:Nat} {c:List D} (h:Shp Tryz.prog k 129 c):∃n:Exc,c=n.cells∧n.Ok:=by
 obtain⟨j,_,hf⟩:=zAh Tryz.underlying129 h;obtain⟨c1,r1,rfl,h1,hf⟩:=zj hf;obtain⟨c2,r2,rfl,h2,hf⟩:=zj hf;obtain⟨c3,r3,rfl,h3,hf⟩:=zj hf;obtain rfl:=zCc hf;obtain⟨s1,rfl,b1⟩:=zAg Tryz.underlying9 h1;obtain⟨s2,rfl,b2⟩:=zAg Tryz.underlying9 h2;obtain⟨d,l,rfl,i3,b3⟩:=zXa h3;exact⟨⟨s1,s2,l,d⟩,rfl,i3,b3,b1⟩
theorem zbP {k:Nat} {c:List D} (h:Shp Tryz.prog k 92 c):∃n:Cla,c=n.cells∧n.Ok:=by
 obtain⟨j,_,hf⟩:=zAh Tryz.underlying92 h;obtain⟨c1,r1,rfl,h1,hf⟩:=zj hf;obtain⟨c2,r2,rfl,h2,hf⟩:=zj hf;obtain⟨c3,r3,rfl,h3,hf⟩:=zj hf;obtain⟨c4,r4,rfl,h4,hf⟩:=zj hf;obtain⟨c5,r5,rfl,h5,hf⟩:=zj hf;obtain rfl:=zCc hf;obtain⟨s1,rfl,b1⟩:=zAg Tryz.underlying9 h1;obtain⟨s2,rfl,b2⟩:=zBf Tryz.underlying3 h2;obtain⟨s3,rfl,b3⟩:=zBf Tryz.underlying3 h3;obtain⟨s4,rfl,b4⟩:=zBf Tryz.underlying3 h4;obtain⟨d,l,rfl,i5,b5⟩:=zQt h5;exact⟨⟨s1,s2,s3,s4,l,d⟩,rfl,i5,b5⟩
theorem zbQ {k:Nat} {c:List D} (h:Shp Tryz.prog k 135 c):∃n:Apt,c=n.cells∧True:=by
 obtain⟨j,_,hf⟩:=zAh Tryz.underlying135 h;obtain⟨c1,r1,rfl,h1,hf⟩:=zj hf;obtain⟨c2,r2,rfl,h2,hf⟩:=zj hf;obtain rfl:=zCc hf;obtain⟨s1,rfl,b1⟩:=zAg Tryz.underlying9 h1;obtain⟨s2,rfl,b2⟩:=zAg Tryz.underlying9 h2;exact⟨⟨s1,s2⟩,rfl,trivial⟩
theorem zbR {k:Nat} {c:List D} (h:Shp Tryz.prog k 27 c):∃n:Cat,qg n (.agg c)∧n.Sm:=by
 obtain⟨j,_,hf⟩:=zAh Tryz.underlying27 h;obtain⟨c1,r1,rfl,h1,hf⟩:=zj hf;obtain⟨c2,r2,rfl,h2,hf⟩:=zj hf;obtain⟨c3,r3,rfl,h3,hf⟩:=zj hf;obtain⟨c4,r4,rfl,h4,hf⟩:=zj hf;obtain rfl:=zCc hf;obtain⟨d1,x1,j1,rfl,_,i1,_,b1,h1⟩:=zGd Tryz.underlying22 zCZ h1;obtain⟨d2,x2,j2,rfl,_,i2,_,b2,h2⟩:=zGd Tryz.underlying23 zH1 h2;obtain⟨d3,x3,j3,rfl,_,i3,_,b3,h3⟩:=zGd Tryz.underlying24 zGZ h3;obtain⟨d4,x4,j4,rfl,_,i4,_,b4,h4⟩:=zGd Tryz.underlying25 zKv h4;obtain⟨l1,rfl,k1⟩:=zCv fun y hy=>zbN (h1 y hy);obtain⟨l2,rfl,k2⟩:=zCv fun y hy=>zbO (h2 y hy);obtain⟨l3,rfl,k3⟩:=zCv fun y hy=>zbP (h3 y hy)
 obtain⟨l4,rfl,k4⟩:=zCv fun y hy=>zbQ (h4 y hy);rw[List.length_map] at b1 b2 b3 b4;exact⟨⟨l1,l2,l3,l4⟩,⟨d1,d2,d3,d4,rfl,i1,i2,i3,i4⟩,⟨b1,k1⟩,⟨b2,k2⟩,⟨b3,k3⟩,b4⟩
theorem zY0:∀ {l:List Ex},(∀e∈l,e.Ok)→okL l
 | [],_=>by simp only[okL]
 |e::l,h=>by simp only[okL];exact⟨h e (by simp),zY0 fun x hx=>h x (List.mem_cons_of_mem _ hx)⟩
theorem zfo (k:Nat):∀ {c:List D},Shp Tryz.prog k 85 c→∃e:Ex,c=e.cells∧e.Ok:=by
 induction k using Nat.strongRecOn with
 |_ k ih=>
 intro c h;obtain⟨j,hj,hf⟩:=zAh Tryz.underlying85 h;obtain⟨c1,r1,rfl,h1,hf⟩:=zj hf;obtain⟨c2,r2,rfl,h2,hf⟩:=zj hf;obtain⟨c3,r3,rfl,h3,hf⟩:=zj hf;obtain⟨c4,r4,rfl,h4,hf⟩:=zj hf;obtain rfl:=zCc hf;obtain⟨s1,rfl,b1⟩:=zBf Tryz.underlying3 h1;obtain⟨s2,rfl,b2⟩:=zAg Tryz.underlying9 h2;obtain⟨s3,rfl,b3⟩:=zAg Tryz.underlying9 h3;obtain⟨d4,x4,m,rfl,hm,i4,_,b4,h4⟩:=zGd Tryz.underlying83 zS3 h4;obtain⟨l,rfl,kl⟩:=zCv fun y hy=>ih m (by omega) (h4 y hy);rw[List.length_map] at b4;exact⟨.mk s1 s2 s3 l d4,rfl,by simp only[Ex.Ok];exact⟨i4,b4,b2,b3,zY0 kl⟩⟩
theorem zbS {k:Nat} {c:List D} (h:Shp Tryz.prog k 87 c):∃f:Fac,c=f.cells∧f.Ok0:=by
 obtain⟨j,_,hf⟩:=zAh Tryz.underlying87 h;obtain⟨c1,r1,rfl,h1,hf⟩:=zj hf;obtain⟨c2,r2,rfl,h2,hf⟩:=zj hf;obtain⟨c3,r3,rfl,h3,hf⟩:=zj hf;obtain⟨c4,r4,rfl,h4,hf⟩:=zj hf;obtain⟨c5,r5,rfl,h5,hf⟩:=zj hf;obtain⟨c6,r6,rfl,h6,hf⟩:=zj hf;obtain⟨c7,r7,rfl,h7,hf⟩:=zj hf;obtain⟨c8,r8,rfl,h8,hf⟩:=zj hf;obtain⟨c9,r9,rfl,h9,hf⟩:=zj hf;obtain rfl:=zCc hf;obtain⟨s1,rfl,b1⟩:=zBf Tryz.underlying3 h1;obtain⟨s2,rfl,b2⟩:=zAg Tryz.underlying9 h2;obtain⟨s3,rfl,b3⟩:=zAg Tryz.underlying9 h3;obtain⟨s4,rfl,b4⟩:=zBf Tryz.underlying3 h4;obtain⟨s5,rfl,b5⟩:=zBf Tryz.underlying3 h5;obtain⟨s6,rfl,b6⟩:=zBf Tryz.underlying3 h6
 obtain⟨s7,rfl⟩:=zWr Tryz.underlying4 h7;obtain⟨e,rfl,b8⟩:=zfo _ h8;obtain⟨d,l,rfl,i9,b9⟩:=zQt h9;exact⟨⟨s1,s2,s3,s4,s5,s6,s7,e,l,d⟩,rfl,b8,i9,b9,b2,b3⟩
theorem zVF {k:Nat} {c:List D} (h:Shp Tryz.prog k 29 c):∃d fs,c= [d]∧zb 12 (zCz fs) d∧fs.length≤1048576∧(∀f∈fs,f.Ok0)∧∀f∈fs,ym f.cells:=by
 obtain⟨d,xs,j,e,hj,hs,_,hl,hx⟩:=zGd Tryz.underlying29 zGY h;obtain⟨l,rfl,hk⟩:=zCv (f:=Fac.cells) (p:=fun f=>f.Ok0∧ym f.cells) fun y hy=>by
  obtain⟨f,hf,ho⟩:=zbS (hx y hy);exact⟨f,hf,ho,by rw[←hf];exact zFK _ _ _ (hx y hy)⟩
 rw[List.length_map] at hl;exact⟨d,l,e,hs,hl,fun f hf=>(hk f hf).1,fun f hf=>(hk f hf).2⟩
set_option maxHeartbeats 4000000 in
theorem zR0 {num:Int} {l:List (List Int)} {id:Nat} {g:Heap} (h0:l≠[]) (hl:l.length≤16777216) (hle:∀x∈l,x.length≤1048576) (hrow:g.at' id=some (.row (vbs num l).flatten)):
  zA Tryz.prog 113 [.rs id 2 0 l.length, .fn (.func 45) [] []] g fun r h'=>r= .rs id 2 0 (cpt qv l).length∧∃rest,h'=g.set id (.row ((vbs num (cpt qv l)).flatten++rest)):=by
 have hlen:=fun(h:Heap)=>zCb (P:=Tryz.prog) (t:=45) (sz:=2) (id:=id) (off:=0) (len:=l.length) (h:=h) Tryz.underlying45;have hpos:0<l.length:=List.length_pos_iff.2 h0;have heq:∀x∈l,∀y∈l,∀H,zA Tryz.prog 45 [.agg (zSJ num x), .agg (zSJ num y)] H fun r h'=>h'=H∧r= .bool (qv x y==0):=fun x hx y hy H=>by
  have:=zVE (zLe num (hle x hx)) (zLe num (hle y hy)) H;rw[zNY] at this;exact this
 have hsame:∀n,n≤l.length→(∀i (h:i+1<l.length),i+1<n→(qv l[i+1] l[i]==0)=false)→yt qv l n=l.take n:=fun n hn hh=>by
  induction n with
  |zero=>rfl
  |succ n ih=>
   cases n with
   |zero=>rw[zDr hpos,List.take_one];simp[List.head?_eq_getElem?,hpos]
   |succ k=>
    rw[zAQ (by omega),if_neg (by rw[hh k (by omega) (by omega)];exact Bool.false_ne_true),ih (by omega) fun i h1 h2=>hh i h1 (by omega)];exact(List.take_succ_eq_append_getElem (by omega)).symm
 refine zA.post fun Q hQ=> ?_;have hdone:(∀i (h:i+1<l.length),i+1<l.length→(qv l[i+1] l[i]==0)=false)→Q (.rs id 2 0 l.length) g:=fun hh=>hQ _ _ (by
  have e:cpt qv l=l:=by
   have:=hsame l.length (Nat.le_refl _) hh;rw[List.take_length] at this;exact this
  rw[e];exact⟨rfl,[],by rw[List.append_nil,zBv hrow]⟩)
 refine zA.of_fn (g:=zMZ) mix Tryz.func113 zaE rfl rfl ?_;simp only[Tryz.f113,gJ];cases q1:decide ((l.length:Int)<2) with
 |true=>
  have hd:=hdone fun i h1 h2=>by have:=of_decide_eq_true q1;omega
  clear hdone hQ
  repeat' first|simp only[go_sem,zET, *]|apply bc<;>intro hc
 |false=>
 repeat' first|simp only[go_sem,zET, *]|apply bc<;>intro hc
 refine yC (fun i fr h=>fr 0= .rs id 2 0 l.length∧fr 1= .fn (.func 45) [] []∧fr 5= .int .i64 ((i+1:Nat):Int)∧h=g∧i+1≤l.length∧∀j (h:j+1<l.length),j+1<i+1→(qv l[j+1] l[j]==0)=false) l.length ?_ ?_
 ·simp only[go_sem,zET,true_and,and_true,Int.ofNat_zero];exact⟨rfl,hpos,fun j h1 h2=>by omega⟩
 rintro i fr k0 hi ⟨f0,f1,f5,rfl,hile,hj⟩;by_cases hlt:i+1<l.length
 ·have e1:decide (((i+1:Nat):Int)<(l.length:Int))=true:=decide_eq_true (by omega);have ew:IntKind.i64.wrap (((i+1:Nat):Int)+1)=((i+2:Nat):Int):=ze (by unfold lim;omega);have ew2:IntKind.i64.wrap (((i+1:Nat):Int)-1)=((i:Nat):Int):=by rw[zX (by omega) (by omega)];omega
  have a1:=z6 (P:=Tryz.prog) (sz:=2) (id:=id) wX zBt (k:= .i64) hlt;have a2:=z6 (P:=Tryz.prog) (sz:=2) (id:=id) wX zBt (k:= .i64) (show i<l.length by omega);have p1:=zBN (zDh num l) (by omega) (show(vbs num l)[i+1]? =some (zSJ num l[i+1]) by simp[vbs,hlt]);have p2:=zBN (zDh num l) (by omega) (show(vbs num l)[i]? =some (zSJ num l[i]) by simp[vbs,show i<l.length by omega]);have hq:=heq l[i+1] (List.getElem_mem hlt) l[i] (List.getElem_mem (by omega)) k0;cases hb:(qv l[i+1] l[i]==0) with
  |false=>
   rw[hb] at hq;have hn:∀j (h:j+1<l.length),j+1<i+2→(qv l[j+1] l[j]==0)=false:=fun j h1 h2=>by
    by_cases e:j=i
    ·subst e;exact hb
    ·exact hj j h1 (by omega)
   clear hj hdone hsame q1 h0 hb heq
   repeat' first|simp only[go_sem,zET, *]|apply bc<;>intro hc
   refine zQ (by kernel_rfl) ?_
   repeat' first|simp only[go_sem,zET, *]|apply bc<;>intro hc|(refine zA.mono hq ?_;rintro r h ⟨hq2,rfl⟩)
   exact⟨by omega,hlt,hn⟩
  |true=>
   rw[hb] at hq;have hcs:yt qv l (i+2)=l.take (i+1):=by
    rw[zAQ hlt,if_pos hb,hsame (i+1) (by omega) fun j h1 h2=>hj j h1 h2]
   have hsl:=zAB (P:=Tryz.prog) (t:=45) (sz:=2) (id:=id) (h:=k0) zOH wX zBt (k:= .i64) hile;clear hj hdone hsame q1 h0 hb
   repeat' first|simp only[go_sem,zET, *]|apply bc<;>intro hc
   refine zQ (by kernel_rfl) ?_
   repeat' first|simp only[go_sem,zET, *]|apply bc<;>intro hc|(refine zA.mono hq ?_;rintro r h ⟨hq2,rfl⟩)
   refine yC (fun m fr h'=>fr 0= .rs id 2 0 l.length∧fr 1= .fn (.func 45) [] []∧fr 6= .rs id 2 ((i+1)*2) (l.length- (i+1))∧fr 7= .int .i64 ((m+1:Nat):Int)∧i+1+(m+1)≤l.length∧∃ys:List (List Int),ys.length=l.length∧h'=k0.set id (.row (vbs num ys).flatten)∧
    (yt qv l (i+2+m)).length≤i+1+m∧fr 5= .int .i64 (((yt qv l (i+2+m)).length:Nat):Int)∧ys.take (yt qv l (i+2+m)).length=yt qv l (i+2+m)∧ys.drop (i+1+m)=l.drop (i+1+m)) l.length ?_ ?_
   ·have hc1:(yt qv l (i+2)).length=i+1:=by rw[hcs,List.length_take];omega
    have hc2:yt qv l (i+2+0)=yt qv l (i+2):=rfl;have hres:i+1+(0+1)≤l.length∧∃ys:List (List Int),ys.length=l.length∧k0=k0.set id (.row (vbs num ys).flatten)∧
     (yt qv l (i+2+0)).length≤i+1+0∧D.int .i64 ((i+1:Nat):Int)= .int .i64 (((yt qv l (i+2+0)).length:Nat):Int)∧ys.take (yt qv l (i+2+0)).length=yt qv l (i+2+0)∧ys.drop (i+1+0)=l.drop (i+1+0):=
     ⟨by omega,l,rfl,(zBv hrow).symm,by rw[hc2,hc1];omega,by rw[hc2,hc1],by rw[hc2,hc1,hcs],rfl⟩
    clear hc1 hc2 hcs;simp only[go_sem,zET,true_and,and_true,Int.ofNat_zero];obtain⟨r0,ys,r1,r2,r3,r4,r5,r6⟩:=hres;exact⟨f0,f1,rfl,r0,ys,r1,r2,r3,f5.trans r4,r5,r6⟩
   clear hcs hsl hq p1 p2 a1 a2 f0 f1 f5 e1 ew ew2;rintro m fr2 h2 hm ⟨f0,f1,f6,f7,hml,ys,hyl,rfl,hcl,f5,hyt,hyd⟩;have hrow2:(k0.set id (.row (vbs num ys).flatten)).at' id=some (.row (vbs num ys).flatten):=zC _ _ _;have hlen2:=fun(H:Heap)=>zCb (P:=Tryz.prog) (t:=45) (sz:=2) (id:=id) (off:=(i+1)*2) (len:=l.length- (i+1)) (h:=H) Tryz.underlying45;by_cases hlt2:m+1<l.length- (i+1)
   ·have e1:decide (((m+1:Nat):Int)<((l.length- (i+1):Nat):Int))=true:=decide_eq_true (by omega);have ew:IntKind.i64.wrap (((m+1:Nat):Int)+1)=((m+2:Nat):Int):=ze (by unfold lim;omega);have ew2:IntKind.i64.wrap (((m+1:Nat):Int)-1)=((m:Nat):Int):=by rw[zX (by omega) (by omega)];omega
    have a1:=wB (P:=Tryz.prog) (sz:=2) (id:=id) (off:=(i+1)*2) wX zBt (k:= .i64) hlt2;have a2:=wB (P:=Tryz.prog) (sz:=2) (id:=id) (off:=(i+1)*2) wX zBt (k:= .i64) (show m<l.length- (i+1) by omega);obtain⟨x,hx⟩:∃x,l[i+1+m+1]? =some x:=⟨_,List.getElem?_eq_getElem (by omega)⟩;obtain⟨y,hy⟩:∃y,l[i+1+m]? =some y:=⟨_,List.getElem?_eq_getElem (by omega)⟩;have g1:ys[i+1+(m+1)]? =some x:=by
     have:=congrArg (fun z=>z[1]?) hyd;simp only[List.getElem?_drop] at this;rw[show i+1+(m+1)=i+1+m+1 by omega,this,hx]
    have g2:ys[i+1+m]? =some y:=by
     have:=congrArg (fun z=>z[0]?) hyd;simp only[List.getElem?_drop,Nat.add_zero] at this;rw[this,hy]
    have cg:∀ (k:Nat) (x:List Int),ys[k]? =some x→(vbs num ys)[k]? =some (zSJ num x):=fun k x e=>by simp[vbs,e]
    have p1:=zCn (zDh num ys) (by omega) (cg _ _ g1);have p2:=zCn (zDh num ys) (by omega) (cg _ _ g2);have hsx:yt qv l (i+2+(m+1))=if(qv x y==0)=true then yt qv l (i+2+m) else yt qv l (i+2+m)++ [x]:=by
     have:=zOt (c:=qv) hx hy;rw[show i+2+(m+1)=i+1+m+2 by omega,this,show i+2+m=i+1+m+1 by omega]
    have hyd2:∀zs:List (List Int),zs.drop (i+1+m)=l.drop (i+1+m)→zs.drop (i+1+(m+1))=l.drop (i+1+(m+1)):=fun zs e=>by
     have:=congrArg (List.drop 1) e;simpa [List.drop_drop,Nat.add_assoc] using this
    generalize hR:yt qv l (i+2+m)=R at *
    have hqn:=heq x (List.mem_of_getElem? hx) y (List.mem_of_getElem? hy) (k0.set id (.row (vbs num ys).flatten));cases hb:(qv x y==0) with
    |true=>
     rw[hb] at hqn;rw[if_pos hb] at hsx;have hres:m<l.length∧i+1+(m+1+1)≤l.length∧∃zs:List (List Int),zs.length=l.length∧k0.set id (.row (vbs num ys).flatten)=k0.set id (.row (vbs num zs).flatten)∧
      (yt qv l (i+2+(m+1))).length≤i+1+(m+1)∧D.int .i64 ((R.length:Nat):Int)= .int .i64 (((yt qv l (i+2+(m+1))).length:Nat):Int)∧zs.take (yt qv l (i+2+(m+1))).length=yt qv l (i+2+(m+1))∧zs.drop (i+1+(m+1))=l.drop (i+1+(m+1)):=
      ⟨by omega,by omega,ys,hyl,rfl,by rw[hsx];omega,by rw[hsx],by rw[hsx];exact hyt,hyd2 _ hyd⟩
     clear hyt hyd hyd2 hsx g1 g2 cg hx hy hR hcl hb
     repeat' first|simp only[go_sem,zET, *]|apply bc<;>intro hc
     refine zQ (by kernel_rfl) ?_
     repeat' first|simp only[go_sem,zET, *]|apply bc<;>intro hc|(refine zA.mono hqn ?_;rintro r h ⟨hq2,rfl⟩)
    |false=>
     rw[hb] at hqn;rw[if_neg (by rw[hb];exact Bool.false_ne_true)] at hsx;have hRl:R.length<l.length:=by omega
     have a3:=z6 (P:=Tryz.prog) (sz:=2) (id:=id) wX zBt (k:= .i64) hRl;have hst:=zIE (P:=Tryz.prog) (t:=33) hrow2 (zDh num ys) (by omega) zBt (i:=R.length) (by rw[zAF,hyl];exact hRl) (x:=zSJ num x) rfl rfl;have hset:(vbs num ys).set R.length (zSJ num x)=vbs num (ys.set R.length x):=by rw[vbs,vbs,List.map_set]
     rw[hset,zEa] at hst;have ew3:IntKind.i64.wrap (((R.length:Nat):Int)+1)=((R.length+1:Nat):Int):=ze (by unfold lim;omega);have hres:m<l.length∧i+1+(m+1+1)≤l.length∧∃zs:List (List Int),zs.length=l.length∧k0.set id (.row (vbs num (ys.set R.length x)).flatten)=k0.set id (.row (vbs num zs).flatten)∧
      (yt qv l (i+2+(m+1))).length≤i+1+(m+1)∧D.int .i64 ((R.length+1:Nat):Int)= .int .i64 (((yt qv l (i+2+(m+1))).length:Nat):Int)∧zs.take (yt qv l (i+2+(m+1))).length=yt qv l (i+2+(m+1))∧zs.drop (i+1+(m+1))=l.drop (i+1+(m+1)):=by
      have hRn:(R++ [x]).length=R.length+1:=by simp
      refine⟨by omega,by omega,ys.set R.length x,by simpa using hyl,rfl,by rw[hsx,hRn];omega,by rw[hsx,hRn],?_,?_⟩
      ·rw[hsx,hRn,List.take_succ_eq_append_getElem (by rw[List.length_set];omega),List.getElem_set_self,List.take_set_of_le (Nat.le_refl _),hyt]
      ·rw[List.drop_set_of_lt (by omega)];exact hyd2 _ hyd
     clear hyt hyd hyd2 hsx g1 g2 cg hx hy hR hcl hb hset
     repeat' first|simp only[go_sem,zET, *]|apply bc<;>intro hc
     refine zQ (by kernel_rfl) ?_
     repeat' first|simp only[go_sem,zET, *]|apply bc<;>intro hc|(refine zA.mono hqn ?_;rintro r h ⟨hq2,rfl⟩)
   ·have e1:decide (((m+1:Nat):Int)<((l.length- (i+1):Nat):Int))=false:=decide_eq_false (by omega);have hme:i+2+m=l.length:=by omega
    have hce:yt qv l (i+2+m)=cpt qv l:=by rw[hme];rfl
    rw[hce] at hyt f5 hcl;have hcle:(cpt qv l).length≤l.length:=zBw _;have hsl:=fun(H:Heap)=>zAB (P:=Tryz.prog) (t:=45) (sz:=2) (id:=id) (h:=H) zOH wX zBt (k:= .i64) hcle;have hsh:=fun(H:Heap)=>zAs (P:=Tryz.prog) (t:=45) (h:=H) zOH wX (id:=id) (sz:=2) zBt (k:= .i64) hcle;obtain⟨rest,hclr⟩:=zIX (P:=Tryz.prog) (sz:=2) (t:=45) wX zHD rfl rfl hrow2 (zDh num ys) (n:=(cpt qv l).length) (by rw[zAF];omega);have htk:(vbs num ys).take (cpt qv l).length=vbs num (cpt qv l):=by rw[vbs,←List.map_take,hyt];rfl
    rw[htk,zEa,zAF,hyl] at hclr;have hfin:=hQ (.rs id 2 0 (cpt qv l).length) (k0.set id (.row ((vbs num (cpt qv l)).flatten++rest))) ⟨rfl,rest,rfl⟩;clear hyt hyd hme hce htk hQ
    repeat' first|simp only[go_sem,zET, *]|apply bc<;>intro hc
 ·have e1:decide (((i+1:Nat):Int)<(l.length:Int))=false:=decide_eq_false (by omega);have hd:=hdone fun j h1 h2=>hj j h1 (by omega);clear hj hdone hsame q1 h0 hQ
  repeat' first|simp only[go_sem,zET, *]|apply bc<;>intro hc
theorem zbT (g:Heap):zA Tryz.prog 221 [.nilsl, .int .i64 0, .int .i64 0, .fn (.func 76) [] []] g fun _ h'=>h'=g:=by
 have hw:IntKind.i64.wrap (0+1)=1:=rfl;have hlt:decide ((1:Int)<0)=false:=rfl;refine zA.of_fn (g:=zP7) mix Tryz.func221 zeL rfl rfl ?_;simp only[Tryz.f221,gJ]
 repeat' first|simp only[go_sem,zaH, *]|apply bc<;>intro hc
 refine yC (fun j fr h2=>fr 2= .int .i64 0∧fr 8= .int .i64 1∧h2=g) 0 ?_ ?_
 ·simp only[go_sem,zaH,true_and,and_true,Int.ofNat_zero]
 rintro j fr2 h2 _ ⟨f2,f8,rfl⟩
 repeat' first|simp only[go_sem,zaH, *]|apply bc<;>intro hc
theorem zbU (m:Int) (g:Heap):zA Tryz.prog 163 [.nilsl, .int .i64 0, .int .i64 0, .int .i64 m, .fn (.func 76) [] []] g fun _ h'=>h'=g:=by
 have hw:IntKind.i64.wrap (0-0)=0:=rfl;have h12:decide ((0:Int)≤12)=true:=rfl;have hi:=zbT;refine zA.of_fn (g:=zPu) mix Tryz.func163 zdx rfl rfl ?_;simp only[Tryz.f163,gJ]
 repeat' first|simp only[go_sem,zaF, *]|apply bc<;>intro hc
 refine yC (fun j fr h2=>fr 0= .nilsl∧fr 1= .int .i64 0∧fr 2= .int .i64 0∧fr 4= .fn (.func 76) [] []∧h2=g) 0 ?_ ?_
 ·simp only[go_sem,zaF,true_and,and_true,Int.ofNat_zero]
 rintro j fr2 h2 _ ⟨f0,f1,f2,f4,rfl⟩
 repeat' first|simp only[go_sem,zaF, *]|apply bc<;>intro hc
theorem zXb (g:Heap):zA Tryz.prog 112 [.nilsl, .fn (.func 76) [] []] g fun _ h'=>h'=g:=by
 have hcv:wk Tryz.prog 3 239 (.int .i64 0)=some (.int .u64 0):=by kernel_rfl
 have hb:=zNB (n:=0) (by omega);have hp:=fun m=>zbU m;have hl:∀h,zC1 Tryz.prog 45 .nilsl h=some (.int .i64 0):=fun h=>qA (zb.nil (sz:=2)) Tryz.underlying45;simp only[Int.ofNat_zero] at hb;refine zA.of_fn (g:=zPm) mix Tryz.func112 zde rfl rfl ?_;simp only[Tryz.f112,gJ]
 repeat' first|simp only[go_sem,zhr, *]|apply bc<;>intro hc|(refine zA.mono (hb _) ?_;rintro r h ⟨rfl,rfl⟩)
theorem zO9 (g:Heap):zA Tryz.prog 113 [.nilsl, .fn (.func 45) [] []] g fun r h'=>h'=g∧r= .nilsl:=by
 have hl:∀h,zC1 Tryz.prog 45 .nilsl h=some (.int .i64 0):=fun h=>qA (zb.nil (sz:=2)) Tryz.underlying45;have hlt:decide ((0:Int)<2)=true:=rfl;refine zA.of_fn (g:=zMZ) mix Tryz.func113 zaE rfl rfl ?_;simp only[Tryz.f113,gJ]
 repeat' first|simp only[go_sem,zET, *]|apply bc<;>intro hc
theorem zPA {num:Int} {l:List (List Int)} {id:Nat} {g:Heap} (h0:l≠[]) (hl:l.length≤16777216) (hle:∀x∈l,x.length≤1048576) (hrow:g.at' id=some (.row (vbs num l).flatten)):
  zA Tryz.prog 113 [.rs id 2 0 l.length, .fn (.func 45) [] []] g fun r h'=>h'=g.del id∧r= .sl 2 (vbs num (cpt qv l)) .no:=
 zA.freezeD ((zR0 h0 hl hle hrow).mono (by
  rintro r h' ⟨rfl,rest,rfl⟩;exact⟨id,_,zC _ _ _,by rw[zOu],zLO (zDh num _) (zAF num _) rfl⟩))
def zVG (s:D):Nat→D
 |0=> .fn (.func 155) [s] []
 |1=> .fn (.func 156) [s] []
 |2=> .fn (.func 157) [s] []
 |3=> .fn (.func 158) [s] []
 |4=> .fn (.func 159) [s] []
 |_=> .fn (.func 160) [s] []
def zEk (c:Cat) (fs:List Fac) (al:Nat→Option Alt) (O:KV):Nat→List (List Int)
 |0=>(zq fs al).flatMap (qw c fs al)
 |1=>(zq fs al).flatMap (zAE c fs al O)
 |2=>(zq fs al).flatMap (zDg c fs al)
 |3=>(zq fs al).flatMap (wa c fs al)
 |4=>(zD5 fs).flatMap (zB6 fs O)
 |_=>zGF c fs
def qx (s:D) (i:Nat):List D:=[.int .i64 (i:Int),zVG s i]
def zcW (s:D):List (List D):=[qx s 0,qx s 1,qx s 2,qx s 3,qx s 4,qx s 5]
theorem zXc (s:D):∀i,i<6→(zcW s)[i]? =some (qx s i)
 |0,_=>rfl
 |1,_=>rfl
 |2,_=>rfl
 |3,_=>rfl
 |4,_=>rfl
 |5,_=>rfl
 |n+6,h=>by omega
theorem zGG:∀ {a:List D},a.length=2→∃x y,a= [x,y]
 | [x,y],_=>⟨x,y,rfl⟩
theorem zfp (sc:List D) (h:Heap):zA Tryz.prog 107 [.iptr sc 0] h fun r h'=>h'=h∧r= .sl 2 (zcW (.iptr sc 0)) .full:=by
 refine zA.of_fn (g:=zPs) mix Tryz.func107 zds rfl rfl ?_;simp only[Tryz.f107,gJ];have hb:∀ (i:Int) (f:FuncId),yN Tryz.prog 190 [(0, .int .i64 i),(1, .fn (.func f) [.iptr sc 0] [])]=some (.agg [.int .i64 i, .fn (.func f) [.iptr sc 0] []]):=fun i f=>by
  simp[yN,zOM,zMT,qi,yc,D.cells,D.notTuple]
 have hs:∀a b c d e f:List D,a.length=2→b.length=2→c.length=2→d.length=2→e.length=2→f.length=2→zK Tryz.prog false h.next 186 6 [(0, .agg a),(1, .agg b),(2, .agg c),(3, .agg d),(4, .agg e),(5, .agg f)] h=some (.sl 2 [a,b,c,d,e,f] .full,h):=fun a b c d e f ha hb hc hd he hf=>by
  obtain⟨a1,a2,rfl⟩:=zGG ha;obtain⟨b1,b2,rfl⟩:=zGG hb;obtain⟨c1,c2,rfl⟩:=zGG hc;obtain⟨d1,d2,rfl⟩:=zGG hd;obtain⟨e1,e2,rfl⟩:=zGG he;obtain⟨f1,f2,rfl⟩:=zGG hf;simp[zK,zMS,zMT,zOL,D.notTuple,D.cells,zBK,qi,yc,yI,lim]
 simp only[go_sem,zdr,hb];rw[hs _ _ _ _ _ _ rfl rfl rfl rfl rfl rfl];simp only[go_sem,zdr];rfl
theorem zjO {c:Cat} {fs:List Fac} {al:Nat→Option Alt} {M:KM Int} {O:KV} {sc:List D} {m1 m2:Nat} (hs:Stt c fs al M O sc m1 m2) (hn:fs.length≤16)
  {ff:FuncId} {cap:List D} {Y:List (List Int)→(Nat→Prop)→Heap→Prop} (y:Fnd2 Tryz.prog 5 ff cap Y) {S:Nat→Prop} {w:Heap} (hY:Y [] S w) (hH:StH M O m1 m2 w) (n1:¬S m1) (n2:¬S m2):∀i,i<6→
  zGp Tryz.prog (zVG (.iptr sc 0) i) [.fn (.func ff) [] cap] w fun _ h'=>∃S',(∀i,S' i→S i∨w.next≤i)∧But S w h'∧Y (zEk c fs al O i) S' h':=by
 intro i hi;rcases i with _|_|_|_|_|_|i
 ·exact zXW hs hn y hY hH n1 n2
 ·exact zbC hs hn y hY hH n1 n2
 ·exact zfj hs hn y hY hH n1 n2
 ·exact zbF hs hn y hY hH n1 n2
 ·exact zfl hs hn y hY hH n1 n2
 ·exact zfm hs hn y hY hH n1 n2
 ·omega
def zC6 (c:Cat) (fs:List Fac) (al:Nat→Option Alt) (O:KV) (i:Nat):List (List Int):=cpt qv (srt qv ((zEk c fs al O i).map zC5))
def zXd (c:Cat) (fs:List Fac) (al:Nat→Option Alt) (O:KV) (i:Nat):D:=if zEk c fs al O i= [] then .nilsl else .sl 2 (vbs (i:Int) (zC6 c fs al O i)) .no
theorem zXe {c:Cat} {fs:List Fac} {al:Nat→Option Alt} {O:KV} (hn:fs.length≤16) (i:Nat):(zEk c fs al O i).length≤16777216:=by
 have h4:=zAl (al:=al) hn;have hfm:∀ {α:Type} {l:List α} {f:α→List (List Int)} {m n:Nat},l.length≤n→(∀x∈l,(f x).length≤m)→n*m≤16777216→(l.flatMap f).length≤16777216:=fun h1 h2 h3=>Nat.le_trans (qO h2) (Nat.le_trans (Nat.mul_le_mul_right _ h1) h3);unfold zEk;split
 ·exact hfm (m:=1) h4 (fun t _=>by unfold qw;split<;>simp) (by omega)
 ·exact hfm (m:=1) h4 (fun t _=>by
   unfold zAE;split
   ·simp
   ·split<;>simp) (by omega)
 ·exact hfm (m:=16) h4 (fun t _=>zIl c hn al t) (by omega)
 ·exact hfm (m:=4096) h4 (fun t _=>zGE c hn al t) (by omega)
 ·exact hfm (m:=16) (n:=16) (Nat.le_trans (yj _ fs 0) hn) (fun t _=>zIp hn O t) (by omega)
 ·unfold zGF;split
  ·simp
  ·exact hfm (m:=1) (n:=16) (Nat.le_trans (yj _ fs 0) hn) (fun t _=>Nat.le_refl _) (by omega)
theorem zNZ (l:List Int):(zC5 l).length≤l.length:=Nat.le_trans (zBw _) (Nat.le_of_eq (qY l).length_eq)
theorem zNa {c:Cat} {fs:List Fac} {al:Nat→Option Alt} {O:KV} (i:Nat):∀l∈zEk c fs al O i,l.length≤5:=by
 intro l hl;unfold zEk at hl;split at hl
 ·obtain⟨t,_,h⟩:=List.mem_flatMap.1 hl;unfold qw at h;split at h
  ·rw[List.mem_singleton.1 h];simp
  ·cases h
 ·obtain⟨t,_,h⟩:=List.mem_flatMap.1 hl;unfold zAE at h;split at h
  ·cases h
  ·split at h
   ·rw[List.mem_singleton.1 h];simp
   ·cases h
 ·obtain⟨t,_,h⟩:=List.mem_flatMap.1 hl;obtain⟨k,_,h⟩:=List.mem_flatMap.1 h;unfold zEj at h;split at h
  ·rw[List.mem_singleton.1 h];simp
  ·cases h
 ·obtain⟨t,_,h⟩:=List.mem_flatMap.1 hl;unfold wa at h;split at h
  ·obtain⟨r,_,h⟩:=List.mem_flatMap.1 h;unfold zA5 at h;split at h
   ·rw[List.mem_singleton.1 h];simp
   ·cases h
  ·cases h
 ·obtain⟨t,_,h⟩:=List.mem_flatMap.1 hl;unfold zB6 at h;split at h
  ·cases h
  ·split at h
   ·cases h
   ·obtain⟨r,_,h⟩:=List.mem_flatMap.1 h;rw[List.mem_singleton.1 h];simp
 ·unfold zGF at hl;split at hl
  ·cases hl
  ·obtain⟨r,_,h⟩:=List.mem_flatMap.1 hl;rw[List.mem_singleton.1 h];simp
def zVH (sc:List D):D:= .fn (.func 106) [] [.iptr [.iptr sc 0] 0]
theorem zNb (sc:List D) (g:Heap):zA Tryz.prog 75 [.iptr sc 0] g fun r h'=>h'=g∧r=zVH sc:=by
 refine zA.of_fn (g:=zWD) mix Tryz.func75 zj9 rfl rfl ?_;simp only[Tryz.f75,gJ]
 repeat' first|simp only[go_sem,zlB,zVH, *]|apply bc<;>intro hc
theorem zVI (num:Int) (l:List (List Int)):l.map (zJI num)=vbs num (l.map zC5):=by
 unfold vbs;rw[List.map_map];rfl
set_option maxHeartbeats 4000000 in
theorem zLf {c:Cat} {fs:List Fac} {al:Nat→Option Alt} {M:KM Int} {O:KV} {sc:List D} {m1 m2:Nat} (hs:Stt c fs al M O sc m1 m2) (hn:fs.length≤16)
  {id:Nat} {Y:Nat→(Nat→Prop)→Heap→Prop} {Z:(Nat→Prop)→Heap→Prop} (y:Yld Tryz.prog id 6 (fun i=>[zXd c fs al O i]) Y Z) {S:Nat→Prop} {w:Heap} (hY:Y 0 S w) (hH:StH M O m1 m2 w) (n1:¬S m1) (n2:¬S m2):
  zA Tryz.prog 106 [.yld id, .iptr [.iptr sc 0] 0] w fun _ h'=>∃S',(∀j,S' j→S j∨w.next≤j)∧But S w h'∧(Y 6 S' h'∨Z S' h'):=by
 have hrw:=zfp sc;have hlr:∀h,zC1 Tryz.prog 186 (.sl 2 (zcW (.iptr sc 0)) .full) h=some (.int .i64 6):=fun h=>qA (zb.mk (sz:=2) (xs:=zcW (.iptr sc 0)) .full) Tryz.underlying186;refine zA.of_fn (g:=zPl) mix Tryz.func106 zdd rfl rfl ?_;simp only[Tryz.f106,gJ]
 repeat' first|simp only[go_sem,zGu, *]|apply bc<;>intro hc|(refine zA.mono (hrw _) ?_;rintro r h ⟨hq,rfl⟩)
 subst hq
 rename Heap=>w
 refine yC (fun i fr h'=>fr 0= .yld id∧fr 1= .iptr [.iptr sc 0] 0∧fr 7= .sl 2 (zcW (.iptr sc 0)) .full∧fr 8= .int .i64 6∧fr 9= .int .i64 (i:Int)∧∃S',(∀j,S' j→S j∨w.next≤j)∧But S w h'∧Y i S' h') 6 ?_ ?_
 ·have hst:∃S',(∀j,S' j→S j∨w.next≤j)∧But S w w∧Y 0 S' w:=⟨S,fun j hj=> .inl hj,But.refl S w,hY⟩;simp only[go_sem,zGu,true_and,and_true,Int.ofNat_zero];exact hst
 rintro i fr h1 hi ⟨f0,f1,f7,f8,f9,S',hS,hbut,hYi⟩;by_cases hlt:i<6
 ·have e1:decide ((i:Int)<6)=true:=decide_eq_true (by omega);have ew:IntKind.i64.wrap ((i:Int)+1)=((i+1:Nat):Int):=ze (by unfold lim;omega);have hw:zS true 2 (qx (.iptr sc 0) i) 0=some (.agg (qx (.iptr sc 0) i)):=zB rfl (by omega);have hst:∀ (h:Heap) (id:Nat),zV Tryz.prog 190 (.ptr id 0) (.agg (qx (.iptr sc 0) i)) (h.new id (.row [.int .i64 0, .nilfn]))=some (h.new id (.row (qx (.iptr sc 0) i))):=fun h id=>zg zOL (by omega) rfl rfl (by rcases i with _|_|_|_|_|i<;>rfl)
  have ha:zU Tryz.prog 186 (.sl 2 (zcW (.iptr sc 0)) .full) (.int .i64 (i:Int))=some (.iptr (qx (.iptr sc 0) i) 0):=zd (zb.mk (sz:=2) _) zMS zOL (zXc _ _ hlt);have hc1:(qx (.iptr sc 0) i)[1]? =some (zVG (.iptr sc 0) i):=rfl;have hb1:=hbut.1;obtain⟨H,hHe,hHn,hnr,hnl,hE⟩:∃H:Heap,(h1.new h1.next (.row (qx (.iptr sc 0) i))).new (h1.next+1) (.row [.nilsl])=H∧H.next=h1.next+2∧H.at' h1.next=some (.row (qx (.iptr sc 0) i))∧H.at' (h1.next+1)=some (.row [.nilsl])∧Ext h1 H:=
   ⟨_,rfl,zp _ (by rw[zF];exact Nat.le_refl _) _,by rw[zD (by omega),zM],zM _ _ _,((Ext.refl h1).new (Nat.le_refl _) _).new (by omega) _⟩
  have hbutH:But S w H:=hbut.trans (hE.but S) fun i hi=> .inl hi;have hstH:StH M O m1 m2 H:=⟨⟨by rw[hbutH.2 _ hH.2.1 n1];exact hH.1.1,by rw[hbutH.2 _ hH.2.2 n2];exact hH.1.2⟩,by have:=hH.2.1;omega,by have:=hH.2.2;omega⟩;have Y0:YVf (i:Int) (zVG (.iptr sc 0) i) (h1.next+1) h1.next [] (fun j=>j=h1.next+1∨j=h1.next) H:=⟨by omega,by omega,by omega,hnr, .nilsl,hnl, .inl ⟨rfl,rfl⟩,fun e=>e,fun e=>e,fun j=>⟨fun e=>e.elim .inl fun e=> .inr (.inl e),fun e=>e.elim .inl fun e=>e.elim .inr fun e=>e.elim⟩⟩
  have hcr:=zjO hs hn (zXZ (num:=(i:Int)) (fn:=zVG (.iptr sc 0) i) (nl:=h1.next+1) (nr:=h1.next)) Y0 hstH (fun e=>by have:=hH.2.1;omega) (fun e=>by have:=hH.2.2;omega) i hlt;clear hstH hbutH Y0
  repeat' first|simp only[go_sem,zGu,zF, *]|apply bc<;>intro hc
  refine zGp.mono ?_ hcr;rintro r h2 ⟨S2,s2,b2,w1,w2,w3,w4,d2,w5,w6,w7,w8,w9⟩;have b20:=b2.1;have hold:∀j,j<h1.next→h2.at' j=h1.at' j:=fun j hj=>by rw[b2.2 j (by omega) (by omega),hE.2 j hj]
  rw[zVI] at w6;have hRl:=zXe (c:=c) (al:=al) (O:=O) hn i;have hR5:=zNa (c:=c) (fs:=fs) (al:=al) (O:=O) i;clear hcr hst ha hw hc1 hHe e1;rcases w6 with⟨rfl,e⟩ | ⟨id2,rfl,g1,g2,g3⟩
  ·have e0:zEk c fs al O i= []:=by simpa [vbs] using e
   have hv:zXd c fs al O i= .nilsl:=by unfold zXd;rw[if_pos e0]
   have hE4:Ext h1 h2:=⟨by omega,hold⟩;have hgo:=y.go i S' h2 hlt (y.ext hYi hE4);have hfin:∀ (S3:Nat→Prop) (h5:Heap),(∀j,S3 j→S' j∨h2.next≤j)→But S' h2 h5→(∀j,S3 j→S j∨w.next≤j)∧But S w h5:=fun S3 h5 hS3 hb5=>⟨fun j hj=>by
    rcases hS3 j hj with hj|hj
    ·exact hS j hj
    ·exact .inr (by omega),(hbut.trans (hE4.but S) fun i hi=> .inl hi).trans hb5 hS⟩
   simp only[hv] at hgo;simp only[go_sem,zGu,w5,f0];refine(zXb h2).mono ?_;rintro r h3 hq;subst hq;simp only[go_sem,zGu,w5,f0];refine(zO9 h3).mono ?_;rintro r h4 ⟨hq,rfl⟩;subst hq;refine hgo.mono ?_;rintro r h5 ⟨S3,hS3,hb5,⟨rfl,hY5⟩ | ⟨rfl,hZ5⟩⟩
   ·have hres:=hfin S3 h5 hS3 hb5;simp only[go_sem,zGu,vun,ew,f0,f1,f7,f8,f9,true_and];exact⟨hlt,S3,hres.1,hres.2,hY5⟩
   ·have hres:=hfin S3 h5 hS3 hb5;simp only[go_sem,zGu,vun];exact⟨S3,hres.1,hres.2, .inr hZ5⟩
  ·have hne:(zEk c fs al O i).map zC5≠[]:=fun e=>g3 (by rw[e];rfl);have hne0:zEk c fs al O i≠[]:=fun e=>hne (by rw[e];rfl);have hml:((zEk c fs al O i).map zC5).length≤16777216:=by rw[List.length_map];exact hRl
   have hmx:∀x∈(zEk c fs al O i).map zC5,x.length≤1048576:=fun x hx=>by
    obtain⟨z,hz,rfl⟩:=List.mem_map.1 hx;have h1:=zNZ z;have h2:=hR5 z hz;omega
   have hv:zXd c fs al O i= .sl 2 (vbs (i:Int) (zC6 c fs al O i)) .no:=by unfold zXd;rw[if_neg hne0]
   have hrv:zC6 c fs al O i=cpt qv (srt qv ((zEk c fs al O i).map zC5)):=rfl;rw[hrv] at hv;clear hrv;generalize(zEk c fs al O i).map zC5=L at *
   have hid:H.next≤id2:=by
    rcases s2 id2 ((w9 id2).2 (.inr (.inr rfl))) with(e|e)|e
    ·exact absurd e.symm (fun e=>w7 (by rw[e];rfl))
    ·exact absurd e.symm (fun e=>w8 (by rw[e];rfl))
    ·exact e
   have hso:=zbM (num:=(i:Int)) hne hml hmx g1;have sl:(srt qv L).length=L.length:=(qY L).length_eq;have s0:srt qv L≠[]:=fun e=>hne (List.length_eq_zero_iff.1 (by rw[←sl,e];rfl));have hco:=zPA (num:=(i:Int)) s0 (by omega) (fun x hx=>hmx x (zEc.1 hx)) (zC h2 id2 (.row (vbs (i:Int) (srt qv L)).flatten));rw[sl] at hco;rw[zAF] at w5;obtain⟨h3,hh3,hn3,w53⟩:∃h3,h2.set id2 (.row (vbs (i:Int) (srt qv L)).flatten)=h3∧h3.next=h2.next∧h3.at' (h1.next+1)=some (.row [.rs id2 2 0 L.length]):=⟨_,rfl,zy _ _ _,by rw[zH (by omega)];exact w5⟩
   have hE4:Ext h1 (h3.del id2):=⟨by rw[zQQ,hn3];omega,fun j hj=>by rw[yz (by omega),←hh3,zH (by omega),hold j hj]⟩;have hn4:(h3.del id2).next=h2.next:=by rw[zQQ,hn3]
   rw[hh3] at hso hco;generalize h3.del id2=h4 at *
   have hgo:=y.go i S' h4 hlt (y.ext hYi hE4);have hfin:∀ (S3:Nat→Prop) (h5:Heap),(∀j,S3 j→S' j∨h4.next≤j)→But S' h4 h5→(∀j,S3 j→S j∨w.next≤j)∧But S w h5:=fun S3 h5 hS3 hb5=>⟨fun j hj=>by
    rcases hS3 j hj with hj|hj
    ·exact hS j hj
    ·exact .inr (by omega),(hbut.trans (hE4.but S) fun i hi=> .inl hi).trans hb5 hS⟩
   simp only[hv] at hgo;simp only[go_sem,zGu,w5,f0];refine hso.mono ?_;rintro r h ⟨rfl,hq⟩;subst hq;simp only[go_sem,zGu,w53,f0];refine hco.mono ?_;rintro r h ⟨hq,rfl⟩;subst hq;refine hgo.mono ?_;rintro r h5 ⟨S3,hS3,hb5,⟨rfl,hY5⟩ | ⟨rfl,hZ5⟩⟩
   ·have hres:=hfin S3 h5 hS3 hb5;simp only[go_sem,zGu,vun,ew,f0,f1,f7,f8,f9,true_and];exact⟨hlt,S3,hres.1,hres.2,hY5⟩
   ·have hres:=hfin S3 h5 hS3 hb5;simp only[go_sem,zGu,vun];exact⟨S3,hres.1,hres.2, .inr hZ5⟩
 ·have e1:decide ((i:Int)<6)=false:=decide_eq_false (by omega);have hie:i=6:=by omega
  subst hie;have hfin:∃S',(∀j,S' j→S j∨w.next≤j)∧But S w h1∧(Y 6 S' h1∨Z S' h1):=⟨S',hS,hbut, .inl hYi⟩;clear hS hbut hYi hrw
  repeat' first|simp only[go_sem,zGu, *]|apply bc<;>intro hc
end Go.V
