/- A machine of abstract values for programs of the model, further rules, part 3. No condition. -/
import Derived.Test.YtmhkjfajejaniaaGreatDoorW34
import Derived.Test.YtmhkjfajejaniaaGreatDoorW36
import Derived.Test.YtmhkjfajejaniaaGreatDoorW31
import Derived.Test.YtmhkjfajejaniaaGreatDoorW30
import Derived.Test.YtmhkjfajejaniaaGreatDoorW23
import Derived.Test.YtmhkjfajejaniaaGreatDoorW33
import Derived.Test.YtmhkjfajejaniaaGreatDoorW06
set_option linter.all false
namespace Go.V
open Go.Shelf Go.Proofs Go.Sort
open Go.RowKit (Below)
theorem zA.of_sortI {P:Program} {f:FuncId} {xs:List Int} {id:Nat} {h:Heap} (h0:xs≠[]) (he:wS P f=true) (hrow:h.at' id=some (.row (xs.map (D.int .i64)))) (hlen:xs.length<4611686018427387904)
  (hlib:∀ (blk off cap:Nat) (zs:List Int) (w:World),Go.Sort.Holds (Value.int .i64) w blk off zs.toArray→blk<w.heap.size→zs.length<4611686018427387904→
   Calls P f #[.slice (some ⟨blk,off,none⟩) zs.length cap] w fun e w'=>e= .returned (.tuple #[])∧∃n os,w'=Go.Sort.grow (putRow (Value.int .i64) (Go.Sort.ahead w n) blk off (zs.mergeSort fun x y=>decide (x≤y)).toArray) os):
  zA P f [.rs id 1 0 xs.length] h fun r h'=>r= .tuple []∧h'=h.set id (.row ((xs.mergeSort fun x y=>decide (x≤y)).map (D.int .i64))):=by
 refine⟨he,fun w0 G M ρ w va hg0 hs hfr hr=> ?_⟩;simp only[zw] at hr;obtain⟨v,vs',hva,hv,rfl⟩:=hr;simp only[rel,zw] at hv;obtain⟨_,hlim,l,cap,o,hl,rfl,⟨hc1,hc2⟩,hsz,ho⟩:=hv;have hxl:0<xs.length:=List.length_pos_iff.2 h0;have ho:o=0:=by
  rcases ho with hz|ho
  ·omega
  ·exact ho
 subst ho;have hva':va= #[.slice (some ⟨l.blk,0,none⟩) xs.length cap]:=Array.ext' (by simpa using hva);subst hva';obtain⟨l',h1,hkeep,hM,c,e,hw,hls,hcl,hcells⟩:=hs.live id _ hrow;rw[hl] at h1;cases h1;have hblk:l.blk<w.heap.size:=(Array.getElem?_eq_some_iff.1 hw).1;have hholds:Go.Sort.Holds (Value.int .i64) w l.blk 0 xs.toArray:=by
  intro j hj;have hj':j<xs.length:=by simpa using hj
  refine⟨?_,by simp[World.frozen?,hw]⟩;obtain⟨_,v,h2,h3⟩:=hcells j (.int .i64 xs[j]) (by rw[List.getElem?_map,List.getElem?_eq_getElem hj'];rfl);simp only[rel] at h3;obtain⟨rfl,_⟩:=h3;simp only[World.cell?,hw,Option.isSome_none,Bool.false_eq_true,if_false];rw[Nat.zero_add,h2];simp[hj']
 refine(hlib l.blk 0 cap xs w hholds hblk hlen).mono fun e w' hq=> ?_;obtain⟨rfl,n,os,rfl⟩:=hq;have hrow2:h.at' id=some (.row ([]++xs.map (D.int .i64)++ [])):=by simpa using hrow
 have hS:=(hs.ahead n).putRow (α:=Int) (enc:=Value.int .i64) (dd:=D.int .i64) (fun q=>rfl) hrow2 hl (ys:=xs.mergeSort fun x y=>decide (x≤y)) (List.length_mergeSort _) (fun q hq=>by
  obtain⟨i,hi,rfl⟩:=List.mem_iff_getElem.1 (List.mem_mergeSort.1 hq);obtain⟨_,v,_,h3⟩:=hcells i (.int .i64 xs[i]) (by rw[List.getElem?_map,List.getElem?_eq_getElem hi];rfl);simp only[rel] at h3;exact yU h3.2)
 have hS2:=hS.grow os;refine⟨.tuple #[],M,ρ, .tuple [],_,rfl,MLe.refl _,RLe.refl _,hS2,hfr,by simp only[rel,zw];exact⟨#[],rfl,rfl⟩,rfl,by simp⟩
open Go.Proofs
set_option maxRecDepth 100000
theorem zFO (l:List Int):(wT l).flatten=l.map (D.int .i64):=by
 induction l with
 |nil=>rfl
 |cons a l ih=>simp only[wT,List.map_cons,List.flatten_cons] at ih⊢;rw[ih];rfl
theorem zId {l:List Int} :∀x∈wT l,x.length=1:=fun x hx=>by
 obtain⟨y,_,rfl⟩:=List.mem_map.1 hx;rfl
theorem zQc (x y:Int):(yp x y==0)=(x==y):=by
 unfold yp;split
 ·have:x≠y:=by omega
  simp[this]
 ·split
  ·have:x≠y:=by omega
   simp[this]
  ·have:x=y:=by omega
   simp[this]
set_option maxHeartbeats 4000000 in
theorem zRh {l:List Int} {id:Nat} {g:Heap} (h0:l≠[]) (hl:l.length≤1048576) (hrow:g.at' id=some (.row (l.map (D.int .i64)))):
  zA Tryz.prog 111 [.rs id 1 0 l.length] g fun r h'=>r= .rs id 1 0 (cpt yp l).length∧∃rest,h'=g.set id (.row ((cpt yp l).map (D.int .i64)++rest)):=by
 have hlen:=fun(h:Heap)=>zBP (P:=Tryz.prog) (t:=31) (sz:=1) (id:=id) (off:=0) (len:=l.length) (h:=h) Tryz.underlying31;have hpos:0<l.length:=List.length_pos_iff.2 h0;have hsame:∀n,n≤l.length→(∀i (h:i+1<l.length),i+1<n→(yp l[i+1] l[i]==0)=false)→yq yp l n=l.take n:=fun n hn hh=>by
  induction n with
  |zero=>rfl
  |succ n ih=>
   cases n with
   |zero=>rw[zFH hpos,List.take_one];simp[List.head?_eq_getElem?,hpos]
   |succ k=>
    rw[zAk (by omega),if_neg (by rw[hh k (by omega) (by omega)];exact Bool.false_ne_true),ih (by omega) fun i h1 h2=>hh i h1 (by omega)];exact(List.take_succ_eq_append_getElem (by omega)).symm
 refine zA.post fun Q hQ=> ?_;have hdone:(∀i (h:i+1<l.length),i+1<l.length→(yp l[i+1] l[i]==0)=false)→Q (.rs id 1 0 l.length) g:=fun hh=>hQ _ _ (by
  have e:cpt yp l=l:=by
   have:=hsame l.length (Nat.le_refl _) hh;rw[List.take_length] at this;exact this
  rw[e];exact⟨rfl,[],by rw[List.append_nil,zBg hrow]⟩)
 refine zA.of_fn (g:=zPT) mix Tryz.func111 zc2 rfl rfl ?_;simp only[Tryz.f111,gJ];cases q1:decide ((l.length:Int)<2) with
 |true=>
  have hd:=hdone fun i h1 h2=>by have:=of_decide_eq_true q1;omega
  clear hdone hQ
  repeat' first|simp only[go_sem,zEz, *]|apply bc<;>intro hc
 |false=>
 repeat' first|simp only[go_sem,zEz, *]|apply bc<;>intro hc
 refine z7 (fun i fr h=>fr 0= .rs id 1 0 l.length∧fr 3= .int .i64 ((i+1:Nat):Int)∧h=g∧i+1≤l.length∧∀j (h:j+1<l.length),j+1<i+1→(yp l[j+1] l[j]==0)=false) l.length ?_ ?_
 ·simp only[go_sem,zEz,true_and,and_true,Int.ofNat_zero];exact⟨rfl,hpos,fun j h1 h2=>by omega⟩
 rintro i fr h hi ⟨f0,f3,rfl,hile,hj⟩;by_cases hlt:i+1<l.length
 ·have e1:decide (((i+1:Nat):Int)<(l.length:Int))=true:=decide_eq_true (by omega);have ew:IntKind.i64.wrap (((i+1:Nat):Int)+1)=((i+2:Nat):Int):=ze (by unfold lim;omega);have ew2:IntKind.i64.wrap (((i+1:Nat):Int)-1)=((i:Nat):Int):=by rw[zV (by omega) (by omega)];omega
  have a1:=zh (P:=Tryz.prog) (sz:=1) (id:=id) yF wL (k:= .i64) hlt;have a2:=zh (P:=Tryz.prog) (sz:=1) (id:=id) yF wL (k:= .i64) (show i<l.length by omega);have p1:(l.map (D.int .i64))[i+1]? =some (.int .i64 l[i+1]):=by simp[hlt]
  have p2:(l.map (D.int .i64))[i]? =some (.int .i64 l[i]):=by simp[show i<l.length by omega]
  have hq:=zQc l[i+1] l[i];rw[Nat.mul_one] at a1 a2;cases hb:(yp l[i+1] l[i]==0) with
  |false=>
   rw[hb] at hq;replace hq:=hq.symm;have hn:∀j (h:j+1<l.length),j+1<i+2→(yp l[j+1] l[j]==0)=false:=fun j h1 h2=>by
    by_cases e:j=i
    ·subst e;exact hb
    ·exact hj j h1 (by omega)
   clear hj hdone hsame q1 h0 hb
   repeat' first|simp only[go_sem,zEz, *]|apply bc<;>intro hc
   refine zQ (by kernel_rfl) ?_
   repeat' first|simp only[go_sem,zEz, *]|apply bc<;>intro hc
   exact⟨by omega,hlt,hn⟩
  |true=>
   rw[hb] at hq;replace hq:=hq.symm;have hcs:yq yp l (i+2)=l.take (i+1):=by
    rw[zAk hlt,if_pos hb,hsame (i+1) (by omega) fun j h1 h2=>hj j h1 h2]
   have hsl:=wm (P:=Tryz.prog) (t:=31) (sz:=1) (id:=id) (h:=h) zN1 yF wL (k:= .i64) hile;rw[Nat.mul_one] at hsl;clear hj hdone hsame q1 h0 hb
   repeat' first|simp only[go_sem,zEz, *]|apply bc<;>intro hc
   refine zQ (by kernel_rfl) ?_
   repeat' first|simp only[go_sem,zEz, *]|apply bc<;>intro hc
   refine z7 (fun m fr h'=>fr 0= .rs id 1 0 l.length∧fr 4= .rs id 1 (i+1) (l.length- (i+1))∧fr 5= .int .i64 ((m+1:Nat):Int)∧i+1+(m+1)≤l.length∧∃ys:List Int,ys.length=l.length∧h'=h.set id (.row (ys.map (D.int .i64)))∧
    (yq yp l (i+2+m)).length≤i+1+m∧fr 3= .int .i64 (((yq yp l (i+2+m)).length:Nat):Int)∧ys.take (yq yp l (i+2+m)).length=yq yp l (i+2+m)∧ys.drop (i+1+m)=l.drop (i+1+m)) l.length ?_ ?_
   ·have hc1:(yq yp l (i+2)).length=i+1:=by rw[hcs,List.length_take];omega
    have hc2:yq yp l (i+2+0)=yq yp l (i+2):=rfl;have hres:i+1+(0+1)≤l.length∧∃ys:List Int,ys.length=l.length∧h=h.set id (.row (ys.map (D.int .i64)))∧
     (yq yp l (i+2+0)).length≤i+1+0∧D.int .i64 ((i+1:Nat):Int)= .int .i64 (((yq yp l (i+2+0)).length:Nat):Int)∧ys.take (yq yp l (i+2+0)).length=yq yp l (i+2+0)∧ys.drop (i+1+0)=l.drop (i+1+0):=
     ⟨by omega,l,rfl,(zBg hrow).symm,by rw[hc2,hc1];omega,by rw[hc2,hc1],by rw[hc2,hc1,hcs],rfl⟩
    clear hc1 hc2 hcs;simp only[go_sem,zEz,true_and,and_true,Int.ofNat_zero];obtain⟨r0,ys,r1,r2,r3,r4,r5,r6⟩:=hres;exact⟨f0,rfl,r0,ys,r1,r2,r3,f3.trans r4,r5,r6⟩
   clear hcs hsl hq p1 p2 a1 a2 f0 f3 e1 ew ew2;rintro m fr2 h2 hm ⟨f0,f4,f5,hml,ys,hyl,rfl,hcl,f3,hyt,hyd⟩;have hrow2:(h.set id (.row (ys.map (D.int .i64)))).at' id=some (.row (ys.map (D.int .i64))):=zC _ _ _;have hlen2:=fun(H:Heap)=>zBP (P:=Tryz.prog) (t:=31) (sz:=1) (id:=id) (off:=i+1) (len:=l.length- (i+1)) (h:=H) Tryz.underlying31;by_cases hlt2:m+1<l.length- (i+1)
   ·have e1:decide (((m+1:Nat):Int)<((l.length- (i+1):Nat):Int))=true:=decide_eq_true (by omega);have ew:IntKind.i64.wrap (((m+1:Nat):Int)+1)=((m+2:Nat):Int):=ze (by unfold lim;omega);have ew2:IntKind.i64.wrap (((m+1:Nat):Int)-1)=((m:Nat):Int):=by rw[zV (by omega) (by omega)];omega
    have a1:=qp (P:=Tryz.prog) (sz:=1) (id:=id) (off:=i+1) yF wL (k:= .i64) hlt2;have a2:=qp (P:=Tryz.prog) (sz:=1) (id:=id) (off:=i+1) yF wL (k:= .i64) (show m<l.length- (i+1) by omega);obtain⟨x,hx⟩:∃x,l[i+1+m+1]? =some x:=⟨_,List.getElem?_eq_getElem (by omega)⟩;obtain⟨y,hy⟩:∃y,l[i+1+m]? =some y:=⟨_,List.getElem?_eq_getElem (by omega)⟩;have g1:ys[i+1+(m+1)]? =some x:=by
     have:=congrArg (fun z=>z[1]?) hyd;simp only[List.getElem?_drop] at this;rw[show i+1+(m+1)=i+1+m+1 by omega,this,hx]
    have g2:ys[i+1+m]? =some y:=by
     have:=congrArg (fun z=>z[0]?) hyd;simp only[List.getElem?_drop,Nat.add_zero] at this;rw[this,hy]
    rw[Nat.mul_one] at a1 a2;have p1:(ys.map (D.int .i64))[i+1+(m+1)]? =some (.int .i64 x):=by rw[List.getElem?_map,g1];rfl
    have p2:(ys.map (D.int .i64))[i+1+m]? =some (.int .i64 y):=by rw[List.getElem?_map,g2];rfl
    have hsx:yq yp l (i+2+(m+1))=if(yp x y==0)=true then yq yp l (i+2+m) else yq yp l (i+2+m)++ [x]:=by
     have:=zOg (c:=yp) hx hy;rw[show i+2+(m+1)=i+1+m+2 by omega,this,show i+2+m=i+1+m+1 by omega]
    have hyd2:∀zs:List Int,zs.drop (i+1+m)=l.drop (i+1+m)→zs.drop (i+1+(m+1))=l.drop (i+1+(m+1)):=fun zs e=>by
     have:=congrArg (List.drop 1) e;simpa [List.drop_drop,Nat.add_assoc] using this
    generalize hR:yq yp l (i+2+m)=R at *
    have hqn:=(zQc x y).symm;cases hb:(yp x y==0) with
    |true=>
     rw[hb] at hqn;rw[if_pos hb] at hsx;have hres:m<l.length∧i+1+(m+1+1)≤l.length∧∃zs:List Int,zs.length=l.length∧h.set id (.row (ys.map (D.int .i64)))=h.set id (.row (zs.map (D.int .i64)))∧
      (yq yp l (i+2+(m+1))).length≤i+1+(m+1)∧D.int .i64 ((R.length:Nat):Int)= .int .i64 (((yq yp l (i+2+(m+1))).length:Nat):Int)∧zs.take (yq yp l (i+2+(m+1))).length=yq yp l (i+2+(m+1))∧zs.drop (i+1+(m+1))=l.drop (i+1+(m+1)):=
      ⟨by omega,by omega,ys,hyl,rfl,by rw[hsx];omega,by rw[hsx],by rw[hsx];exact hyt,hyd2 _ hyd⟩
     clear hyt hyd hyd2 hsx g1 g2 hx hy hR hcl hb
     repeat' first|simp only[go_sem,zEz, *]|apply bc<;>intro hc
     refine zQ (by kernel_rfl) ?_
     repeat' first|simp only[go_sem,zEz, *]|apply bc<;>intro hc
    |false=>
     rw[hb] at hqn;rw[if_neg (by rw[hb];exact Bool.false_ne_true)] at hsx;have hRl:R.length<l.length:=by omega
     have a3:=zh (P:=Tryz.prog) (sz:=1) (id:=id) yF wL (k:= .i64) hRl;rw[Nat.mul_one] at a3;have hst:zU Tryz.prog 3 (.ptr id R.length) (.int .i64 x) (h.set id (.row (ys.map (D.int .i64))))=some (h.set id (.row ((ys.set R.length x).map (D.int .i64)))):=by
      rw[za hrow2 wL (by rw[List.length_map,hyl];exact hRl) rfl rfl,zEL,List.map_set]
     have ew3:IntKind.i64.wrap (((R.length:Nat):Int)+1)=((R.length+1:Nat):Int):=ze (by unfold lim;omega);have hres:m<l.length∧i+1+(m+1+1)≤l.length∧∃zs:List Int,zs.length=l.length∧h.set id (.row ((ys.set R.length x).map (D.int .i64)))=h.set id (.row (zs.map (D.int .i64)))∧
      (yq yp l (i+2+(m+1))).length≤i+1+(m+1)∧D.int .i64 ((R.length+1:Nat):Int)= .int .i64 (((yq yp l (i+2+(m+1))).length:Nat):Int)∧zs.take (yq yp l (i+2+(m+1))).length=yq yp l (i+2+(m+1))∧zs.drop (i+1+(m+1))=l.drop (i+1+(m+1)):=by
      have hRn:(R++ [x]).length=R.length+1:=by simp
      refine⟨by omega,by omega,ys.set R.length x,by simpa using hyl,rfl,by rw[hsx,hRn];omega,by rw[hsx,hRn],?_,?_⟩
      ·rw[hsx,hRn,List.take_succ_eq_append_getElem (by rw[List.length_set];omega),List.getElem_set_self,List.take_set_of_le (Nat.le_refl _),hyt]
      ·rw[List.drop_set_of_lt (by omega)];exact hyd2 _ hyd
     clear hyt hyd hyd2 hsx g1 g2 hx hy hR hcl hb
     repeat' first|simp only[go_sem,zEz, *]|apply bc<;>intro hc
     refine zQ (by kernel_rfl) ?_
     repeat' first|simp only[go_sem,zEz, *]|apply bc<;>intro hc
   ·have e1:decide (((m+1:Nat):Int)<((l.length- (i+1):Nat):Int))=false:=decide_eq_false (by omega);have hme:i+2+m=l.length:=by omega
    have hce:yq yp l (i+2+m)=cpt yp l:=by rw[hme];rfl
    rw[hce] at hyt f3 hcl;have hcle:(cpt yp l).length≤l.length:=zBh _;have hsl:∀H:Heap,yX Tryz.prog 31 (.rs id 1 0 l.length) (some (.int .i64 (((cpt yp l).length:Nat):Int))) none none H=some (.rs id 1 (cpt yp l).length (l.length- (cpt yp l).length)):=fun H=>by
     have:=wm (P:=Tryz.prog) (t:=31) (sz:=1) (id:=id) (h:=H) zN1 yF wL (k:= .i64) hcle;rw[Nat.mul_one] at this;exact this
    have hsh:=fun(H:Heap)=>zAi (P:=Tryz.prog) (t:=31) (h:=H) zN1 yF (id:=id) (sz:=1) wL (k:= .i64) hcle;obtain⟨rest,hclr⟩:=zIJ (P:=Tryz.prog) (sz:=1) (t:=31) (xs:=wT ys) yF zAQ rfl rfl (by rw[zFO];exact hrow2) zId (n:=(cpt yp l).length) (by rw[yo];omega);have htk:((wT ys).take (cpt yp l).length).flatten=(cpt yp l).map (D.int .i64):=by rw[wT,←List.map_take,hyt];exact zFO _
    rw[htk,zEL,yo,hyl,Nat.mul_one] at hclr;have hfin:=hQ (.rs id 1 0 (cpt yp l).length) (h.set id (.row ((cpt yp l).map (D.int .i64)++rest))) ⟨rfl,rest,rfl⟩;clear hyt hyd hme hce htk hQ
    repeat' first|simp only[go_sem,zEz, *]|apply bc<;>intro hc
 ·have e1:decide (((i+1:Nat):Int)<(l.length:Int))=false:=decide_eq_false (by omega);have hd:=hdone fun j h1 h2=>hj j h1 (by omega);clear hj hdone hsame q1 h0 hQ
  repeat' first|simp only[go_sem,zEz, *]|apply bc<;>intro hc
theorem zat (l:List Int):(l.mergeSort fun x y=>decide (x≤y))=srt yp l:=by
 unfold srt;congr 1
 funext a b
 unfold yp;by_cases h:a≤b
 ·rw[decide_eq_true h];have h1:¬b<a:=by omega
  rw[if_neg h1];split<;>simp
 ·rw[decide_eq_false h];have h1:b<a:=by omega
  rw[if_pos h1];rfl
def zEU (l:List Int):List Int:=cpt yp (srt yp l)
theorem zXE {l:List Int} (h0:l≠[]) (hl:l.length≤1048576) (tk:Tk) (h:Heap):zA Tryz.prog 109 [.sl 1 (wT l) tk] h fun r h'=>r= .rs h.next 1 0 l.length∧h'=h.new h.next (.row (l.map (D.int .i64))):=by
 have hpos:0<l.length:=List.length_pos_iff.2 h0;have hn:zCl Tryz.prog .eql 31 true (.sl 1 (wT l) tk) .nilsl=some (.bool false):=by rw[qi (zX.mk tk) Tryz.underlying31];rfl
 have hz:=fun nid h=>qK (P:=Tryz.prog) (nid:=nid) (h:=h) yF zAQ wL rfl rfl (by omega:0<1);have hap:z6 Tryz.prog true h.next 31 (.sl 1 [] .full) (.sl 1 (wT l) tk) h=some (.rs h.next 1 0 l.length,h.new h.next (.row (l.map (D.int .i64)))):=by
  rw[zA2 yF zSh wL (by omega) zId (by rw[zGt,yo];unfold lim;omega) (by rw[yo];unfold lim;omega),yo,if_neg (by omega),zRC Tryz.underlying3,zFO]
 refine zA.of_fn (g:=zPu) mix Tryz.func109 zd3 rfl rfl ?_;simp only[Tryz.f109,gJ];simp only[qR,go_sem,ziA,hn,hz,hap]
theorem zau {l:List Int} {id:Nat} {g:Heap} (h0:l≠[]) (hl:l.length≤1048576) (hrow:g.at' id=some (.row (l.map (D.int .i64)))):
  zA Tryz.prog 110 [.rs id 1 0 l.length] g fun r h'=>r= .tuple []∧h'=g.set id (.row ((srt yp l).map (D.int .i64))):=by
 have:=zA.of_sortI (P:=Tryz.prog) (f:=110) h0 (by kernel_rfl) hrow (by omega) (fun blk off cap zs w h1 h2 h3=>Tryz.slices_Sort_int blk off cap zs w h1 h2 h3);rw[zat] at this;exact this
theorem zOr {l:List Int} {id:Nat} {g:Heap} (h0:l≠[]) (hl:l.length≤1048576) (hrow:g.at' id=some (.row (l.map (D.int .i64)))):
  zA Tryz.prog 111 [.rs id 1 0 l.length] g fun r h'=>h'=g.del id∧r= .sl 1 (wT (cpt yp l)) .no:=
 zA.freezeD ((zRh h0 hl hrow).mono (by
  rintro r h' ⟨rfl,rest,rfl⟩;exact⟨id,_,zC _ _ _,by rw[zOh],zLF zId (yo _) (by rw[zFO])⟩))
def zI6 (num:Int) (ks:List Int):List D:=[.int .i64 num, .sl 1 (wT (zEU ks)) .no]
theorem zQd (num:Int) (ks:List (List Int)):∀c∈ks.map (zI6 num),c.length=2:=fun c hc=>by
 obtain⟨k,_,rfl⟩:=List.mem_map.1 hc;rfl
def zVI (h:Heap) (sz:Nat) (xs:List (List D)) (d:D):Prop:=(d= .nilsl∧xs= [])∨∃id,d= .rs id sz 0 xs.length∧h.at' id=some (.row xs.flatten)∧id<h.next∧xs≠[]
def zI7 (d:D) (i:Nat):Prop:=match d with
 | .rs id _ _ _=>i=id
 |_=>False
theorem zVI.loc {h h':Heap} {sz:Nat} {xs:List (List D)} {d:D} (ho:zVI h sz xs d) (hn:h.next≤h'.next) (hk:∀i,zI7 d i→h'.at' i=h.at' i):zVI h' sz xs d:=by
 rcases ho with h1| ⟨t,rfl,h1,h2⟩
 ·exact .inl h1
 ·exact .inr ⟨t,rfl,by rw[hk t rfl];exact h1,by omega,h2.2⟩
theorem zVI.app {P:Program} {h:Heap} {sz nid:Nat} {xs ys:List (List D)} {d:D} {tk:Tk} {t e:TypeId} (ho:zVI h sz xs d) (he:qE P t=some e) (hz:zHE P e=true) (hs:szT P e=sz) (h0:0<sz) (hr:∀cs,zAE P e cs= .row cs) (hxs:∀y∈xs,y.length=sz) (hys:∀y∈ys,y.length=sz) (hy0:ys≠[])
  (hb:(xs.length+ys.length)*yR P e≤lim) (hl:xs.length+ys.length≤lim):∃g:Heap,z6 P true nid t d (.sl sz ys tk) h=some (.rs nid sz 0 (xs++ys).length,g.new nid (.row (xs++ys).flatten))∧g.next=h.next∧(∀i,¬zI7 d i→g.at' i=h.at' i):=by
 have hfl:ys.flatten.length=ys.length*sz:=yy hys;have hlen:0<ys.length:=List.length_pos_iff.2 hy0;simp only[z6,he,hz,hs,zR0,if_true,hfl,Nat.mul_div_cancel _ h0];rcases ho with⟨rfl,rfl⟩ | ⟨id,rfl,h1,h2⟩
 ·refine⟨h,?_,rfl,fun _ _=>rfl⟩;simp only[qN];rw[if_neg (by omega),if_pos (by simp only[Bool.and_eq_true,decide_eq_true_eq];simp only[List.length_nil,Nat.zero_add] at hb hl;exact⟨hb,hl⟩)];simp[hr]
 ·refine⟨h.del id,?_,rfl,fun i hi=>yv fun e=>hi (by rw[e];rfl)⟩;have hf2:xs.flatten.length=xs.length*sz:=yy hxs;simp only[qN,Bool.true_and,decide_true];rw[if_pos (by simp only[Bool.and_eq_true,decide_eq_true_eq];exact⟨hb,hl⟩)];simp only[h1,hf2,if_true];simp
theorem zVI.trunc {h:Heap} {sz:Nat} {xs:List (List D)} {d:D} (ho:zVI h sz xs d) (hx:∀x∈xs,x.length=sz) (x:D):qR d x h=h:=by
 rcases ho with⟨rfl,_⟩ | ⟨id,rfl,hr,_⟩
 ·rfl
 ·have hf:xs.flatten.length=xs.length*sz:=yy hx;cases x<;>simp[qR,hr,hf]
def YVf (num:Int) (fn:D) (nl nr:Nat) (ks:List (List Int)) (S:Nat→Prop) (h:Heap):Prop:=
 nl<h.next∧nr<h.next∧nl≠nr∧h.at' nr=some (.row [.int .i64 num,fn])∧∃d,h.at' nl=some (.row [d])∧zVI h 2 (ks.map (zI6 num)) d∧¬zI7 d nl∧¬zI7 d nr∧∀i,S i↔(i=nl∨i=nr∨zI7 d i)
set_option maxHeartbeats 2000000 in
theorem zav {num:Int} {fn:D} {nl nr:Nat} {ks:List (List Int)} (hks:ks.length<16777216) {S:Nat→Prop} {h:Heap} (hY:YVf num fn nl nr ks S h) {l:List Int} (l0:l≠[]) (hl:l.length≤5) (tk:Tk):
  zA Tryz.prog 108 [.sl 1 (wT l) tk, .ptr nl 0, .ptr nr 0] h fun _ h'=>∃S',(∀i,S' i→S i∨h.next≤i)∧But S h h'∧YVf num fn nl nr (ks++ [l]) S' h':=by
 obtain⟨y1,y2,y3,y4,d,y5,y6,y7,y8,y9⟩:=hY;have hcl:=zXE l0 (by omega) tk h;have hso:=zau l0 (by omega) (zJ h h.next (.row (l.map (D.int .i64))));have s0:srt yp l≠[]:=fun e=>l0 (List.length_eq_zero_iff.1 (by rw[←(qP (c:=yp) l).length_eq,e];rfl));have sl:(srt yp l).length=l.length:=(qP l).length_eq;have hco:=zOr s0 (by omega) (zC (h.new h.next (.row (l.map (D.int .i64)))) h.next (.row ((srt yp l).map (D.int .i64))));rw[sl] at hco;refine zA.of_fn (g:=zPl) mix Tryz.func108 zdo rfl rfl ?_;simp only[Tryz.f108,gJ]
 repeat' first|simp only[go_sem,zWD, *]|apply bc<;>intro hc
 refine hcl.mono ?_;rintro r h1 ⟨rfl,rfl⟩
 repeat' first|simp only[go_sem,zWD, *]|apply bc<;>intro hc
 refine hso.mono ?_;rintro r h1 ⟨rfl,rfl⟩;obtain⟨h0,e1,e2,e3⟩:∃h0:Heap,h0.at' nl=some (.row [d])∧h0.at' nr=some (.row [.int .i64 num,fn])∧∀i ob,h0.at' i=some ob→(i=nl∨i=nr)∧h.at' i=some ob:=by
  refine⟨⟨h.next,fun i=>if i=nl∨i=nr then h.at' i else none⟩,by simp[y5],by simp[y4],fun i ob e=> ?_⟩
  simp only at e;split at e
  ·exact⟨‹_›,e⟩
  ·cases e
 obtain⟨H1,hH1,hle1⟩:∃H1,(h.new h.next (.row (l.map (D.int .i64)))).set h.next (.row ((srt yp l).map (D.int .i64)))=H1∧HLe h0 H1:=⟨_,rfl,fun i ob e=>by
  obtain⟨g1,g2⟩:=e3 i ob e;have hne:i≠h.next:=by rcases g1 with rfl|rfl<;>omega
  rw[zE hne,zG hne];exact g2⟩
 have hnx:(H1.del h.next).next=h.next+1:=by rw[←hH1];exact zD h (.row (l.map (D.int .i64)))
 have hke:∀i,i≠h.next→(H1.del h.next).at' i=h.at' i:=fun i hi=>by rw[←hH1,yv hi,zE hi,zG hi]
 have hle2:HLe h0 (H1.del h.next):=fun i ob e=>by
  obtain⟨g1,g2⟩:=e3 i ob e;rw[hke _ (by rcases g1 with rfl|rfl<;>omega)];exact g2
 rw[hH1] at hco⊢;clear hcl hso hH1;have hb:yG Tryz.prog 33 [(0, .int .i64 num),(1, .sl 1 (wT (zEU l)) .no)]=some (.agg (zI6 num l)):=by
  simp[yG,zQ5,zKk,qZ,yW,zI6,D.cells,D.notTuple]
 have hbs:∀nid H,zM Tryz.prog false nid 45 1 [(0, .agg (zI6 num l))] H=some (.sl 2 [zI6 num l] .full,H):=fun nid H=>yg (x:= .agg (zI6 num l)) wM zKk zB6 rfl rfl (by omega) (by omega) rfl rfl;refine zz h0 [(0, .st,true),(1, .no,true),(2, .st,true),(3, .no,true),(4, .no,true),(5, .no,true),(6, .no,true),(7, .no,false),(8, .no,false)] (by kernel_rfl) (by kernel_rfl) hle1 ?_;simp only[go_sem,zWD,e1,e2,eq_true hle1];refine hco.mono ?_;rintro r h2 ⟨rfl,rfl⟩;generalize H1.del h.next=h2 at hnx hke hle2⊢;have y6':zVI h2 2 (ks.map (zI6 num)) d:=y6.loc (by omega) fun i hi=>by
  refine hke i ?_;rcases y6 with⟨rfl,_⟩ | ⟨id,rfl,_,hid,_⟩
  ·exact hi.elim
  ·simp only[zI7] at hi;omega
 have hkl:(ks.map (zI6 num)).length=ks.length:=List.length_map ..;obtain⟨g,hg1,hg2,hg3⟩:=zVI.app (nid:=h2.next) (tk:= .full) y6' wM zSi zB6 (by omega) (fun cs=>zA3 Tryz.underlying33) (zQd num ks) (ys:=[zI6 num l]) (by simp[zI6]) (by simp) (by rw[hkl,zMC];unfold lim;simp;omega) (by rw[hkl];unfold lim;simp;omega);have hmp:ks.map (zI6 num)++ [zI6 num l]=(ks++ [l]).map (zI6 num):=by simp
 rw[hmp] at hg1;have hnl:(g.new h2.next (.row ((ks++ [l]).map (zI6 num)).flatten)).at' nl=some (.row [d]):=by rw[zG (by omega),hg3 _ y7,hke _ (by omega),y5]
 have hstr:zU Tryz.prog 45 (.ptr nl 0) (.rs h2.next 2 0 ((ks++ [l]).map (zI6 num)).length) (g.new h2.next (.row ((ks++ [l]).map (zI6 num)).flatten))=some ((g.new h2.next (.row ((ks++ [l]).map (zI6 num)).flatten)).set nl (.row [.rs h2.next 2 0 ((ks++ [l]).map (zI6 num)).length])):=by
  rw[za hnl zXg (by simp) rfl rfl];rfl
 have hgn:(g.new h2.next (.row ((ks++ [l]).map (zI6 num)).flatten)).next=h.next+2:=by simp only[Heap.new];omega
 have htr:=y6'.trunc (zQd num ks);have hnorm:cpt yp (srt yp l)=zEU l:=rfl;simp only[go_sem,zWD,hnorm,hb,hbs,htr,hg1,hstr,eq_true hle2];refine⟨fun i=>i=nl∨i=nr∨i=h2.next,fun i hi=> ?_,⟨by simp only[zt];omega,fun i hi hn=> ?_⟩,by simp only[zt];omega,by simp only[zt];omega,y3,?_,_,zC _ _ _, .inr ⟨h2.next,rfl,?_,?_,by simp⟩,?_,?_,fun i=>Iff.rfl⟩
 ·rcases hi with rfl|rfl|rfl
  ·exact .inl (.inl rfl)
  ·exact .inl (.inr (.inl rfl))
  ·exact .inr (by omega)
 ·have n1:i≠nl:=fun e=>hn ((y9 i).2 (.inl e));have n2:¬zI7 d i:=fun e=>hn ((y9 i).2 (.inr (.inr e)));rw[zE n1,zG (by omega),hg3 _ n2,hke _ (by omega)]
 ·rw[zE (Ne.symm y3),zG (by omega),hg3 _ y8,hke _ (by omega),y4]
 ·rw[zE (by omega),zJ]
 ·simp only[zt];omega
 ·simp only[zI7];omega
 ·simp only[zI7];omega
theorem zXF {num:Int} {fn:D} {nl nr:Nat} :Fnd2 Tryz.prog 5 108 [.ptr nl 0, .ptr nr 0] (YVf num fn nl nr):=by
 refine⟨fun ks S h hy i hi=> ?_,fun ks S h h' hy hn hk=> ?_,fun ks S h l tk hy hl h0 h8 hft=> ?_⟩
 ·obtain⟨y1,y2,y3,y4,d,y5,y6,y7,y8,y9⟩:=hy;rcases(y9 i).1 hi with rfl|rfl|hi
  ·exact y1
  ·exact y2
  ·rcases y6 with⟨rfl,_⟩ | ⟨id,rfl,_,hid,_⟩
   ·exact hi.elim
   ·simp only[zI7] at hi;omega
 ·obtain⟨y1,y2,y3,y4,d,y5,y6,y7,y8,y9⟩:=hy;exact⟨by omega,by omega,y3,by rw[hk nr ((y9 _).2 (.inr (.inl rfl)))];exact y4,d,by rw[hk nl ((y9 _).2 (.inl rfl))];exact y5,y6.loc hn fun i hi=>hk i ((y9 i).2 (.inr (.inr hi))),y7,y8,y9⟩
 ·exact zav hl hy (List.length_pos_iff.1 h0) h8 tk
open Go.Proofs Go.Shelf Go.Sort
theorem zfP {l m:List Int} {d e:D} (hd:zX 1 (wT l) d) (he:zX 1 (wT m) e) (hl:l.length≤1048576) (g:Heap):zA Tryz.prog 114 [d,e] g fun r h'=>h'=g∧r= .int .i64 (qj l m):=by
 have hll:=zAb hd;have hml:=zAb he;obtain⟨q1,q2,_⟩:=zK hd;obtain⟨q3,q4,_⟩:=zK he;refine zA.of_fn (g:=zPm) mix Tryz.func114 zdp rfl rfl ?_;simp only[Tryz.f114,gJ]
 repeat' first|simp only[go_sem,zOC, *]|apply bc<;>intro hc
 refine z7 (fun i fr h'=>fr 0=d∧fr 1=e∧fr 9=d∧fr 10= .int .i64 l.length∧fr 11= .int .i64 (i:Int)∧h'=g∧i≤m.length∧qj (l.drop i) (m.drop i)=qj l m) l.length ?_ ?_
 ·simp only[go_sem,zOC,true_and,and_true,Int.ofNat_zero];exact⟨Nat.zero_le _,rfl⟩
 rintro i fr h' hi ⟨f0,f1,f9,f10,f11,rfl,him,ho⟩;by_cases hlt:i<l.length
 ·have e1:decide ((i:Int)<(l.length:Int))=true:=decide_eq_true (by omega);have a1:=zCU hd hlt;by_cases hge:i≥m.length
  ·have e2:decide ((i:Int)≥(m.length:Int))=true:=decide_eq_true (by omega);have hr:qj l m=1:=by
    rw[List.drop_eq_getElem_cons hlt,List.drop_eq_nil_of_le hge] at ho;rw[←ho];rfl
   rw[hr];clear ho hr him hge
   repeat' first|simp only[go_sem,zOC, *]|apply bc<;>intro hc
  ·have e2:decide ((i:Int)≥(m.length:Int))=false:=decide_eq_false (by omega);have hmlt:i<m.length:=by omega
   have a2:=zCU he hmlt;rw[zT9 hlt hmlt] at ho;simp only[List.getD_eq_getElem?_getD,List.getElem?_eq_getElem hlt,List.getElem?_eq_getElem hmlt,Option.getD_some] at ho;have hc:=zH6 l[i] m[i] h';have ew:IntKind.i64.wrap ((i:Int)+1)=((i+1:Nat):Int):=ze (by unfold lim;omega);generalize hz:yp l[i] m[i]=z at *
   cases hb:(z==0) with
   |true=>
    have h0:z=0:=by simpa using hb
    rw[if_pos h0] at ho;have hfin:i<l.length∧i+1≤m.length∧qj (l.drop (i+1)) (m.drop (i+1))=qj l m:=⟨hlt,hmlt,ho⟩;clear ho him hge hz h0
    repeat' first|simp only[go_sem,zOC, *]|apply bc<;>intro hc|(refine zA.mono hc ?_;rintro r h ⟨hq,rfl⟩)
   |false=>
    have h0:¬z=0:=by simpa using hb
    rw[if_neg h0] at ho;rw[←ho];clear ho him hge hz h0
    repeat' first|simp only[go_sem,zOC, *]|apply bc<;>intro hc|(refine zA.mono hc ?_;rintro r h ⟨rfl,rfl⟩)
 ·have e1:decide ((i:Int)<(l.length:Int))=false:=decide_eq_false (by omega);have hie:l.length≤i:=by omega
  rw[List.drop_eq_nil_of_le hie] at ho;cases hlm:decide ((l.length:Int)<(m.length:Int)) with
  |true=>
   have hlm':=of_decide_eq_true hlm;have hr:qj l m= -1:=by
    rw[List.drop_eq_getElem_cons (show i<m.length by omega)] at ho;rw[←ho];rfl
   rw[hr];clear ho hr him hie
   repeat' first|simp only[go_sem,zOC, *]|apply bc<;>intro hc
  |false=>
   have hlm':=of_decide_eq_false hlm;have hr:qj l m=0:=by
    rw[List.drop_eq_nil_of_le (by omega)] at ho;rw[←ho];rfl
   rw[hr];clear ho hr him hie
   repeat' first|simp only[go_sem,zOC, *]|apply bc<;>intro hc
structure Vio where
 row:Int
 facts:List Int
def Vio.Is (v:Vio) (cs:List D):Prop:=∃d,cs= [.int .i64 v.row,d]∧zX 1 (wT v.facts) d∧v.facts.length≤1048576
def zNK (v w:Vio):Int:=orL [yp v.row w.row,qj v.facts w.facts]
theorem zNL {v w:Vio} {cv cw:List D} (hv:v.Is cv) (hw:w.Is cw) (g:Heap):zA Tryz.prog 76 [.agg cv, .agg cw] g fun r h'=>h'=g∧r= .int .i64 (zNK v w):=by
 obtain⟨d,rfl,hd,hdl⟩:=hv;obtain⟨e,rfl,he,hel⟩:=hw;have h1:=zH6 v.row w.row;have h2:=zfP hd he hdl;have h3:=zev (l:=[yp v.row w.row,qj v.facts w.facts]) (zX.mk .full) (by simp);have hb:=bs2 (yp v.row w.row) (qj v.facts w.facts);obtain⟨q1,q2,_⟩:=zK hd;obtain⟨q3,q4,_⟩:=zK he;have hle:∀h:Heap,HLe h h:=fun _ _ _ e=>e;unfold zNK;refine zA.of_fn (g:=zVw) mix Tryz.func76 zjm rfl rfl ?_;simp only[Tryz.f76,gJ]
 repeat' first|simp only[go_sem,zjl, *]|apply bc<;>intro hc
 refine zz g [(0, .no,true),(1, .no,true),(2, .no,true),(3, .no,true),(5, .no,true),(6, .st,true),(7, .no,true),(8, .st,true),(4, .no,true),(9, .no,true),(10, .no,true),(11, .no,true),(12, .no,true)] (by kernel_rfl) (by kernel_rfl) (fun _ _ e=>e) ?_
 repeat' first|simp only[go_sem,zjl, *]|apply bc<;>intro hc|(refine zA.mono (h1 _) ?_;rintro r h ⟨rfl,rfl⟩)|(refine zA.mono (h2 _) ?_;rintro r h ⟨rfl,rfl⟩)|(refine zA.mono (h3 _) ?_;rintro r h ⟨rfl,rfl⟩)
theorem Vio.Is.two {v:Vio} {cv:List D} (hv:v.Is cv):zR true 2 cv 0=some (.agg cv):=by
 obtain⟨d,rfl,_⟩:=hv;exact zB rfl (by omega)
theorem zUv {v w:Vio} {cv cw:List D} (hv:v.Is cv) (hw:w.Is cw) (g:Heap):zA Tryz.prog 45 [.agg cv, .agg cw] g fun r h'=>h'=g∧r= .bool (zNK v w==0):=by
 have hc:=zNL hv hw;have h1:=Vio.Is.two hv;have h2:=Vio.Is.two hw;refine zA.of_fn (g:=zVo) mix Tryz.func45 zjc rfl rfl ?_;simp only[Tryz.f45,gJ]
 repeat' first|simp only[go_sem,zkf, *]|apply bc<;>intro hc|(refine zA.mono (hc _) ?_;rintro r h ⟨rfl,rfl⟩)
theorem zCh:∀a b:List Int,qj a b=zGR yp a b
 | [],[]=>rfl
 | [],_::_=>rfl
 |_::_,[]=>rfl
 |x::xs,y::ys=>by
  simp only[qj,zGR,zMv,zCh xs ys]
theorem zOs:QC qj:=by
 have:=zIP.list;exact⟨fun x y=>by rw[zCh,zCh];exact this.anti x y,fun x y z=>by rw[zCh,zCh,zCh];exact this.trans x y z⟩
theorem zOt (x y:List Int) (h:qj x y=0):x=y:=by
 rw[zCh] at h;exact zLC zUZ _ _ h
def zRz (num:Int) (x:List Int):List D:=[.int .i64 num, .sl 1 (wT x) .no]
def vbs (num:Int) (l:List (List Int)):List (List D):=l.map (zRz num)
theorem wq (num:Int) (l:List (List Int)):(vbs num l).length=l.length:=List.length_map ..
theorem zDR (num:Int) (l:List (List Int)):∀x∈vbs num l,x.length=2:=fun x hx=>by
 obtain⟨y,_,rfl⟩:=List.mem_map.1 hx;rfl
theorem zLU (num:Int) {x:List Int} (h:x.length≤1048576):(Vio.mk num x).Is (zRz num x):=⟨_,rfl,zX.mk .no,h⟩
theorem zNM (num:Int) (x y:List Int):zNK ⟨num,x⟩ ⟨num,y⟩ =qj x y:=by
 have h:yp num num=0:=zIP.refl num;simp only[zNK,orL,h,if_true];split
 ·rename_i q;exact q.symm
 ·rfl
theorem zaw {num:Int} {l:List (List Int)} {id:Nat} {g:Heap} (h0:l≠[]) (hl:l.length≤16777216) (hle:∀x∈l,x.length≤1048576) (hrow:g.at' id=some (.row (vbs num l).flatten)):
  zA Tryz.prog 112 [.rs id 2 0 l.length, .fn (.func 76) [] []] g fun r h'=>r= .tuple []∧h'=g.set id (.row (vbs num (srt qj l)).flatten):=by
 have:=zA.of_sortK (P:=Tryz.prog) (f:=112) (cmp:=76) (k:=2) (cells:=zRz num) (xs:=l) (id:=id) (pre:=[]) (post:=[]) (h:=g) (cf:=qj) (mid:=[]) (midV:=[]) (fun M ρ vs h=>by simpa [zw] using h) h0 (by omega) (fun x hx=>rfl) (by kernel_rfl) (enters_of Tryz.func76 (by kernel_rfl) rfl) (by simpa [vbs] using hrow) zOs.swo (by omega)
  (fun x hx y hy H=>by have:=zNL (zLU num (hle x hx)) (zLU num (hle y hy)) H;rw[zNM] at this;exact this) (fun α _ enc h1 h2 cf hO g cb blk off cap d w hg hc hH hb hs hd=>AnyQ.slices_SortFunc Tryz.sortVio 2 (Tryz.isAgg33) (Tryz.sizeOf33) enc h1 h2 cf hO g cb blk off cap d w hg hc hH hb hs)
 refine this.mono fun r h' ⟨e1,ys,hp,hs,e2⟩=>⟨e1,?_⟩;rw[e2,zQP zOs zOt hp hs];simp[vbs]
theorem zBy {α:Type} {f:α→List D} {p:α→Prop} :∀ {ys:List (List D)},(∀y∈ys,∃s,y=f s∧p s)→∃l:List α,ys=l.map f∧∀s∈l,p s
 | [],_=>⟨[],rfl,fun n hn=>by cases hn⟩
 |y::ys,h=>by
  obtain⟨n,rfl,hn⟩:=h y (by simp);obtain⟨ks,rfl,hk⟩:=zBy (ys:=ys) fun z hz=>h z (List.mem_cons_of_mem _ hz);exact⟨n::ks,rfl,fun m hm=>by
   rcases List.mem_cons.1 hm with rfl|hm
   ·exact hn
   ·exact hk m hm⟩
theorem zQe {k:Nat} {c:List D} (h:Shp Tryz.prog k 40 c):∃d l,c= [d]∧zX 1 (yP l) d∧l.length≤1048576:=by
 obtain⟨d,xs,j,e,hj,hs,_,hl,hx⟩:=zE5 Tryz.underlying40 zAh h;obtain⟨l,rfl,hk⟩:=zBy (f:=fun s:List UInt8=>[D.str s]) fun y hy=>zAT Tryz.underlying9 (hx y hy);rw[List.length_map] at hl;exact⟨d,l,e,hs,hl⟩
theorem zXG {k:Nat} {c:List D} (h:Shp Tryz.prog k 31 c):∃d l,c= [d]∧zX 1 (wT l) d∧l.length≤1048576:=by
 obtain⟨d,xs,j,e,hj,hs,_,hl,hx⟩:=zE5 Tryz.underlying31 wL h;obtain⟨l,rfl,hk⟩:=zBy (f:=fun s:Int=>[D.int .i64 s]) fun y hy=>zBR Tryz.underlying3 (hx y hy);rw[List.length_map] at hl;exact⟨d,l,e,hs,hl⟩
theorem zax {k:Nat} {c:List D} (h:Shp Tryz.prog k 124 c):∃n:Lic,c=n.cells∧n.Sm:=by
 obtain⟨j,_,hf⟩:=zAU Tryz.underlying124 h;obtain⟨c1,r1,rfl,h1,hf⟩:=zg hf;obtain⟨c2,r2,rfl,h2,hf⟩:=zg hf;obtain⟨c3,r3,rfl,h3,hf⟩:=zg hf;obtain⟨c4,r4,rfl,h4,hf⟩:=zg hf;obtain rfl:=zCQ hf;obtain⟨s1,rfl,b1⟩:=zAT Tryz.underlying9 h1;obtain⟨s2,rfl,b2⟩:=zAT Tryz.underlying9 h2;obtain⟨s3,rfl,b3⟩:=zBR Tryz.underlying3 h3;obtain⟨s4,rfl,b4⟩:=zAT Tryz.underlying9 h4;exact⟨⟨s1,s2,s3,s4⟩,rfl,b1,b2,b4⟩
theorem zay {k:Nat} {c:List D} (h:Shp Tryz.prog k 129 c):∃n:Exc,c=n.cells∧n.Ok:=by
 obtain⟨j,_,hf⟩:=zAU Tryz.underlying129 h;obtain⟨c1,r1,rfl,h1,hf⟩:=zg hf;obtain⟨c2,r2,rfl,h2,hf⟩:=zg hf;obtain⟨c3,r3,rfl,h3,hf⟩:=zg hf;obtain rfl:=zCQ hf;obtain⟨s1,rfl,b1⟩:=zAT Tryz.underlying9 h1;obtain⟨s2,rfl,b2⟩:=zAT Tryz.underlying9 h2;obtain⟨d,l,rfl,i3,b3⟩:=zXG h3;exact⟨⟨s1,s2,l,d⟩,rfl,i3,b3,b1⟩
theorem zaz {k:Nat} {c:List D} (h:Shp Tryz.prog k 92 c):∃n:Cla,c=n.cells∧n.Ok:=by
 obtain⟨j,_,hf⟩:=zAU Tryz.underlying92 h;obtain⟨c1,r1,rfl,h1,hf⟩:=zg hf;obtain⟨c2,r2,rfl,h2,hf⟩:=zg hf;obtain⟨c3,r3,rfl,h3,hf⟩:=zg hf;obtain⟨c4,r4,rfl,h4,hf⟩:=zg hf;obtain⟨c5,r5,rfl,h5,hf⟩:=zg hf;obtain rfl:=zCQ hf;obtain⟨s1,rfl,b1⟩:=zAT Tryz.underlying9 h1;obtain⟨s2,rfl,b2⟩:=zBR Tryz.underlying3 h2;obtain⟨s3,rfl,b3⟩:=zBR Tryz.underlying3 h3;obtain⟨s4,rfl,b4⟩:=zBR Tryz.underlying3 h4;obtain⟨d,l,rfl,i5,b5⟩:=zQe h5;exact⟨⟨s1,s2,s3,s4,l,d⟩,rfl,i5,b5⟩
theorem za0 {k:Nat} {c:List D} (h:Shp Tryz.prog k 135 c):∃n:Apt,c=n.cells∧True:=by
 obtain⟨j,_,hf⟩:=zAU Tryz.underlying135 h;obtain⟨c1,r1,rfl,h1,hf⟩:=zg hf;obtain⟨c2,r2,rfl,h2,hf⟩:=zg hf;obtain rfl:=zCQ hf;obtain⟨s1,rfl,b1⟩:=zAT Tryz.underlying9 h1;obtain⟨s2,rfl,b2⟩:=zAT Tryz.underlying9 h2;exact⟨⟨s1,s2⟩,rfl,trivial⟩
theorem za1 {k:Nat} {c:List D} (h:Shp Tryz.prog k 27 c):∃n:Cat,qX n (.agg c)∧n.Sm:=by
 obtain⟨j,_,hf⟩:=zAU Tryz.underlying27 h;obtain⟨c1,r1,rfl,h1,hf⟩:=zg hf;obtain⟨c2,r2,rfl,h2,hf⟩:=zg hf;obtain⟨c3,r3,rfl,h3,hf⟩:=zg hf;obtain⟨c4,r4,rfl,h4,hf⟩:=zg hf;obtain rfl:=zCQ hf;obtain⟨d1,x1,j1,rfl,_,i1,_,b1,h1⟩:=zE5 Tryz.underlying22 zCO h1;obtain⟨d2,x2,j2,rfl,_,i2,_,b2,h2⟩:=zE5 Tryz.underlying23 zHk h2;obtain⟨d3,x3,j3,rfl,_,i3,_,b3,h3⟩:=zE5 Tryz.underlying24 zGH h3;obtain⟨d4,x4,j4,rfl,_,i4,_,b4,h4⟩:=zE5 Tryz.underlying25 zKm h4;obtain⟨l1,rfl,k1⟩:=zBy fun y hy=>zax (h1 y hy);obtain⟨l2,rfl,k2⟩:=zBy fun y hy=>zay (h2 y hy);obtain⟨l3,rfl,k3⟩:=zBy fun y hy=>zaz (h3 y hy)
 obtain⟨l4,rfl,k4⟩:=zBy fun y hy=>za0 (h4 y hy);rw[List.length_map] at b1 b2 b3 b4;exact⟨⟨l1,l2,l3,l4⟩,⟨d1,d2,d3,d4,rfl,i1,i2,i3,i4⟩,⟨b1,k1⟩,⟨b2,k2⟩,⟨b3,k3⟩,b4⟩
theorem zYe:∀ {l:List Ex},(∀e∈l,e.Ok)→okL l
 | [],_=>by simp only[okL]
 |e::l,h=>by simp only[okL];exact⟨h e (by simp),zYe fun x hx=>h x (List.mem_cons_of_mem _ hx)⟩
theorem zfQ (k:Nat):∀ {c:List D},Shp Tryz.prog k 85 c→∃e:Ex,c=e.cells∧e.Ok:=by
 induction k using Nat.strongRecOn with
 |_ k ih=>
 intro c h;obtain⟨j,hj,hf⟩:=zAU Tryz.underlying85 h;obtain⟨c1,r1,rfl,h1,hf⟩:=zg hf;obtain⟨c2,r2,rfl,h2,hf⟩:=zg hf;obtain⟨c3,r3,rfl,h3,hf⟩:=zg hf;obtain⟨c4,r4,rfl,h4,hf⟩:=zg hf;obtain rfl:=zCQ hf;obtain⟨s1,rfl,b1⟩:=zBR Tryz.underlying3 h1;obtain⟨s2,rfl,b2⟩:=zAT Tryz.underlying9 h2;obtain⟨s3,rfl,b3⟩:=zAT Tryz.underlying9 h3;obtain⟨d4,x4,m,rfl,hm,i4,_,b4,h4⟩:=zE5 Tryz.underlying83 zSk h4;obtain⟨l,rfl,kl⟩:=zBy fun y hy=>ih m (by omega) (h4 y hy);rw[List.length_map] at b4;exact⟨.mk s1 s2 s3 l d4,rfl,by simp only[Ex.Ok];exact⟨i4,b4,b2,b3,zYe kl⟩⟩
theorem za2 {k:Nat} {c:List D} (h:Shp Tryz.prog k 87 c):∃f:Fac,c=f.cells∧f.Ok0:=by
 obtain⟨j,_,hf⟩:=zAU Tryz.underlying87 h;obtain⟨c1,r1,rfl,h1,hf⟩:=zg hf;obtain⟨c2,r2,rfl,h2,hf⟩:=zg hf;obtain⟨c3,r3,rfl,h3,hf⟩:=zg hf;obtain⟨c4,r4,rfl,h4,hf⟩:=zg hf;obtain⟨c5,r5,rfl,h5,hf⟩:=zg hf;obtain⟨c6,r6,rfl,h6,hf⟩:=zg hf;obtain⟨c7,r7,rfl,h7,hf⟩:=zg hf;obtain⟨c8,r8,rfl,h8,hf⟩:=zg hf;obtain⟨c9,r9,rfl,h9,hf⟩:=zg hf;obtain rfl:=zCQ hf;obtain⟨s1,rfl,b1⟩:=zBR Tryz.underlying3 h1;obtain⟨s2,rfl,b2⟩:=zAT Tryz.underlying9 h2;obtain⟨s3,rfl,b3⟩:=zAT Tryz.underlying9 h3;obtain⟨s4,rfl,b4⟩:=zBR Tryz.underlying3 h4;obtain⟨s5,rfl,b5⟩:=zBR Tryz.underlying3 h5;obtain⟨s6,rfl,b6⟩:=zBR Tryz.underlying3 h6
 obtain⟨s7,rfl⟩:=zQD Tryz.underlying4 h7;obtain⟨e,rfl,b8⟩:=zfQ _ h8;obtain⟨d,l,rfl,i9,b9⟩:=zQe h9;exact⟨⟨s1,s2,s3,s4,s5,s6,s7,e,l,d⟩,rfl,b8,i9,b9,b2,b3⟩
theorem zUw {k:Nat} {c:List D} (h:Shp Tryz.prog k 29 c):∃d fs,c= [d]∧zX 12 (zIH fs) d∧fs.length≤1048576∧(∀f∈fs,f.Ok0)∧∀f∈fs,qC f.cells:=by
 obtain⟨d,xs,j,e,hj,hs,_,hl,hx⟩:=zE5 Tryz.underlying29 zSl h;obtain⟨l,rfl,hk⟩:=zBy (f:=Fac.cells) (p:=fun f=>f.Ok0∧qC f.cells) fun y hy=>by
  obtain⟨f,hf,ho⟩:=za2 (hx y hy);exact⟨f,hf,ho,by rw[←hf];exact zB8 _ _ _ (hx y hy)⟩
 rw[List.length_map] at hl;exact⟨d,l,e,hs,hl,fun f hf=>(hk f hf).1,fun f hf=>(hk f hf).2⟩
set_option maxHeartbeats 4000000 in
theorem zRi {num:Int} {l:List (List Int)} {id:Nat} {g:Heap} (h0:l≠[]) (hl:l.length≤16777216) (hle:∀x∈l,x.length≤1048576) (hrow:g.at' id=some (.row (vbs num l).flatten)):
  zA Tryz.prog 113 [.rs id 2 0 l.length, .fn (.func 45) [] []] g fun r h'=>r= .rs id 2 0 (cpt qj l).length∧∃rest,h'=g.set id (.row ((vbs num (cpt qj l)).flatten++rest)):=by
 have hlen:=fun(h:Heap)=>zBP (P:=Tryz.prog) (t:=45) (sz:=2) (id:=id) (off:=0) (len:=l.length) (h:=h) Tryz.underlying45;have hpos:0<l.length:=List.length_pos_iff.2 h0;have heq:∀x∈l,∀y∈l,∀H,zA Tryz.prog 45 [.agg (zRz num x), .agg (zRz num y)] H fun r h'=>h'=H∧r= .bool (qj x y==0):=fun x hx y hy H=>by
  have:=zUv (zLU num (hle x hx)) (zLU num (hle y hy)) H;rw[zNM] at this;exact this
 have hsame:∀n,n≤l.length→(∀i (h:i+1<l.length),i+1<n→(qj l[i+1] l[i]==0)=false)→yq qj l n=l.take n:=fun n hn hh=>by
  induction n with
  |zero=>rfl
  |succ n ih=>
   cases n with
   |zero=>rw[zFH hpos,List.take_one];simp[List.head?_eq_getElem?,hpos]
   |succ k=>
    rw[zAk (by omega),if_neg (by rw[hh k (by omega) (by omega)];exact Bool.false_ne_true),ih (by omega) fun i h1 h2=>hh i h1 (by omega)];exact(List.take_succ_eq_append_getElem (by omega)).symm
 refine zA.post fun Q hQ=> ?_;have hdone:(∀i (h:i+1<l.length),i+1<l.length→(qj l[i+1] l[i]==0)=false)→Q (.rs id 2 0 l.length) g:=fun hh=>hQ _ _ (by
  have e:cpt qj l=l:=by
   have:=hsame l.length (Nat.le_refl _) hh;rw[List.take_length] at this;exact this
  rw[e];exact⟨rfl,[],by rw[List.append_nil,zBg hrow]⟩)
 refine zA.of_fn (g:=zML) mix Tryz.func113 zZo rfl rfl ?_;simp only[Tryz.f113,gJ];cases q1:decide ((l.length:Int)<2) with
 |true=>
  have hd:=hdone fun i h1 h2=>by have:=of_decide_eq_true q1;omega
  clear hdone hQ
  repeat' first|simp only[go_sem,zEE, *]|apply bc<;>intro hc
 |false=>
 repeat' first|simp only[go_sem,zEE, *]|apply bc<;>intro hc
 refine z7 (fun i fr h=>fr 0= .rs id 2 0 l.length∧fr 1= .fn (.func 45) [] []∧fr 5= .int .i64 ((i+1:Nat):Int)∧h=g∧i+1≤l.length∧∀j (h:j+1<l.length),j+1<i+1→(qj l[j+1] l[j]==0)=false) l.length ?_ ?_
 ·simp only[go_sem,zEE,true_and,and_true,Int.ofNat_zero];exact⟨rfl,hpos,fun j h1 h2=>by omega⟩
 rintro i fr k0 hi ⟨f0,f1,f5,rfl,hile,hj⟩;by_cases hlt:i+1<l.length
 ·have e1:decide (((i+1:Nat):Int)<(l.length:Int))=true:=decide_eq_true (by omega);have ew:IntKind.i64.wrap (((i+1:Nat):Int)+1)=((i+2:Nat):Int):=ze (by unfold lim;omega);have ew2:IntKind.i64.wrap (((i+1:Nat):Int)-1)=((i:Nat):Int):=by rw[zV (by omega) (by omega)];omega
  have a1:=zh (P:=Tryz.prog) (sz:=2) (id:=id) wM zB6 (k:= .i64) hlt;have a2:=zh (P:=Tryz.prog) (sz:=2) (id:=id) wM zB6 (k:= .i64) (show i<l.length by omega);have p1:=zBA (zDR num l) (by omega) (show(vbs num l)[i+1]? =some (zRz num l[i+1]) by simp[vbs,hlt]);have p2:=zBA (zDR num l) (by omega) (show(vbs num l)[i]? =some (zRz num l[i]) by simp[vbs,show i<l.length by omega]);have hq:=heq l[i+1] (List.getElem_mem hlt) l[i] (List.getElem_mem (by omega)) k0;cases hb:(qj l[i+1] l[i]==0) with
  |false=>
   rw[hb] at hq;have hn:∀j (h:j+1<l.length),j+1<i+2→(qj l[j+1] l[j]==0)=false:=fun j h1 h2=>by
    by_cases e:j=i
    ·subst e;exact hb
    ·exact hj j h1 (by omega)
   clear hj hdone hsame q1 h0 hb heq
   repeat' first|simp only[go_sem,zEE, *]|apply bc<;>intro hc
   refine zQ (by kernel_rfl) ?_
   repeat' first|simp only[go_sem,zEE, *]|apply bc<;>intro hc|(refine zA.mono hq ?_;rintro r h ⟨hq2,rfl⟩)
   exact⟨by omega,hlt,hn⟩
  |true=>
   rw[hb] at hq;have hcs:yq qj l (i+2)=l.take (i+1):=by
    rw[zAk hlt,if_pos hb,hsame (i+1) (by omega) fun j h1 h2=>hj j h1 h2]
   have hsl:=wm (P:=Tryz.prog) (t:=45) (sz:=2) (id:=id) (h:=k0) zN2 wM zB6 (k:= .i64) hile;clear hj hdone hsame q1 h0 hb
   repeat' first|simp only[go_sem,zEE, *]|apply bc<;>intro hc
   refine zQ (by kernel_rfl) ?_
   repeat' first|simp only[go_sem,zEE, *]|apply bc<;>intro hc|(refine zA.mono hq ?_;rintro r h ⟨hq2,rfl⟩)
   refine z7 (fun m fr h'=>fr 0= .rs id 2 0 l.length∧fr 1= .fn (.func 45) [] []∧fr 6= .rs id 2 ((i+1)*2) (l.length- (i+1))∧fr 7= .int .i64 ((m+1:Nat):Int)∧i+1+(m+1)≤l.length∧∃ys:List (List Int),ys.length=l.length∧h'=k0.set id (.row (vbs num ys).flatten)∧
    (yq qj l (i+2+m)).length≤i+1+m∧fr 5= .int .i64 (((yq qj l (i+2+m)).length:Nat):Int)∧ys.take (yq qj l (i+2+m)).length=yq qj l (i+2+m)∧ys.drop (i+1+m)=l.drop (i+1+m)) l.length ?_ ?_
   ·have hc1:(yq qj l (i+2)).length=i+1:=by rw[hcs,List.length_take];omega
    have hc2:yq qj l (i+2+0)=yq qj l (i+2):=rfl;have hres:i+1+(0+1)≤l.length∧∃ys:List (List Int),ys.length=l.length∧k0=k0.set id (.row (vbs num ys).flatten)∧
     (yq qj l (i+2+0)).length≤i+1+0∧D.int .i64 ((i+1:Nat):Int)= .int .i64 (((yq qj l (i+2+0)).length:Nat):Int)∧ys.take (yq qj l (i+2+0)).length=yq qj l (i+2+0)∧ys.drop (i+1+0)=l.drop (i+1+0):=
     ⟨by omega,l,rfl,(zBg hrow).symm,by rw[hc2,hc1];omega,by rw[hc2,hc1],by rw[hc2,hc1,hcs],rfl⟩
    clear hc1 hc2 hcs;simp only[go_sem,zEE,true_and,and_true,Int.ofNat_zero];obtain⟨r0,ys,r1,r2,r3,r4,r5,r6⟩:=hres;exact⟨f0,f1,rfl,r0,ys,r1,r2,r3,f5.trans r4,r5,r6⟩
   clear hcs hsl hq p1 p2 a1 a2 f0 f1 f5 e1 ew ew2;rintro m fr2 h2 hm ⟨f0,f1,f6,f7,hml,ys,hyl,rfl,hcl,f5,hyt,hyd⟩;have hrow2:(k0.set id (.row (vbs num ys).flatten)).at' id=some (.row (vbs num ys).flatten):=zC _ _ _;have hlen2:=fun(H:Heap)=>zBP (P:=Tryz.prog) (t:=45) (sz:=2) (id:=id) (off:=(i+1)*2) (len:=l.length- (i+1)) (h:=H) Tryz.underlying45;by_cases hlt2:m+1<l.length- (i+1)
   ·have e1:decide (((m+1:Nat):Int)<((l.length- (i+1):Nat):Int))=true:=decide_eq_true (by omega);have ew:IntKind.i64.wrap (((m+1:Nat):Int)+1)=((m+2:Nat):Int):=ze (by unfold lim;omega);have ew2:IntKind.i64.wrap (((m+1:Nat):Int)-1)=((m:Nat):Int):=by rw[zV (by omega) (by omega)];omega
    have a1:=qp (P:=Tryz.prog) (sz:=2) (id:=id) (off:=(i+1)*2) wM zB6 (k:= .i64) hlt2;have a2:=qp (P:=Tryz.prog) (sz:=2) (id:=id) (off:=(i+1)*2) wM zB6 (k:= .i64) (show m<l.length- (i+1) by omega);obtain⟨x,hx⟩:∃x,l[i+1+m+1]? =some x:=⟨_,List.getElem?_eq_getElem (by omega)⟩;obtain⟨y,hy⟩:∃y,l[i+1+m]? =some y:=⟨_,List.getElem?_eq_getElem (by omega)⟩;have g1:ys[i+1+(m+1)]? =some x:=by
     have:=congrArg (fun z=>z[1]?) hyd;simp only[List.getElem?_drop] at this;rw[show i+1+(m+1)=i+1+m+1 by omega,this,hx]
    have g2:ys[i+1+m]? =some y:=by
     have:=congrArg (fun z=>z[0]?) hyd;simp only[List.getElem?_drop,Nat.add_zero] at this;rw[this,hy]
    have cg:∀ (k:Nat) (x:List Int),ys[k]? =some x→(vbs num ys)[k]? =some (zRz num x):=fun k x e=>by simp[vbs,e]
    have p1:=zCc (zDR num ys) (by omega) (cg _ _ g1);have p2:=zCc (zDR num ys) (by omega) (cg _ _ g2);have hsx:yq qj l (i+2+(m+1))=if(qj x y==0)=true then yq qj l (i+2+m) else yq qj l (i+2+m)++ [x]:=by
     have:=zOg (c:=qj) hx hy;rw[show i+2+(m+1)=i+1+m+2 by omega,this,show i+2+m=i+1+m+1 by omega]
    have hyd2:∀zs:List (List Int),zs.drop (i+1+m)=l.drop (i+1+m)→zs.drop (i+1+(m+1))=l.drop (i+1+(m+1)):=fun zs e=>by
     have:=congrArg (List.drop 1) e;simpa [List.drop_drop,Nat.add_assoc] using this
    generalize hR:yq qj l (i+2+m)=R at *
    have hqn:=heq x (List.mem_of_getElem? hx) y (List.mem_of_getElem? hy) (k0.set id (.row (vbs num ys).flatten));cases hb:(qj x y==0) with
    |true=>
     rw[hb] at hqn;rw[if_pos hb] at hsx;have hres:m<l.length∧i+1+(m+1+1)≤l.length∧∃zs:List (List Int),zs.length=l.length∧k0.set id (.row (vbs num ys).flatten)=k0.set id (.row (vbs num zs).flatten)∧
      (yq qj l (i+2+(m+1))).length≤i+1+(m+1)∧D.int .i64 ((R.length:Nat):Int)= .int .i64 (((yq qj l (i+2+(m+1))).length:Nat):Int)∧zs.take (yq qj l (i+2+(m+1))).length=yq qj l (i+2+(m+1))∧zs.drop (i+1+(m+1))=l.drop (i+1+(m+1)):=
      ⟨by omega,by omega,ys,hyl,rfl,by rw[hsx];omega,by rw[hsx],by rw[hsx];exact hyt,hyd2 _ hyd⟩
     clear hyt hyd hyd2 hsx g1 g2 cg hx hy hR hcl hb
     repeat' first|simp only[go_sem,zEE, *]|apply bc<;>intro hc
     refine zQ (by kernel_rfl) ?_
     repeat' first|simp only[go_sem,zEE, *]|apply bc<;>intro hc|(refine zA.mono hqn ?_;rintro r h ⟨hq2,rfl⟩)
    |false=>
     rw[hb] at hqn;rw[if_neg (by rw[hb];exact Bool.false_ne_true)] at hsx;have hRl:R.length<l.length:=by omega
     have a3:=zh (P:=Tryz.prog) (sz:=2) (id:=id) wM zB6 (k:= .i64) hRl;have hst:=zHx (P:=Tryz.prog) (t:=33) hrow2 (zDR num ys) (by omega) zB6 (i:=R.length) (by rw[wq,hyl];exact hRl) (x:=zRz num x) rfl rfl;have hset:(vbs num ys).set R.length (zRz num x)=vbs num (ys.set R.length x):=by rw[vbs,vbs,List.map_set]
     rw[hset,zEL] at hst;have ew3:IntKind.i64.wrap (((R.length:Nat):Int)+1)=((R.length+1:Nat):Int):=ze (by unfold lim;omega);have hres:m<l.length∧i+1+(m+1+1)≤l.length∧∃zs:List (List Int),zs.length=l.length∧k0.set id (.row (vbs num (ys.set R.length x)).flatten)=k0.set id (.row (vbs num zs).flatten)∧
      (yq qj l (i+2+(m+1))).length≤i+1+(m+1)∧D.int .i64 ((R.length+1:Nat):Int)= .int .i64 (((yq qj l (i+2+(m+1))).length:Nat):Int)∧zs.take (yq qj l (i+2+(m+1))).length=yq qj l (i+2+(m+1))∧zs.drop (i+1+(m+1))=l.drop (i+1+(m+1)):=by
      have hRn:(R++ [x]).length=R.length+1:=by simp
      refine⟨by omega,by omega,ys.set R.length x,by simpa using hyl,rfl,by rw[hsx,hRn];omega,by rw[hsx,hRn],?_,?_⟩
      ·rw[hsx,hRn,List.take_succ_eq_append_getElem (by rw[List.length_set];omega),List.getElem_set_self,List.take_set_of_le (Nat.le_refl _),hyt]
      ·rw[List.drop_set_of_lt (by omega)];exact hyd2 _ hyd
     clear hyt hyd hyd2 hsx g1 g2 cg hx hy hR hcl hb hset
     repeat' first|simp only[go_sem,zEE, *]|apply bc<;>intro hc
     refine zQ (by kernel_rfl) ?_
     repeat' first|simp only[go_sem,zEE, *]|apply bc<;>intro hc|(refine zA.mono hqn ?_;rintro r h ⟨hq2,rfl⟩)
   ·have e1:decide (((m+1:Nat):Int)<((l.length- (i+1):Nat):Int))=false:=decide_eq_false (by omega);have hme:i+2+m=l.length:=by omega
    have hce:yq qj l (i+2+m)=cpt qj l:=by rw[hme];rfl
    rw[hce] at hyt f5 hcl;have hcle:(cpt qj l).length≤l.length:=zBh _;have hsl:=fun(H:Heap)=>wm (P:=Tryz.prog) (t:=45) (sz:=2) (id:=id) (h:=H) zN2 wM zB6 (k:= .i64) hcle;have hsh:=fun(H:Heap)=>zAi (P:=Tryz.prog) (t:=45) (h:=H) zN2 wM (id:=id) (sz:=2) zB6 (k:= .i64) hcle;obtain⟨rest,hclr⟩:=zIJ (P:=Tryz.prog) (sz:=2) (t:=45) wM zKk rfl rfl hrow2 (zDR num ys) (n:=(cpt qj l).length) (by rw[wq];omega);have htk:(vbs num ys).take (cpt qj l).length=vbs num (cpt qj l):=by rw[vbs,←List.map_take,hyt];rfl
    rw[htk,zEL,wq,hyl] at hclr;have hfin:=hQ (.rs id 2 0 (cpt qj l).length) (k0.set id (.row ((vbs num (cpt qj l)).flatten++rest))) ⟨rfl,rest,rfl⟩;clear hyt hyd hme hce htk hQ
    repeat' first|simp only[go_sem,zEE, *]|apply bc<;>intro hc
 ·have e1:decide (((i+1:Nat):Int)<(l.length:Int))=false:=decide_eq_false (by omega);have hd:=hdone fun j h1 h2=>hj j h1 (by omega);clear hj hdone hsame q1 h0 hQ
  repeat' first|simp only[go_sem,zEE, *]|apply bc<;>intro hc
theorem za3 (g:Heap):zA Tryz.prog 221 [.nilsl, .int .i64 0, .int .i64 0, .fn (.func 76) [] []] g fun _ h'=>h'=g:=by
 have hw:IntKind.i64.wrap (0+1)=1:=rfl;have hlt:decide ((1:Int)<0)=false:=rfl;refine zA.of_fn (g:=zPs) mix Tryz.func221 zdx rfl rfl ?_;simp only[Tryz.f221,gJ]
 repeat' first|simp only[go_sem,zZr, *]|apply bc<;>intro hc
 refine z7 (fun j fr h2=>fr 2= .int .i64 0∧fr 8= .int .i64 1∧h2=g) 0 ?_ ?_
 ·simp only[go_sem,zZr,true_and,and_true,Int.ofNat_zero]
 rintro j fr2 h2 _ ⟨f2,f8,rfl⟩
 repeat' first|simp only[go_sem,zZr, *]|apply bc<;>intro hc
theorem za4 (m:Int) (g:Heap):zA Tryz.prog 163 [.nilsl, .int .i64 0, .int .i64 0, .int .i64 m, .fn (.func 76) [] []] g fun _ h'=>h'=g:=by
 have hw:IntKind.i64.wrap (0-0)=0:=rfl;have h12:decide ((0:Int)≤12)=true:=rfl;have hi:=za3;refine zA.of_fn (g:=zPf) mix Tryz.func163 zdZ rfl rfl ?_;simp only[Tryz.f163,gJ]
 repeat' first|simp only[go_sem,zZp, *]|apply bc<;>intro hc
 refine z7 (fun j fr h2=>fr 0= .nilsl∧fr 1= .int .i64 0∧fr 2= .int .i64 0∧fr 4= .fn (.func 76) [] []∧h2=g) 0 ?_ ?_
 ·simp only[go_sem,zZp,true_and,and_true,Int.ofNat_zero]
 rintro j fr2 h2 _ ⟨f0,f1,f2,f4,rfl⟩
 repeat' first|simp only[go_sem,zZp, *]|apply bc<;>intro hc
theorem zXH (g:Heap):zA Tryz.prog 112 [.nilsl, .fn (.func 76) [] []] g fun _ h'=>h'=g:=by
 have hcv:wZ Tryz.prog 3 239 (.int .i64 0)=some (.int .u64 0):=by kernel_rfl
 have hb:=zMy (n:=0) (by omega);have hp:=fun m=>za4 m;have hl:∀h,zCF Tryz.prog 45 .nilsl h=some (.int .i64 0):=fun h=>yY (zX.nil (sz:=2)) Tryz.underlying45;simp only[Int.ofNat_zero] at hb;refine zA.of_fn (g:=zPX) mix Tryz.func112 zdG rfl rfl ?_;simp only[Tryz.f112,gJ]
 repeat' first|simp only[go_sem,zhQ, *]|apply bc<;>intro hc|(refine zA.mono (hb _) ?_;rintro r h ⟨rfl,rfl⟩)
theorem zOu (g:Heap):zA Tryz.prog 113 [.nilsl, .fn (.func 45) [] []] g fun r h'=>h'=g∧r= .nilsl:=by
 have hl:∀h,zCF Tryz.prog 45 .nilsl h=some (.int .i64 0):=fun h=>yY (zX.nil (sz:=2)) Tryz.underlying45;have hlt:decide ((0:Int)<2)=true:=rfl;refine zA.of_fn (g:=zML) mix Tryz.func113 zZo rfl rfl ?_;simp only[Tryz.f113,gJ]
 repeat' first|simp only[go_sem,zEE, *]|apply bc<;>intro hc
theorem zOv {num:Int} {l:List (List Int)} {id:Nat} {g:Heap} (h0:l≠[]) (hl:l.length≤16777216) (hle:∀x∈l,x.length≤1048576) (hrow:g.at' id=some (.row (vbs num l).flatten)):
  zA Tryz.prog 113 [.rs id 2 0 l.length, .fn (.func 45) [] []] g fun r h'=>h'=g.del id∧r= .sl 2 (vbs num (cpt qj l)) .no:=
 zA.freezeD ((zRi h0 hl hle hrow).mono (by
  rintro r h' ⟨rfl,rest,rfl⟩;exact⟨id,_,zC _ _ _,by rw[zOh],zLF (zDR num _) (wq num _) rfl⟩))
def zUx (s:D):Nat→D
 |0=> .fn (.func 155) [s] []
 |1=> .fn (.func 156) [s] []
 |2=> .fn (.func 157) [s] []
 |3=> .fn (.func 158) [s] []
 |4=> .fn (.func 159) [s] []
 |_=> .fn (.func 160) [s] []
def zEV (c:Cat) (fs:List Fac) (al:Nat→Option Alt) (O:KV):Nat→List (List Int)
 |0=>(zo fs al).flatMap (qk c fs al)
 |1=>(zo fs al).flatMap (wp c fs al O)
 |2=>(zo fs al).flatMap (zDQ c fs al)
 |3=>(zo fs al).flatMap (wR c fs al)
 |4=>(zDr fs).flatMap (zBx fs O)
 |_=>zF0 c fs
def ql (s:D) (i:Nat):List D:=[.int .i64 (i:Int),zUx s i]
def zb5 (s:D):List (List D):=[ql s 0,ql s 1,ql s 2,ql s 3,ql s 4,ql s 5]
theorem zXI (s:D):∀i,i<6→(zb5 s)[i]? =some (ql s i)
 |0,_=>rfl
 |1,_=>rfl
 |2,_=>rfl
 |3,_=>rfl
 |4,_=>rfl
 |5,_=>rfl
 |n+6,h=>by omega
theorem zF1:∀ {a:List D},a.length=2→∃x y,a= [x,y]
 | [x,y],_=>⟨x,y,rfl⟩
theorem zfR (sc:List D) (h:Heap):zA Tryz.prog 107 [.iptr sc 0] h fun r h'=>h'=h∧r= .sl 2 (zb5 (.iptr sc 0)) .full:=by
 refine zA.of_fn (g:=zPd) mix Tryz.func107 zdU rfl rfl ?_;simp only[Tryz.f107,gJ];have hb:∀ (i:Int) (f:FuncId),yG Tryz.prog 190 [(0, .int .i64 i),(1, .fn (.func f) [.iptr sc 0] [])]=some (.agg [.int .i64 i, .fn (.func f) [.iptr sc 0] []]):=fun i f=>by
  simp[yG,zN7,zMF,qZ,yW,D.cells,D.notTuple]
 have hs:∀a b c d e f:List D,a.length=2→b.length=2→c.length=2→d.length=2→e.length=2→f.length=2→zM Tryz.prog false h.next 186 6 [(0, .agg a),(1, .agg b),(2, .agg c),(3, .agg d),(4, .agg e),(5, .agg f)] h=some (.sl 2 [a,b,c,d,e,f] .full,h):=fun a b c d e f ha hb hc hd he hf=>by
  obtain⟨a1,a2,rfl⟩:=zF1 ha;obtain⟨b1,b2,rfl⟩:=zF1 hb;obtain⟨c1,c2,rfl⟩:=zF1 hc;obtain⟨d1,d2,rfl⟩:=zF1 hd;obtain⟨e1,e2,rfl⟩:=zF1 he;obtain⟨f1,f2,rfl⟩:=zF1 hf;simp[zM,zME,zMF,zN6,D.notTuple,D.cells,zA6,qZ,yW,yC,lim]
 simp only[go_sem,zdT,hb];rw[hs _ _ _ _ _ _ rfl rfl rfl rfl rfl rfl];simp only[go_sem,zdT];rfl
theorem zix {c:Cat} {fs:List Fac} {al:Nat→Option Alt} {M:KM Int} {O:KV} {sc:List D} {m1 m2:Nat} (hs:Stt c fs al M O sc m1 m2) (hn:fs.length≤16)
  {ff:FuncId} {cap:List D} {Y:List (List Int)→(Nat→Prop)→Heap→Prop} (y:Fnd2 Tryz.prog 5 ff cap Y) {S:Nat→Prop} {w:Heap} (hY:Y [] S w) (hH:StH M O m1 m2 w) (n1:¬S m1) (n2:¬S m2):∀i,i<6→
  zGV Tryz.prog (zUx (.iptr sc 0) i) [.fn (.func ff) [] cap] w fun _ h'=>∃S',(∀i,S' i→S i∨w.next≤i)∧But S w h'∧Y (zEV c fs al O i) S' h':=by
 intro i hi;rcases i with _|_|_|_|_|_|i
 ·exact zXB hs hn y hY hH n1 n2
 ·exact zam hs hn y hY hH n1 n2
 ·exact zfL hs hn y hY hH n1 n2
 ·exact zap hs hn y hY hH n1 n2
 ·exact zfN hs hn y hY hH n1 n2
 ·exact zfO hs hn y hY hH n1 n2
 ·omega
def zCo (c:Cat) (fs:List Fac) (al:Nat→Option Alt) (O:KV) (i:Nat):List (List Int):=cpt qj (srt qj ((zEV c fs al O i).map zEU))
def zXJ (c:Cat) (fs:List Fac) (al:Nat→Option Alt) (O:KV) (i:Nat):D:=if zEV c fs al O i= [] then .nilsl else .sl 2 (vbs (i:Int) (zCo c fs al O i)) .no
theorem zXK {c:Cat} {fs:List Fac} {al:Nat→Option Alt} {O:KV} (hn:fs.length≤16) (i:Nat):(zEV c fs al O i).length≤16777216:=by
 have h4:=zAa (al:=al) hn;have hfm:∀ {α:Type} {l:List α} {f:α→List (List Int)} {m n:Nat},l.length≤n→(∀x∈l,(f x).length≤m)→n*m≤16777216→(l.flatMap f).length≤16777216:=fun h1 h2 h3=>Nat.le_trans (qG h2) (Nat.le_trans (Nat.mul_le_mul_right _ h1) h3);unfold zEV;split
 ·exact hfm (m:=1) h4 (fun t _=>by unfold qk;split<;>simp) (by omega)
 ·exact hfm (m:=1) h4 (fun t _=>by
   unfold wp;split
   ·simp
   ·split<;>simp) (by omega)
 ·exact hfm (m:=16) h4 (fun t _=>zIZ c hn al t) (by omega)
 ·exact hfm (m:=4096) h4 (fun t _=>zFz c hn al t) (by omega)
 ·exact hfm (m:=16) (n:=16) (Nat.le_trans (ye _ fs 0) hn) (fun t _=>zIc hn O t) (by omega)
 ·unfold zF0;split
  ·simp
  ·exact hfm (m:=1) (n:=16) (Nat.le_trans (ye _ fs 0) hn) (fun t _=>Nat.le_refl _) (by omega)
theorem zNN (l:List Int):(zEU l).length≤l.length:=Nat.le_trans (zBh _) (Nat.le_of_eq (qP l).length_eq)
theorem zNO {c:Cat} {fs:List Fac} {al:Nat→Option Alt} {O:KV} (i:Nat):∀l∈zEV c fs al O i,l.length≤5:=by
 intro l hl;unfold zEV at hl;split at hl
 ·obtain⟨t,_,h⟩:=List.mem_flatMap.1 hl;unfold qk at h;split at h
  ·rw[List.mem_singleton.1 h];simp
  ·cases h
 ·obtain⟨t,_,h⟩:=List.mem_flatMap.1 hl;unfold wp at h;split at h
  ·cases h
  ·split at h
   ·rw[List.mem_singleton.1 h];simp
   ·cases h
 ·obtain⟨t,_,h⟩:=List.mem_flatMap.1 hl;obtain⟨k,_,h⟩:=List.mem_flatMap.1 h;unfold zET at h;split at h
  ·rw[List.mem_singleton.1 h];simp
  ·cases h
 ·obtain⟨t,_,h⟩:=List.mem_flatMap.1 hl;unfold wR at h;split at h
  ·obtain⟨r,_,h⟩:=List.mem_flatMap.1 h;unfold zAu at h;split at h
   ·rw[List.mem_singleton.1 h];simp
   ·cases h
  ·cases h
 ·obtain⟨t,_,h⟩:=List.mem_flatMap.1 hl;unfold zBx at h;split at h
  ·cases h
  ·split at h
   ·cases h
   ·obtain⟨r,_,h⟩:=List.mem_flatMap.1 h;rw[List.mem_singleton.1 h];simp
 ·unfold zF0 at hl;split at hl
  ·cases hl
  ·obtain⟨r,_,h⟩:=List.mem_flatMap.1 hl;rw[List.mem_singleton.1 h];simp
def zUy (sc:List D):D:= .fn (.func 106) [] [.iptr [.iptr sc 0] 0]
theorem zNP (sc:List D) (g:Heap):zA Tryz.prog 75 [.iptr sc 0] g fun r h'=>h'=g∧r=zUy sc:=by
 refine zA.of_fn (g:=zVr) mix Tryz.func75 zjg rfl rfl ?_;simp only[Tryz.f75,gJ]
 repeat' first|simp only[go_sem,zki,zUy, *]|apply bc<;>intro hc
theorem zUz (num:Int) (l:List (List Int)):l.map (zI6 num)=vbs num (l.map zEU):=by
 unfold vbs;rw[List.map_map];rfl
set_option maxHeartbeats 4000000 in
theorem zLV {c:Cat} {fs:List Fac} {al:Nat→Option Alt} {M:KM Int} {O:KV} {sc:List D} {m1 m2:Nat} (hs:Stt c fs al M O sc m1 m2) (hn:fs.length≤16)
  {id:Nat} {Y:Nat→(Nat→Prop)→Heap→Prop} {Z:(Nat→Prop)→Heap→Prop} (y:Yld Tryz.prog id 6 (fun i=>[zXJ c fs al O i]) Y Z) {S:Nat→Prop} {w:Heap} (hY:Y 0 S w) (hH:StH M O m1 m2 w) (n1:¬S m1) (n2:¬S m2):
  zA Tryz.prog 106 [.yld id, .iptr [.iptr sc 0] 0] w fun _ h'=>∃S',(∀j,S' j→S j∨w.next≤j)∧But S w h'∧(Y 6 S' h'∨Z S' h'):=by
 have hrw:=zfR sc;have hlr:∀h,zCF Tryz.prog 186 (.sl 2 (zb5 (.iptr sc 0)) .full) h=some (.int .i64 6):=fun h=>yY (zX.mk (sz:=2) (xs:=zb5 (.iptr sc 0)) .full) Tryz.underlying186;refine zA.of_fn (g:=zPW) mix Tryz.func106 zdF rfl rfl ?_;simp only[Tryz.f106,gJ]
 repeat' first|simp only[go_sem,zGa, *]|apply bc<;>intro hc|(refine zA.mono (hrw _) ?_;rintro r h ⟨hq,rfl⟩)
 subst hq
 rename Heap=>w
 refine z7 (fun i fr h'=>fr 0= .yld id∧fr 1= .iptr [.iptr sc 0] 0∧fr 7= .sl 2 (zb5 (.iptr sc 0)) .full∧fr 8= .int .i64 6∧fr 9= .int .i64 (i:Int)∧∃S',(∀j,S' j→S j∨w.next≤j)∧But S w h'∧Y i S' h') 6 ?_ ?_
 ·have hst:∃S',(∀j,S' j→S j∨w.next≤j)∧But S w w∧Y 0 S' w:=⟨S,fun j hj=> .inl hj,But.refl S w,hY⟩;simp only[go_sem,zGa,true_and,and_true,Int.ofNat_zero];exact hst
 rintro i fr h1 hi ⟨f0,f1,f7,f8,f9,S',hS,hbut,hYi⟩;by_cases hlt:i<6
 ·have e1:decide ((i:Int)<6)=true:=decide_eq_true (by omega);have ew:IntKind.i64.wrap ((i:Int)+1)=((i+1:Nat):Int):=ze (by unfold lim;omega);have hw:zR true 2 (ql (.iptr sc 0) i) 0=some (.agg (ql (.iptr sc 0) i)):=zB rfl (by omega);have hst:∀ (h:Heap) (id:Nat),zU Tryz.prog 190 (.ptr id 0) (.agg (ql (.iptr sc 0) i)) (h.new id (.row [.int .i64 0, .nilfn]))=some (h.new id (.row (ql (.iptr sc 0) i))):=fun h id=>zj zN6 (by omega) rfl rfl (by rcases i with _|_|_|_|_|i<;>rfl)
  have ha:zS Tryz.prog 186 (.sl 2 (zb5 (.iptr sc 0)) .full) (.int .i64 (i:Int))=some (.iptr (ql (.iptr sc 0) i) 0):=zY (zX.mk (sz:=2) _) zME zN6 (zXI _ _ hlt);have hc1:(ql (.iptr sc 0) i)[1]? =some (zUx (.iptr sc 0) i):=rfl;have hb1:=hbut.1;obtain⟨H,hHe,hHn,hnr,hnl,hE⟩:∃H:Heap,(h1.new h1.next (.row (ql (.iptr sc 0) i))).new (h1.next+1) (.row [.nilsl])=H∧H.next=h1.next+2∧H.at' h1.next=some (.row (ql (.iptr sc 0) i))∧H.at' (h1.next+1)=some (.row [.nilsl])∧Ext h1 H:=
   ⟨_,rfl,zm _ (by rw[zD];exact Nat.le_refl _) _,by rw[zG (by omega),zJ],zJ _ _ _,((Ext.refl h1).new (Nat.le_refl _) _).new (by omega) _⟩
  have hbutH:But S w H:=hbut.trans (hE.but S) fun i hi=> .inl hi;have hstH:StH M O m1 m2 H:=⟨⟨by rw[hbutH.2 _ hH.2.1 n1];exact hH.1.1,by rw[hbutH.2 _ hH.2.2 n2];exact hH.1.2⟩,by have:=hH.2.1;omega,by have:=hH.2.2;omega⟩;have Y0:YVf (i:Int) (zUx (.iptr sc 0) i) (h1.next+1) h1.next [] (fun j=>j=h1.next+1∨j=h1.next) H:=⟨by omega,by omega,by omega,hnr, .nilsl,hnl, .inl ⟨rfl,rfl⟩,fun e=>e,fun e=>e,fun j=>⟨fun e=>e.elim .inl fun e=> .inr (.inl e),fun e=>e.elim .inl fun e=>e.elim .inr fun e=>e.elim⟩⟩
  have hcr:=zix hs hn (zXF (num:=(i:Int)) (fn:=zUx (.iptr sc 0) i) (nl:=h1.next+1) (nr:=h1.next)) Y0 hstH (fun e=>by have:=hH.2.1;omega) (fun e=>by have:=hH.2.2;omega) i hlt;clear hstH hbutH Y0
  repeat' first|simp only[go_sem,zGa,zD, *]|apply bc<;>intro hc
  refine zGV.mono ?_ hcr;rintro r h2 ⟨S2,s2,b2,w1,w2,w3,w4,d2,w5,w6,w7,w8,w9⟩;have b20:=b2.1;have hold:∀j,j<h1.next→h2.at' j=h1.at' j:=fun j hj=>by rw[b2.2 j (by omega) (by omega),hE.2 j hj]
  rw[zUz] at w6;have hRl:=zXK (c:=c) (al:=al) (O:=O) hn i;have hR5:=zNO (c:=c) (fs:=fs) (al:=al) (O:=O) i;clear hcr hst ha hw hc1 hHe e1;rcases w6 with⟨rfl,e⟩ | ⟨id2,rfl,g1,g2,g3⟩
  ·have e0:zEV c fs al O i= []:=by simpa [vbs] using e
   have hv:zXJ c fs al O i= .nilsl:=by unfold zXJ;rw[if_pos e0]
   have hE4:Ext h1 h2:=⟨by omega,hold⟩;have hgo:=y.go i S' h2 hlt (y.ext hYi hE4);have hfin:∀ (S3:Nat→Prop) (h5:Heap),(∀j,S3 j→S' j∨h2.next≤j)→But S' h2 h5→(∀j,S3 j→S j∨w.next≤j)∧But S w h5:=fun S3 h5 hS3 hb5=>⟨fun j hj=>by
    rcases hS3 j hj with hj|hj
    ·exact hS j hj
    ·exact .inr (by omega),(hbut.trans (hE4.but S) fun i hi=> .inl hi).trans hb5 hS⟩
   simp only[hv] at hgo;simp only[go_sem,zGa,w5,f0];refine(zXH h2).mono ?_;rintro r h3 hq;subst hq;simp only[go_sem,zGa,w5,f0];refine(zOu h3).mono ?_;rintro r h4 ⟨hq,rfl⟩;subst hq;refine hgo.mono ?_;rintro r h5 ⟨S3,hS3,hb5,⟨rfl,hY5⟩ | ⟨rfl,hZ5⟩⟩
   ·have hres:=hfin S3 h5 hS3 hb5;simp only[go_sem,zGa,vun,ew,f0,f1,f7,f8,f9,true_and];exact⟨hlt,S3,hres.1,hres.2,hY5⟩
   ·have hres:=hfin S3 h5 hS3 hb5;simp only[go_sem,zGa,vun];exact⟨S3,hres.1,hres.2, .inr hZ5⟩
  ·have hne:(zEV c fs al O i).map zEU≠[]:=fun e=>g3 (by rw[e];rfl);have hne0:zEV c fs al O i≠[]:=fun e=>hne (by rw[e];rfl);have hml:((zEV c fs al O i).map zEU).length≤16777216:=by rw[List.length_map];exact hRl
   have hmx:∀x∈(zEV c fs al O i).map zEU,x.length≤1048576:=fun x hx=>by
    obtain⟨z,hz,rfl⟩:=List.mem_map.1 hx;have h1:=zNN z;have h2:=hR5 z hz;omega
   have hv:zXJ c fs al O i= .sl 2 (vbs (i:Int) (zCo c fs al O i)) .no:=by unfold zXJ;rw[if_neg hne0]
   have hrv:zCo c fs al O i=cpt qj (srt qj ((zEV c fs al O i).map zEU)):=rfl;rw[hrv] at hv;clear hrv;generalize(zEV c fs al O i).map zEU=L at *
   have hid:H.next≤id2:=by
    rcases s2 id2 ((w9 id2).2 (.inr (.inr rfl))) with(e|e)|e
    ·exact absurd e.symm (fun e=>w7 (by rw[e];rfl))
    ·exact absurd e.symm (fun e=>w8 (by rw[e];rfl))
    ·exact e
   have hso:=zaw (num:=(i:Int)) hne hml hmx g1;have sl:(srt qj L).length=L.length:=(qP L).length_eq;have s0:srt qj L≠[]:=fun e=>hne (List.length_eq_zero_iff.1 (by rw[←sl,e];rfl));have hco:=zOv (num:=(i:Int)) s0 (by omega) (fun x hx=>hmx x (zFt.1 hx)) (zC h2 id2 (.row (vbs (i:Int) (srt qj L)).flatten));rw[sl] at hco;rw[wq] at w5;obtain⟨h3,hh3,hn3,w53⟩:∃h3,h2.set id2 (.row (vbs (i:Int) (srt qj L)).flatten)=h3∧h3.next=h2.next∧h3.at' (h1.next+1)=some (.row [.rs id2 2 0 L.length]):=⟨_,rfl,zt _ _ _,by rw[zE (by omega)];exact w5⟩
   have hE4:Ext h1 (h3.del id2):=⟨by rw[zQB,hn3];omega,fun j hj=>by rw[yv (by omega),←hh3,zE (by omega),hold j hj]⟩;have hn4:(h3.del id2).next=h2.next:=by rw[zQB,hn3]
   rw[hh3] at hso hco;generalize h3.del id2=h4 at *
   have hgo:=y.go i S' h4 hlt (y.ext hYi hE4);have hfin:∀ (S3:Nat→Prop) (h5:Heap),(∀j,S3 j→S' j∨h4.next≤j)→But S' h4 h5→(∀j,S3 j→S j∨w.next≤j)∧But S w h5:=fun S3 h5 hS3 hb5=>⟨fun j hj=>by
    rcases hS3 j hj with hj|hj
    ·exact hS j hj
    ·exact .inr (by omega),(hbut.trans (hE4.but S) fun i hi=> .inl hi).trans hb5 hS⟩
   simp only[hv] at hgo;simp only[go_sem,zGa,w5,f0];refine hso.mono ?_;rintro r h ⟨rfl,hq⟩;subst hq;simp only[go_sem,zGa,w53,f0];refine hco.mono ?_;rintro r h ⟨hq,rfl⟩;subst hq;refine hgo.mono ?_;rintro r h5 ⟨S3,hS3,hb5,⟨rfl,hY5⟩ | ⟨rfl,hZ5⟩⟩
   ·have hres:=hfin S3 h5 hS3 hb5;simp only[go_sem,zGa,vun,ew,f0,f1,f7,f8,f9,true_and];exact⟨hlt,S3,hres.1,hres.2,hY5⟩
   ·have hres:=hfin S3 h5 hS3 hb5;simp only[go_sem,zGa,vun];exact⟨S3,hres.1,hres.2, .inr hZ5⟩
 ·have e1:decide ((i:Int)<6)=false:=decide_eq_false (by omega);have hie:i=6:=by omega
  subst hie;have hfin:∃S',(∀j,S' j→S j∨w.next≤j)∧But S w h1∧(Y 6 S' h1∨Z S' h1):=⟨S',hS,hbut, .inl hYi⟩;clear hS hbut hYi hrw
  repeat' first|simp only[go_sem,zGa, *]|apply bc<;>intro hc
end Go.V
