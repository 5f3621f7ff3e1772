/- Contracts of functions that the law reaches, part 2. No condition. -/
import Derived.Test.YtmhkjfajejaniaaGreatDoorW36
import Derived.Test.YtmhkjfajejaniaaGreatDoorW31
import Derived.Test.YtmhkjfajejaniaaGreatDoorW30
import Derived.Test.YtmhkjfajejaniaaGreatDoorW38
set_option linter.all false
namespace Go.V
open Go.Proofs
set_option maxRecDepth 100000
set_option maxHeartbeats 4000000 in
theorem zR2 {num:Int} {l:List (List Int)} {id:Nat} {g:Heap} (h0:l≠[]) (hl:l.length≤16777216) (hle:∀x∈l,x.length≤1048576) (hrow:g.at' id=some (.row (vbs num l).flatten)):
  zA Tryz.prog 113 [.rs id 2 0 l.length, .fn (.func 45) [] []] g fun r h'=>r= .rs id 2 0 (cpt qh l).length∧∃rest,h'=g.set id (.row ((vbs num (cpt qh l)).flatten++rest)):=by
 have hlen:=fun(h:Heap)=>zCU (P:=Tryz.prog) (t:=45) (sz:=2) (id:=id) (off:=0) (len:=l.length) (h:=h) Tryz.underlying45;have hpos:0<l.length:=List.length_pos_iff.2 h0;have heq:∀x∈l,∀y∈l,∀H,zA Tryz.prog 45 [.agg (zRw num x), .agg (zRw num y)] H fun r h'=>h'=H∧r= .bool (qh x y==0):=fun x hx y hy H=>by
  have:=zbS (zLR num (hle x hx)) (zLR num (hle y hy)) H;rw[zIa] at this;exact this
 have hsame:∀n,n≤l.length→(∀i (h:i+1<l.length),i+1<n→(qh l[i+1] l[i]==0)=false)→yk qh l n=l.take n:=fun n hn hh=>by
  induction n with
  |zero=>rfl
  |succ n ih=>
   cases n with
   |zero=>rw[zDi hpos,List.take_one];simp[List.head?_eq_getElem?,hpos]
   |succ k=>
    rw[zAE (by omega),if_neg (by rw[hh k (by omega) (by omega)];exact Bool.false_ne_true),ih (by omega) fun i h1 h2=>hh i h1 (by omega)];exact(List.take_succ_eq_append_getElem (by omega)).symm
 refine zA.post fun Q hQ=> ?_;have hdone:(∀i (h:i+1<l.length),i+1<l.length→(qh l[i+1] l[i]==0)=false)→Q (.rs id 2 0 l.length) g:=fun hh=>hQ _ _ (by
  have e:cpt qh l=l:=by
   have:=hsame l.length (Nat.le_refl _) hh;rw[List.take_length] at this;exact this
  rw[e];exact⟨rfl,[],by rw[List.append_nil,zA7 hrow]⟩)
 refine zA.of_fn (g:=zMR) mix Tryz.func113 zaG rfl rfl ?_;simp only[Tryz.f113,gJ];cases q1:decide ((l.length:Int)<2) with
 |true=>
  have hd:=hdone fun i h1 h2=>by have:=of_decide_eq_true q1;omega
  clear hdone hQ
  repeat' first|simp only[go_sem,zEI, *]|apply bc<;>intro hc
 |false=>
 repeat' first|simp only[go_sem,zEI, *]|apply bc<;>intro hc
 refine zy (fun i fr h=>fr 0= .rs id 2 0 l.length∧fr 1= .fn (.func 45) [] []∧fr 5= .int .i64 ((i+1:Nat):Int)∧h=g∧i+1≤l.length∧∀j (h:j+1<l.length),j+1<i+1→(qh l[j+1] l[j]==0)=false) l.length ?_ ?_
 ·simp only[go_sem,zEI,true_and,and_true,Int.ofNat_zero];exact⟨rfl,hpos,fun j h1 h2=>by omega⟩
 rintro i fr k0 hi ⟨f0,f1,f5,rfl,hile,hj⟩;by_cases hlt:i+1<l.length
 ·have e1:decide (((i+1:Nat):Int)<(l.length:Int))=true:=decide_eq_true (by omega);have ew:IntKind.i64.wrap (((i+1:Nat):Int)+1)=((i+2:Nat):Int):=zh (by unfold lim;omega);have ew2:IntKind.i64.wrap (((i+1:Nat):Int)-1)=((i:Nat):Int):=by rw[zZ (by omega) (by omega)];omega
  have a1:=zt (P:=Tryz.prog) (sz:=2) (id:=id) wj zAB (k:= .i64) hlt;have a2:=zt (P:=Tryz.prog) (sz:=2) (id:=id) wj zAB (k:= .i64) (show i<l.length by omega);have p1:=zBG (zCo num l) (by omega) (show(vbs num l)[i+1]? =some (zRw num l[i+1]) by simp[vbs,hlt]);have p2:=zBG (zCo num l) (by omega) (show(vbs num l)[i]? =some (zRw num l[i]) by simp[vbs,show i<l.length by omega]);have hq:=heq l[i+1] (List.getElem_mem hlt) l[i] (List.getElem_mem (by omega)) k0;cases hb:(qh l[i+1] l[i]==0) with
  |false=>
   rw[hb] at hq;have hn:∀j (h:j+1<l.length),j+1<i+2→(qh l[j+1] l[j]==0)=false:=fun j h1 h2=>by
    by_cases e:j=i
    ·subst e;exact hb
    ·exact hj j h1 (by omega)
   clear hj hdone hsame q1 h0 hb heq
   repeat' first|simp only[go_sem,zEI, *]|apply bc<;>intro hc
   refine zS (by kernel_rfl) ?_
   repeat' first|simp only[go_sem,zEI, *]|apply bc<;>intro hc|(refine zA.mono hq ?_;rintro r h ⟨hq2,rfl⟩)
   exact⟨by omega,hlt,hn⟩
  |true=>
   rw[hb] at hq;have hcs:yk qh l (i+2)=l.take (i+1):=by
    rw[zAE hlt,if_pos hb,hsame (i+1) (by omega) fun j h1 h2=>hj j h1 h2]
   have hsl:=wu (P:=Tryz.prog) (t:=45) (sz:=2) (id:=id) (h:=k0) zN7 wj zAB (k:= .i64) hile;clear hj hdone hsame q1 h0 hb
   repeat' first|simp only[go_sem,zEI, *]|apply bc<;>intro hc
   refine zS (by kernel_rfl) ?_
   repeat' first|simp only[go_sem,zEI, *]|apply bc<;>intro hc|(refine zA.mono hq ?_;rintro r h ⟨hq2,rfl⟩)
   refine zy (fun m fr h'=>fr 0= .rs id 2 0 l.length∧fr 1= .fn (.func 45) [] []∧fr 6= .rs id 2 ((i+1)*2) (l.length- (i+1))∧fr 7= .int .i64 ((m+1:Nat):Int)∧i+1+(m+1)≤l.length∧∃ys:List (List Int),ys.length=l.length∧h'=k0.set id (.row (vbs num ys).flatten)∧
    (yk qh l (i+2+m)).length≤i+1+m∧fr 5= .int .i64 (((yk qh l (i+2+m)).length:Nat):Int)∧ys.take (yk qh l (i+2+m)).length=yk qh l (i+2+m)∧ys.drop (i+1+m)=l.drop (i+1+m)) l.length ?_ ?_
   ·have hc1:(yk qh l (i+2)).length=i+1:=by rw[hcs,List.length_take];omega
    have hc2:yk qh l (i+2+0)=yk qh l (i+2):=rfl;have hres:i+1+(0+1)≤l.length∧∃ys:List (List Int),ys.length=l.length∧k0=k0.set id (.row (vbs num ys).flatten)∧
     (yk qh l (i+2+0)).length≤i+1+0∧D.int .i64 ((i+1:Nat):Int)= .int .i64 (((yk qh l (i+2+0)).length:Nat):Int)∧ys.take (yk qh l (i+2+0)).length=yk qh l (i+2+0)∧ys.drop (i+1+0)=l.drop (i+1+0):=
     ⟨by omega,l,rfl,(zA7 hrow).symm,by rw[hc2,hc1];omega,by rw[hc2,hc1],by rw[hc2,hc1,hcs],rfl⟩
    clear hc1 hc2 hcs;simp only[go_sem,zEI,true_and,and_true,Int.ofNat_zero];obtain⟨r0,ys,r1,r2,r3,r4,r5,r6⟩:=hres;exact⟨f0,f1,rfl,r0,ys,r1,r2,r3,f5.trans r4,r5,r6⟩
   clear hcs hsl hq p1 p2 a1 a2 f0 f1 f5 e1 ew ew2;rintro m fr2 h2 hm ⟨f0,f1,f6,f7,hml,ys,hyl,rfl,hcl,f5,hyt,hyd⟩;have hrow2:(k0.set id (.row (vbs num ys).flatten)).at' id=some (.row (vbs num ys).flatten):=zC _ _ _;have hlen2:=fun(H:Heap)=>zCU (P:=Tryz.prog) (t:=45) (sz:=2) (id:=id) (off:=(i+1)*2) (len:=l.length- (i+1)) (h:=H) Tryz.underlying45;by_cases hlt2:m+1<l.length- (i+1)
   ·have e1:decide (((m+1:Nat):Int)<((l.length- (i+1):Nat):Int))=true:=decide_eq_true (by omega);have ew:IntKind.i64.wrap (((m+1:Nat):Int)+1)=((m+2:Nat):Int):=zh (by unfold lim;omega);have ew2:IntKind.i64.wrap (((m+1:Nat):Int)-1)=((m:Nat):Int):=by rw[zZ (by omega) (by omega)];omega
    have a1:=qv (P:=Tryz.prog) (sz:=2) (id:=id) (off:=(i+1)*2) wj zAB (k:= .i64) hlt2;have a2:=qv (P:=Tryz.prog) (sz:=2) (id:=id) (off:=(i+1)*2) wj zAB (k:= .i64) (show m<l.length- (i+1) by omega);obtain⟨x,hx⟩:∃x,l[i+1+m+1]? =some x:=⟨_,List.getElem?_eq_getElem (by omega)⟩;obtain⟨y,hy⟩:∃y,l[i+1+m]? =some y:=⟨_,List.getElem?_eq_getElem (by omega)⟩;have g1:ys[i+1+(m+1)]? =some x:=by
     have:=congrArg (fun z=>z[1]?) hyd;simp only[List.getElem?_drop] at this;rw[show i+1+(m+1)=i+1+m+1 by omega,this,hx]
    have g2:ys[i+1+m]? =some y:=by
     have:=congrArg (fun z=>z[0]?) hyd;simp only[List.getElem?_drop,Nat.add_zero] at this;rw[this,hy]
    have cg:∀ (k:Nat) (x:List Int),ys[k]? =some x→(vbs num ys)[k]? =some (zRw num x):=fun k x e=>by simp[vbs,e]
    have p1:=zCh (zCo num ys) (by omega) (cg _ _ g1);have p2:=zCh (zCo num ys) (by omega) (cg _ _ g2);have hsx:yk qh l (i+2+(m+1))=if(qh x y==0)=true then yk qh l (i+2+m) else yk qh l (i+2+m)++ [x]:=by
     have:=zOj (c:=qh) hx hy;rw[show i+2+(m+1)=i+1+m+2 by omega,this,show i+2+m=i+1+m+1 by omega]
    have hyd2:∀zs:List (List Int),zs.drop (i+1+m)=l.drop (i+1+m)→zs.drop (i+1+(m+1))=l.drop (i+1+(m+1)):=fun zs e=>by
     have:=congrArg (List.drop 1) e;simpa [List.drop_drop,Nat.add_assoc] using this
    generalize hR:yk qh l (i+2+m)=R at *
    have hqn:=heq x (List.mem_of_getElem? hx) y (List.mem_of_getElem? hy) (k0.set id (.row (vbs num ys).flatten));cases hb:(qh x y==0) with
    |true=>
     rw[hb] at hqn;rw[if_pos hb] at hsx;have hres:m<l.length∧i+1+(m+1+1)≤l.length∧∃zs:List (List Int),zs.length=l.length∧k0.set id (.row (vbs num ys).flatten)=k0.set id (.row (vbs num zs).flatten)∧
      (yk qh l (i+2+(m+1))).length≤i+1+(m+1)∧D.int .i64 ((R.length:Nat):Int)= .int .i64 (((yk qh l (i+2+(m+1))).length:Nat):Int)∧zs.take (yk qh l (i+2+(m+1))).length=yk qh l (i+2+(m+1))∧zs.drop (i+1+(m+1))=l.drop (i+1+(m+1)):=
      ⟨by omega,by omega,ys,hyl,rfl,by rw[hsx];omega,by rw[hsx],by rw[hsx];exact hyt,hyd2 _ hyd⟩
     clear hyt hyd hyd2 hsx g1 g2 cg hx hy hR hcl hb
     repeat' first|simp only[go_sem,zEI, *]|apply bc<;>intro hc
     refine zS (by kernel_rfl) ?_
     repeat' first|simp only[go_sem,zEI, *]|apply bc<;>intro hc|(refine zA.mono hqn ?_;rintro r h ⟨hq2,rfl⟩)
    |false=>
     rw[hb] at hqn;rw[if_neg (by rw[hb];exact Bool.false_ne_true)] at hsx;have hRl:R.length<l.length:=by omega
     have a3:=zt (P:=Tryz.prog) (sz:=2) (id:=id) wj zAB (k:= .i64) hRl;have hst:=zHx (P:=Tryz.prog) (t:=33) hrow2 (zCo num ys) (by omega) zAB (i:=R.length) (by rw[zAf,hyl];exact hRl) (x:=zRw num x) rfl rfl;have hset:(vbs num ys).set R.length (zRw num x)=vbs num (ys.set R.length x):=by rw[vbs,vbs,List.map_set]
     rw[hset,zEN] at hst;have ew3:IntKind.i64.wrap (((R.length:Nat):Int)+1)=((R.length+1:Nat):Int):=zh (by unfold lim;omega);have hres:m<l.length∧i+1+(m+1+1)≤l.length∧∃zs:List (List Int),zs.length=l.length∧k0.set id (.row (vbs num (ys.set R.length x)).flatten)=k0.set id (.row (vbs num zs).flatten)∧
      (yk qh l (i+2+(m+1))).length≤i+1+(m+1)∧D.int .i64 ((R.length+1:Nat):Int)= .int .i64 (((yk qh l (i+2+(m+1))).length:Nat):Int)∧zs.take (yk qh l (i+2+(m+1))).length=yk qh l (i+2+(m+1))∧zs.drop (i+1+(m+1))=l.drop (i+1+(m+1)):=by
      have hRn:(R++ [x]).length=R.length+1:=by simp
      refine⟨by omega,by omega,ys.set R.length x,by simpa using hyl,rfl,by rw[hsx,hRn];omega,by rw[hsx,hRn],?_,?_⟩
      ·rw[hsx,hRn,List.take_succ_eq_append_getElem (by rw[List.length_set];omega),List.getElem_set_self,List.take_set_of_le (Nat.le_refl _),hyt]
      ·rw[List.drop_set_of_lt (by omega)];exact hyd2 _ hyd
     clear hyt hyd hyd2 hsx g1 g2 cg hx hy hR hcl hb hset
     repeat' first|simp only[go_sem,zEI, *]|apply bc<;>intro hc
     refine zS (by kernel_rfl) ?_
     repeat' first|simp only[go_sem,zEI, *]|apply bc<;>intro hc|(refine zA.mono hqn ?_;rintro r h ⟨hq2,rfl⟩)
   ·have e1:decide (((m+1:Nat):Int)<((l.length- (i+1):Nat):Int))=false:=decide_eq_false (by omega);have hme:i+2+m=l.length:=by omega
    have hce:yk qh l (i+2+m)=cpt qh l:=by rw[hme];rfl
    rw[hce] at hyt f5 hcl;have hcle:(cpt qh l).length≤l.length:=zBo _;have hsl:=fun(H:Heap)=>wu (P:=Tryz.prog) (t:=45) (sz:=2) (id:=id) (h:=H) zN7 wj zAB (k:= .i64) hcle;have hsh:=fun(H:Heap)=>zAn (P:=Tryz.prog) (t:=45) (h:=H) zN7 wj (id:=id) (sz:=2) zAB (k:= .i64) hcle;obtain⟨rest,hclr⟩:=zIF (P:=Tryz.prog) (sz:=2) (t:=45) wj zEs rfl rfl hrow2 (zCo num ys) (n:=(cpt qh l).length) (by rw[zAf];omega);have htk:(vbs num ys).take (cpt qh l).length=vbs num (cpt qh l):=by rw[vbs,←List.map_take,hyt];rfl
    rw[htk,zEN,zAf,hyl] at hclr;have hfin:=hQ (.rs id 2 0 (cpt qh l).length) (k0.set id (.row ((vbs num (cpt qh l)).flatten++rest))) ⟨rfl,rest,rfl⟩;clear hyt hyd hme hce htk hQ
    repeat' first|simp only[go_sem,zEI, *]|apply bc<;>intro hc
 ·have e1:decide (((i+1:Nat):Int)<(l.length:Int))=false:=decide_eq_false (by omega);have hd:=hdone fun j h1 h2=>hj j h1 (by omega);clear hj hdone hsame q1 h0 hQ
  repeat' first|simp only[go_sem,zEI, *]|apply bc<;>intro hc
theorem zbe (g:Heap):zA Tryz.prog 221 [.nilsl, .int .i64 0, .int .i64 0, .fn (.func 76) [] []] g fun _ h'=>h'=g:=by
 have hw:IntKind.i64.wrap (0+1)=1:=rfl;have hlt:decide ((1:Int)<0)=false:=rfl;refine zA.of_fn (g:=zP1) mix Tryz.func221 zeY rfl rfl ?_;simp only[Tryz.f221,gJ]
 repeat' first|simp only[go_sem,zaJ, *]|apply bc<;>intro hc
 refine zy (fun j fr h2=>fr 2= .int .i64 0∧fr 8= .int .i64 1∧h2=g) 0 ?_ ?_
 ·simp only[go_sem,zaJ,true_and,and_true,Int.ofNat_zero]
 rintro j fr2 h2 _ ⟨f2,f8,rfl⟩
 repeat' first|simp only[go_sem,zaJ, *]|apply bc<;>intro hc
theorem zbf (m:Int) (g:Heap):zA Tryz.prog 163 [.nilsl, .int .i64 0, .int .i64 0, .int .i64 m, .fn (.func 76) [] []] g fun _ h'=>h'=g:=by
 have hw:IntKind.i64.wrap (0-0)=0:=rfl;have h12:decide ((0:Int)≤12)=true:=rfl;have hi:=zbe;refine zA.of_fn (g:=zPo) mix Tryz.func163 zeA rfl rfl ?_;simp only[Tryz.f163,gJ]
 repeat' first|simp only[go_sem,zaH, *]|apply bc<;>intro hc
 refine zy (fun j fr h2=>fr 0= .nilsl∧fr 1= .int .i64 0∧fr 2= .int .i64 0∧fr 4= .fn (.func 76) [] []∧h2=g) 0 ?_ ?_
 ·simp only[go_sem,zaH,true_and,and_true,Int.ofNat_zero]
 rintro j fr2 h2 _ ⟨f0,f1,f2,f4,rfl⟩
 repeat' first|simp only[go_sem,zaH, *]|apply bc<;>intro hc
theorem zXe (g:Heap):zA Tryz.prog 112 [.nilsl, .fn (.func 76) [] []] g fun _ h'=>h'=g:=by
 have hcv:we Tryz.prog 3 239 (.int .i64 0)=some (.int .u64 0):=by kernel_rfl
 have hb:=zMz (n:=0) (by omega);have hp:=fun m=>zbf m;have hl:∀h,zCr Tryz.prog 45 .nilsl h=some (.int .i64 0):=fun h=>yo (zf.nil (sz:=2)) Tryz.underlying45;simp only[Int.ofNat_zero] at hb;refine zA.of_fn (g:=zPg) mix Tryz.func112 zdq rfl rfl ?_;simp only[Tryz.f112,gJ]
 repeat' first|simp only[go_sem,zhw, *]|apply bc<;>intro hc|(refine zA.mono (hb _) ?_;rintro r h ⟨rfl,rfl⟩)
theorem zO3 (g:Heap):zA Tryz.prog 113 [.nilsl, .fn (.func 45) [] []] g fun r h'=>h'=g∧r= .nilsl:=by
 have hl:∀h,zCr Tryz.prog 45 .nilsl h=some (.int .i64 0):=fun h=>yo (zf.nil (sz:=2)) Tryz.underlying45;have hlt:decide ((0:Int)<2)=true:=rfl;refine zA.of_fn (g:=zMR) mix Tryz.func113 zaG rfl rfl ?_;simp only[Tryz.f113,gJ]
 repeat' first|simp only[go_sem,zEI, *]|apply bc<;>intro hc
theorem zO4 {num:Int} {l:List (List Int)} {id:Nat} {g:Heap} (h0:l≠[]) (hl:l.length≤16777216) (hle:∀x∈l,x.length≤1048576) (hrow:g.at' id=some (.row (vbs num l).flatten)):
  zA Tryz.prog 113 [.rs id 2 0 l.length, .fn (.func 45) [] []] g fun r h'=>h'=g.del id∧r= .sl 2 (vbs num (cpt qh l)) .no:=
 zA.freezeD ((zR2 h0 hl hle hrow).mono (by
  rintro r h' ⟨rfl,rest,rfl⟩;exact⟨id,_,zC _ _ _,by rw[zOk],zLC (zCo num _) (zAf num _) rfl⟩))
def zVJ (s:D):Nat→D
 |0=> .fn (.func 155) [s] []
 |1=> .fn (.func 156) [s] []
 |2=> .fn (.func 157) [s] []
 |3=> .fn (.func 158) [s] []
 |4=> .fn (.func 159) [s] []
 |_=> .fn (.func 160) [s] []
def zEV (c:Cat) (fs:List Fac) (al:Nat→Option Alt) (O:KV):Nat→List (List Int)
 |0=>(zo fs al).flatMap (wM c fs al)
 |1=>(zo fs al).flatMap (zAK c fs al O)
 |2=>(zo fs al).flatMap (zDt c fs al)
 |3=>(zo fs al).flatMap (wc c fs al)
 |4=>(zDu fs).flatMap (zCD fs O)
 |_=>zIX c fs
def qn (s:D) (i:Nat):List D:=[.int .i64 (i:Int),zVJ s i]
def zcc (s:D):List (List D):=[qn s 0,qn s 1,qn s 2,qn s 3,qn s 4,qn s 5]
theorem zXf (s:D):∀i,i<6→(zcc s)[i]? =some (qn s i)
 |0,_=>rfl
 |1,_=>rfl
 |2,_=>rfl
 |3,_=>rfl
 |4,_=>rfl
 |5,_=>rfl
 |n+6,h=>by omega
theorem zF1:∀ {a:List D},a.length=2→∃x y,a= [x,y]
 | [x,y],_=>⟨x,y,rfl⟩
theorem zf1 (sc:List D) (h:Heap):zA Tryz.prog 107 [.iptr sc 0] h fun r h'=>h'=h∧r= .sl 2 (zcc (.iptr sc 0)) .full:=by
 refine zA.of_fn (g:=zPm) mix Tryz.func107 zd5 rfl rfl ?_;simp only[Tryz.f107,gJ];have hb:∀ (i:Int) (f:FuncId),yC Tryz.prog 190 [(0, .int .i64 i),(1, .fn (.func f) [.iptr sc 0] [])]=some (.agg [.int .i64 i, .fn (.func f) [.iptr sc 0] []]):=fun i f=>by
  simp[yC,zOC,zML,qS,yX,D.cells,D.notTuple]
 have hs:∀a b c d e f:List D,a.length=2→b.length=2→c.length=2→d.length=2→e.length=2→f.length=2→zK Tryz.prog false h.next 186 6 [(0, .agg a),(1, .agg b),(2, .agg c),(3, .agg d),(4, .agg e),(5, .agg f)] h=some (.sl 2 [a,b,c,d,e,f] .full,h):=fun a b c d e f ha hb hc hd he hf=>by
  obtain⟨a1,a2,rfl⟩:=zF1 ha;obtain⟨b1,b2,rfl⟩:=zF1 hb;obtain⟨c1,c2,rfl⟩:=zF1 hc;obtain⟨d1,d2,rfl⟩:=zF1 hd;obtain⟨e1,e2,rfl⟩:=zF1 he;obtain⟨f1,f2,rfl⟩:=zF1 hf;simp[zK,zMK,zML,zOB,D.notTuple,D.cells,zBC,qS,yX,yD,lim]
 simp only[go_sem,zd4,hb];rw[hs _ _ _ _ _ _ rfl rfl rfl rfl rfl rfl];simp only[go_sem,zd4];rfl
theorem zjU {c:Cat} {fs:List Fac} {al:Nat→Option Alt} {M:KM Int} {O:KV} {sc:List D} {m1 m2:Nat} (hs:Stt c fs al M O sc m1 m2) (hn:fs.length≤16)
  {ff:FuncId} {cap:List D} {Y:List (List Int)→(Nat→Prop)→Heap→Prop} (y:Fnd2 Tryz.prog 5 ff cap Y) {S:Nat→Prop} {w:Heap} (hY:Y [] S w) (hH:StH M O m1 m2 w) (n1:¬S m1) (n2:¬S m2):∀i,i<6→
  zGU Tryz.prog (zVJ (.iptr sc 0) i) [.fn (.func ff) [] cap] w fun _ h'=>∃S',(∀i,S' i→S i∨w.next≤i)∧But S w h'∧Y (zEV c fs al O i) S' h':=by
 intro i hi;rcases i with _|_|_|_|_|_|i
 ·exact zXY hs hn y hY hH n1 n2
 ·exact zbI hs hn y hY hH n1 n2
 ·exact zfs hs hn y hY hH n1 n2
 ·exact zbL hs hn y hY hH n1 n2
 ·exact zfv hs hn y hY hH n1 n2
 ·exact zfw hs hn y hY hH n1 n2
 ·omega
def zCF (c:Cat) (fs:List Fac) (al:Nat→Option Alt) (O:KV) (i:Nat):List (List Int):=cpt qh (srt qh ((zEV c fs al O i).map zDv))
def zXg (c:Cat) (fs:List Fac) (al:Nat→Option Alt) (O:KV) (i:Nat):D:=if zEV c fs al O i= [] then .nilsl else .sl 2 (vbs (i:Int) (zCF c fs al O i)) .no
theorem zXh {c:Cat} {fs:List Fac} {al:Nat→Option Alt} {O:KV} (hn:fs.length≤16) (i:Nat):(zEV c fs al O i).length≤16777216:=by
 have h4:=zBI (al:=al) hn;have hfm:∀ {α:Type} {l:List α} {f:α→List (List Int)} {m n:Nat},l.length≤n→(∀x∈l,(f x).length≤m)→n*m≤16777216→(l.flatMap f).length≤16777216:=fun h1 h2 h3=>Nat.le_trans (qI h2) (Nat.le_trans (Nat.mul_le_mul_right _ h1) h3);unfold zEV;split
 ·exact hfm (m:=1) h4 (fun t _=>by unfold wM;split<;>simp) (by omega)
 ·exact hfm (m:=1) h4 (fun t _=>by
   unfold zAK;split
   ·simp
   ·split<;>simp) (by omega)
 ·exact hfm (m:=16) h4 (fun t _=>zNK c hn al t) (by omega)
 ·exact hfm (m:=4096) h4 (fun t _=>zJz c hn al t) (by omega)
 ·exact hfm (m:=16) (n:=16) (Nat.le_trans (qG _ fs 0) hn) (fun t _=>zNL hn O t) (by omega)
 ·unfold zIX;split
  ·simp
  ·exact hfm (m:=1) (n:=16) (Nat.le_trans (qG _ fs 0) hn) (fun t _=>Nat.le_refl _) (by omega)
theorem zVK (l:List Int):(zDv l).length≤l.length:=Nat.le_trans (zBo _) (Nat.le_of_eq (qR l).length_eq)
theorem zVL {c:Cat} {fs:List Fac} {al:Nat→Option Alt} {O:KV} (i:Nat):∀l∈zEV c fs al O i,l.length≤5:=by
 intro l hl;unfold zEV at hl;split at hl
 ·obtain⟨t,_,h⟩:=List.mem_flatMap.1 hl;unfold wM at h;split at h
  ·rw[List.mem_singleton.1 h];simp
  ·cases h
 ·obtain⟨t,_,h⟩:=List.mem_flatMap.1 hl;unfold zAK at h;split at h
  ·cases h
  ·split at h
   ·rw[List.mem_singleton.1 h];simp
   ·cases h
 ·obtain⟨t,_,h⟩:=List.mem_flatMap.1 hl;obtain⟨k,_,h⟩:=List.mem_flatMap.1 h;unfold zES at h;split at h
  ·rw[List.mem_singleton.1 h];simp
  ·cases h
 ·obtain⟨t,_,h⟩:=List.mem_flatMap.1 hl;unfold wc at h;split at h
  ·obtain⟨r,_,h⟩:=List.mem_flatMap.1 h;unfold zAz at h;split at h
   ·rw[List.mem_singleton.1 h];simp
   ·cases h
  ·cases h
 ·obtain⟨t,_,h⟩:=List.mem_flatMap.1 hl;unfold zCD at h;split at h
  ·cases h
  ·split at h
   ·cases h
   ·obtain⟨r,_,h⟩:=List.mem_flatMap.1 h;rw[List.mem_singleton.1 h];simp
 ·unfold zIX at hl;split at hl
  ·cases hl
  ·obtain⟨r,_,h⟩:=List.mem_flatMap.1 hl;rw[List.mem_singleton.1 h];simp
def zVM (sc:List D):D:= .fn (.func 106) [] [.iptr [.iptr sc 0] 0]
theorem zNQ (sc:List D) (g:Heap):zA Tryz.prog 75 [.iptr sc 0] g fun r h'=>h'=g∧r=zVM sc:=by
 refine zA.of_fn (g:=zWF) mix Tryz.func75 zkH rfl rfl ?_;simp only[Tryz.f75,gJ]
 repeat' first|simp only[go_sem,zlH,zVM, *]|apply bc<;>intro hc
theorem zVN (num:Int) (l:List (List Int)):l.map (zI2 num)=vbs num (l.map zDv):=by
 unfold vbs;rw[List.map_map];rfl
set_option maxHeartbeats 4000000 in
theorem zLU {c:Cat} {fs:List Fac} {al:Nat→Option Alt} {M:KM Int} {O:KV} {sc:List D} {m1 m2:Nat} (hs:Stt c fs al M O sc m1 m2) (hn:fs.length≤16)
  {id:Nat} {Y:Nat→(Nat→Prop)→Heap→Prop} {Z:(Nat→Prop)→Heap→Prop} (y:Yld Tryz.prog id 6 (fun i=>[zXg c fs al O i]) Y Z) {S:Nat→Prop} {w:Heap} (hY:Y 0 S w) (hH:StH M O m1 m2 w) (n1:¬S m1) (n2:¬S m2):
  zA Tryz.prog 106 [.yld id, .iptr [.iptr sc 0] 0] w fun _ h'=>∃S',(∀j,S' j→S j∨w.next≤j)∧But S w h'∧(Y 6 S' h'∨Z S' h'):=by
 have hrw:=zf1 sc;have hlr:∀h,zCr Tryz.prog 186 (.sl 2 (zcc (.iptr sc 0)) .full) h=some (.int .i64 6):=fun h=>yo (zf.mk (sz:=2) (xs:=zcc (.iptr sc 0)) .full) Tryz.underlying186;refine zA.of_fn (g:=zPf) mix Tryz.func106 zdp rfl rfl ?_;simp only[Tryz.f106,gJ]
 repeat' first|simp only[go_sem,zGZ, *]|apply bc<;>intro hc|(refine zA.mono (hrw _) ?_;rintro r h ⟨hq,rfl⟩)
 subst hq
 rename Heap=>w
 refine zy (fun i fr h'=>fr 0= .yld id∧fr 1= .iptr [.iptr sc 0] 0∧fr 7= .sl 2 (zcc (.iptr sc 0)) .full∧fr 8= .int .i64 6∧fr 9= .int .i64 (i:Int)∧∃S',(∀j,S' j→S j∨w.next≤j)∧But S w h'∧Y i S' h') 6 ?_ ?_
 ·have hst:∃S',(∀j,S' j→S j∨w.next≤j)∧But S w w∧Y 0 S' w:=⟨S,fun j hj=> .inl hj,But.refl S w,hY⟩;simp only[go_sem,zGZ,true_and,and_true,Int.ofNat_zero];exact hst
 rintro i fr h1 hi ⟨f0,f1,f7,f8,f9,S',hS,hbut,hYi⟩;by_cases hlt:i<6
 ·have e1:decide ((i:Int)<6)=true:=decide_eq_true (by omega);have ew:IntKind.i64.wrap ((i:Int)+1)=((i+1:Nat):Int):=zh (by unfold lim;omega);have hw:zO true 2 (qn (.iptr sc 0) i) 0=some (.agg (qn (.iptr sc 0) i)):=zB rfl (by omega);have hst:∀ (h:Heap) (id:Nat),zQ Tryz.prog 190 (.ptr id 0) (.agg (qn (.iptr sc 0) i)) (h.new id (.row [.int .i64 0, .nilfn]))=some (h.new id (.row (qn (.iptr sc 0) i))):=fun h id=>zU zOB (by omega) rfl rfl (by rcases i with _|_|_|_|_|i<;>rfl)
  have ha:zT Tryz.prog 186 (.sl 2 (zcc (.iptr sc 0)) .full) (.int .i64 (i:Int))=some (.iptr (qn (.iptr sc 0) i) 0):=zY (zf.mk (sz:=2) _) zMK zOB (zXf _ _ hlt);have hc1:(qn (.iptr sc 0) i)[1]? =some (zVJ (.iptr sc 0) i):=rfl;have hb1:=hbut.1;obtain⟨H,hHe,hHn,hnr,hnl,hE⟩:∃H:Heap,(h1.new h1.next (.row (qn (.iptr sc 0) i))).new (h1.next+1) (.row [.nilsl])=H∧H.next=h1.next+2∧H.at' h1.next=some (.row (qn (.iptr sc 0) i))∧H.at' (h1.next+1)=some (.row [.nilsl])∧Ext h1 H:=
   ⟨_,rfl,zb _ (by rw[zD];exact Nat.le_refl _) _,by rw[zF (by omega),zJ],zJ _ _ _,((Ext.refl h1).new (Nat.le_refl _) _).new (by omega) _⟩
  have hbutH:But S w H:=hbut.trans (hE.but S) fun i hi=> .inl hi;have hstH:StH M O m1 m2 H:=⟨⟨by rw[hbutH.2 _ hH.2.1 n1];exact hH.1.1,by rw[hbutH.2 _ hH.2.2 n2];exact hH.1.2⟩,by have:=hH.2.1;omega,by have:=hH.2.2;omega⟩;have Y0:YVf (i:Int) (zVJ (.iptr sc 0) i) (h1.next+1) h1.next [] (fun j=>j=h1.next+1∨j=h1.next) H:=⟨by omega,by omega,by omega,hnr, .nilsl,hnl, .inl ⟨rfl,rfl⟩,fun e=>e,fun e=>e,fun j=>⟨fun e=>e.elim .inl fun e=> .inr (.inl e),fun e=>e.elim .inl fun e=>e.elim .inr fun e=>e.elim⟩⟩
  have hcr:=zjU hs hn (zXc (num:=(i:Int)) (fn:=zVJ (.iptr sc 0) i) (nl:=h1.next+1) (nr:=h1.next)) Y0 hstH (fun e=>by have:=hH.2.1;omega) (fun e=>by have:=hH.2.2;omega) i hlt;clear hstH hbutH Y0
  repeat' first|simp only[go_sem,zGZ,zD, *]|apply bc<;>intro hc
  refine zGU.mono ?_ hcr;rintro r h2 ⟨S2,s2,b2,w1,w2,w3,w4,d2,w5,w6,w7,w8,w9⟩;have b20:=b2.1;have hold:∀j,j<h1.next→h2.at' j=h1.at' j:=fun j hj=>by rw[b2.2 j (by omega) (by omega),hE.2 j hj]
  rw[zVN] at w6;have hRl:=zXh (c:=c) (al:=al) (O:=O) hn i;have hR5:=zVL (c:=c) (fs:=fs) (al:=al) (O:=O) i;clear hcr hst ha hw hc1 hHe e1;rcases w6 with⟨rfl,e⟩ | ⟨id2,rfl,g1,g2,g3⟩
  ·have e0:zEV c fs al O i= []:=by simpa [vbs] using e
   have hv:zXg c fs al O i= .nilsl:=by unfold zXg;rw[if_pos e0]
   have hE4:Ext h1 h2:=⟨by omega,hold⟩;have hgo:=y.go i S' h2 hlt (y.ext hYi hE4);have hfin:∀ (S3:Nat→Prop) (h5:Heap),(∀j,S3 j→S' j∨h2.next≤j)→But S' h2 h5→(∀j,S3 j→S j∨w.next≤j)∧But S w h5:=fun S3 h5 hS3 hb5=>⟨fun j hj=>by
    rcases hS3 j hj with hj|hj
    ·exact hS j hj
    ·exact .inr (by omega),(hbut.trans (hE4.but S) fun i hi=> .inl hi).trans hb5 hS⟩
   simp only[hv] at hgo;simp only[go_sem,zGZ,w5,f0];refine(zXe h2).mono ?_;rintro r h3 hq;subst hq;simp only[go_sem,zGZ,w5,f0];refine(zO3 h3).mono ?_;rintro r h4 ⟨hq,rfl⟩;subst hq;refine hgo.mono ?_;rintro r h5 ⟨S3,hS3,hb5,⟨rfl,hY5⟩ | ⟨rfl,hZ5⟩⟩
   ·have hres:=hfin S3 h5 hS3 hb5;simp only[go_sem,zGZ,vun,ew,f0,f1,f7,f8,f9,true_and];exact⟨hlt,S3,hres.1,hres.2,hY5⟩
   ·have hres:=hfin S3 h5 hS3 hb5;simp only[go_sem,zGZ,vun];exact⟨S3,hres.1,hres.2, .inr hZ5⟩
  ·have hne:(zEV c fs al O i).map zDv≠[]:=fun e=>g3 (by rw[e];rfl);have hne0:zEV c fs al O i≠[]:=fun e=>hne (by rw[e];rfl);have hml:((zEV c fs al O i).map zDv).length≤16777216:=by rw[List.length_map];exact hRl
   have hmx:∀x∈(zEV c fs al O i).map zDv,x.length≤1048576:=fun x hx=>by
    obtain⟨z,hz,rfl⟩:=List.mem_map.1 hx;have h1:=zVK z;have h2:=hR5 z hz;omega
   have hv:zXg c fs al O i= .sl 2 (vbs (i:Int) (zCF c fs al O i)) .no:=by unfold zXg;rw[if_neg hne0]
   have hrv:zCF c fs al O i=cpt qh (srt qh ((zEV c fs al O i).map zDv)):=rfl;rw[hrv] at hv;clear hrv;generalize(zEV c fs al O i).map zDv=L at *
   have hid:H.next≤id2:=by
    rcases s2 id2 ((w9 id2).2 (.inr (.inr rfl))) with(e|e)|e
    ·exact absurd e.symm (fun e=>w7 (by rw[e];rfl))
    ·exact absurd e.symm (fun e=>w8 (by rw[e];rfl))
    ·exact e
   have hso:=zbT (num:=(i:Int)) hne hml hmx g1;have sl:(srt qh L).length=L.length:=(qR L).length_eq;have s0:srt qh L≠[]:=fun e=>hne (List.length_eq_zero_iff.1 (by rw[←sl,e];rfl));have hco:=zO4 (num:=(i:Int)) s0 (by omega) (fun x hx=>hmx x (zII.1 hx)) (zC h2 id2 (.row (vbs (i:Int) (srt qh L)).flatten));rw[sl] at hco;rw[zAf] at w5;obtain⟨h3,hh3,hn3,w53⟩:∃h3,h2.set id2 (.row (vbs (i:Int) (srt qh L)).flatten)=h3∧h3.next=h2.next∧h3.at' (h1.next+1)=some (.row [.rs id2 2 0 L.length]):=⟨_,rfl,ze _ _ _,by rw[zE (by omega)];exact w5⟩
   have hE4:Ext h1 (h3.del id2):=⟨by rw[zQK,hn3];omega,fun j hj=>by rw[yV (by omega),←hh3,zE (by omega),hold j hj]⟩;have hn4:(h3.del id2).next=h2.next:=by rw[zQK,hn3]
   rw[hh3] at hso hco;generalize h3.del id2=h4 at *
   have hgo:=y.go i S' h4 hlt (y.ext hYi hE4);have hfin:∀ (S3:Nat→Prop) (h5:Heap),(∀j,S3 j→S' j∨h4.next≤j)→But S' h4 h5→(∀j,S3 j→S j∨w.next≤j)∧But S w h5:=fun S3 h5 hS3 hb5=>⟨fun j hj=>by
    rcases hS3 j hj with hj|hj
    ·exact hS j hj
    ·exact .inr (by omega),(hbut.trans (hE4.but S) fun i hi=> .inl hi).trans hb5 hS⟩
   simp only[hv] at hgo;simp only[go_sem,zGZ,w5,f0];refine hso.mono ?_;rintro r h ⟨rfl,hq⟩;subst hq;simp only[go_sem,zGZ,w53,f0];refine hco.mono ?_;rintro r h ⟨hq,rfl⟩;subst hq;refine hgo.mono ?_;rintro r h5 ⟨S3,hS3,hb5,⟨rfl,hY5⟩ | ⟨rfl,hZ5⟩⟩
   ·have hres:=hfin S3 h5 hS3 hb5;simp only[go_sem,zGZ,vun,ew,f0,f1,f7,f8,f9,true_and];exact⟨hlt,S3,hres.1,hres.2,hY5⟩
   ·have hres:=hfin S3 h5 hS3 hb5;simp only[go_sem,zGZ,vun];exact⟨S3,hres.1,hres.2, .inr hZ5⟩
 ·have e1:decide ((i:Int)<6)=false:=decide_eq_false (by omega);have hie:i=6:=by omega
  subst hie;have hfin:∃S',(∀j,S' j→S j∨w.next≤j)∧But S w h1∧(Y 6 S' h1∨Z S' h1):=⟨S',hS,hbut, .inl hYi⟩;clear hS hbut hYi hrw
  repeat' first|simp only[go_sem,zGZ, *]|apply bc<;>intro hc
theorem zR3 {l:List Int} :∀x∈wU l,yr x:=fun x hx=>by
 obtain⟨s,_,rfl⟩:=List.mem_map.1 hx;exact⟨rfl,⟨trivial,trivial⟩,rfl⟩
theorem zR4 (num:Int) (l:List Int):yr (zRw num l):=by
 have h:=yg (zR3 (l:=l)) (sz:=1) .no;refine⟨rfl,⟨trivial,h.2,trivial⟩,?_⟩;simp only[zRw,z7,h.1];rfl
section
variable (c:Cat) (fs:List Fac) (al:Nat→Option Alt) (O:KV)
def zNd (k:Nat):List (List D):=(List.range k).flatMap fun i:Nat=>vbs (i:Int) (zCF c fs al O i)
end
section
variable {c:Cat} {fs:List Fac} {al:Nat→Option Alt} {O:KV}
theorem zNR (k:Nat):zNd c fs al O (k+1)=zNd c fs al O k++vbs (k:Int) (zCF c fs al O k):=by
 unfold zNd;rw[List.range_succ,List.flatMap_append,List.flatMap_cons,List.flatMap_nil,List.append_nil]
theorem zJ3 {k:Nat} :∀x∈zNd c fs al O k,yr x:=fun x hx=>by
 obtain⟨i,_,h⟩:=List.mem_flatMap.1 hx;obtain⟨l,_,rfl⟩:=List.mem_map.1 h;exact zR4 _ _
theorem zVO (i:Nat):(zCF c fs al O i).length≤(zEV c fs al O i).length:=by
 unfold zCF;refine Nat.le_trans (zBo _) ?_;rw[(qR _).length_eq,List.length_map];exact Nat.le_refl _
theorem zR5 (k:Nat):(zXg c fs al O k= .nilsl∧vbs (k:Int) (zCF c fs al O k)= [])∨(vbs (k:Int) (zCF c fs al O k)≠[]∧∃tk,zXg c fs al O k= .sl 2 (vbs (k:Int) (zCF c fs al O k)) tk):=by
 unfold zXg;by_cases h:zEV c fs al O k= []
 ·rw[if_pos h];refine .inl ⟨rfl,List.length_eq_zero_iff.1 ?_⟩;have:=zVO (c:=c) (fs:=fs) (al:=al) (O:=O) k;rw[h,List.length_nil] at this;rw[zAf];omega
 ·rw[if_neg h];refine .inr ⟨fun e=> ?_,_,rfl⟩;have hl:0<(srt qh ((zEV c fs al O k).map zDv)).length:=by
   rw[(qR _).length_eq,List.length_map];exact List.length_pos_iff.2 h
  have:=zLA (c:=qh) hl _ (Nat.le_refl _) hl;have h2:(zCF c fs al O k).length=0:=by rw[←zAf (k:Int),e];rfl
  unfold zCF cpt at h2;omega
end
end Go.V
