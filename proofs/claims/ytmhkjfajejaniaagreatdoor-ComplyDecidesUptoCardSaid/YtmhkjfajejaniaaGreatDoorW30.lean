/- Rules of the machine of abstract values, part 6. No condition. -/
import Derived.Test.YtmhkjfajejaniaaGreatDoorW23
import Derived.Test.YtmhkjfajejaniaaGreatDoorW21
import Derived.Test.YtmhkjfajejaniaaGreatDoorW22
set_option linter.all false
namespace Go.V
attribute [go_sem_proc] Nat.reduceEqDiff Int.reduceBEq Int.reduceLT Int.reduceLE Int.reduceGT Int.reduceGE Nat.reduceAdd Nat.reduceBEq
attribute [go_sem_proc ↓] reduceIte
attribute [go_sem] Nat.zero_add List.contains_cons zBN zBa decide_true decide_false bne Bool.or_self Bool.false_and Bool.true_and Bool.and_false Bool.and_true Bool.and_self Bool.not_not zA5 D.notTuple D.cells
section
variable {b:Bool} {x y:Prop}
@[go_sem] theorem zgT (w:HidP x y):zer (b==true) x y w=zWX (.bool b) x y w:=by cases b<;>rfl
@[go_sem] theorem zgU (w:HidP x y):zer (b==false) x y w=zWX (.bool b) y x ⟨⟩:=by cases b<;>rfl
@[go_sem] theorem zgV (w:HidP x y):zWX (.bool (!b)) x y w=zWX (.bool b) y x ⟨⟩:=by cases b<;>rfl
theorem bc {w:HidP x y} (h1:b=true→x) (h2:b=false→y):zWX (.bool b) x y w:=zT8 h1 h2
end
open Go.Proofs
set_option maxRecDepth 100000
theorem zH7 (b:UInt8) (r:List UInt8):zAp (b::r)=(!(decide (((b::r).length:Int)>32)||decide ((b.toNat:Int)<97)||decide ((b.toNat:Int)>122)||((b::r:List UInt8)== [97,110,100])||((b::r:List UInt8)== [111,114])||((b::r:List UInt8)== [119,105,116,104]))&&(Lib.trimS (b::r) zFn== [])):=by
 have e:decide (((b::r).length:Int)>32)=decide ((b::r).length>32):=zaA _ 32;rw[e];rfl
theorem zH8 {s:List UInt8} (hl:s.length≤1048576) (g:Heap):zA Tryz.prog 147 [.str s] g fun r h'=>h'=g∧r= .bool (zAp s):=by
 have ht:∀h,zA Tryz.prog 189 [.str s, .str [97,98,99,100,101,102,103,104,105,106,107,108,109,110,111,112,113,114,115,116,117,118,119,120,121,122,48,49,50,51,52,53,54,55,56,57,45,46]] h fun r h'=>h'=h∧r= .str (Lib.trimS s zFn):=fun h=>zYT hl (c:=zFn) (by decide) (by decide) h;refine zA.of_fn (g:=zPx) mix Tryz.func147 zd8 rfl rfl ?_;simp only[Tryz.f147,gJ];cases s with
 |nil=>
  have e1:decide ((([]:List UInt8).length:Int)<1)=true:=rfl;clear ht
  repeat' first|simp only[go_sem,zd7, *]|apply bc<;>intro hc
  rfl
 |cons b r=>
  have e1:decide (((b::r).length:Int)<1)=false:=decide_eq_false (by simp only[List.length_cons];omega);have hi:zBZ Tryz.prog 9 (.str (b::r)) (.int .i64 0)=some (.int .u8 b.toNat):=zAV (n:=0) Tryz.underlying9 rfl;have hn:=zH7 b r;generalize hs:b::r=s at *
  repeat' first|simp only[go_sem,zd7, *]|apply bc<;>intro hc|(refine zA.mono (ht _) ?_;rintro r h ⟨rfl,rfl⟩)
theorem zRI {s:List UInt8} (hl:s.length≤1048576) (g:Heap):zA Tryz.prog 148 [.str s] g fun r h'=>h'=g∧Fin 1 (yP (zJo s)) r:=by
 have hsp:=zT6 hl 10;refine zA.of_fn (g:=zP4) mix Tryz.func148 zeP rfl rfl ?_;simp only[Tryz.f148,gJ];cases h1:(s== []) with
 |true=>
  have:s= []:=by simpa using h1
  subst this;clear hsp
  repeat' first|simp only[go_sem,zeO, *]|apply bc<;>intro hc
  exact .inl ⟨rfl,rfl⟩
 |false=>
  have h2:s≠[]:=by simpa using h1
  have h3:zJo s=zf 10 s:=by rw[zJo,if_neg h2]
  clear h2
  repeat' first|simp only[go_sem,zeO, *]|apply bc<;>intro hc|(refine zA.mono (hsp _) ?_;rintro r h ⟨rfl,rfl⟩)
  exact .inr rfl
theorem zQG (n:Int) (g:Heap):zA Tryz.prog 151 [.int .i64 n] g fun r h'=>h'=g∧r= .bool (decide (n≥0)&&decide (n≤5)):=by
 refine zA.of_fn (g:=zPe) mix Tryz.func151 zdX rfl rfl ?_;simp only[Tryz.f151,gJ]
 repeat' first|simp only[go_sem,zhj, *]|apply bc<;>intro hc
def leB (a b:List UInt8):Bool:=zIn a b||a==b
theorem zE8 (a b:List UInt8):zVA .leq a b=some (.bool (leB a b)):=rfl
def zH9 (l:List (List UInt8)):Bool:=decide (∀i,i<l.length-1→leB (l.getD (i+1) []) (l.getD i [])=false)
def zQH (l:List Int):Bool:=decide (∀i,i<l.length-1→l.getD i 0<l.getD (i+1) 0)
theorem zMd {l:List (List UInt8)} {i:Nat} (h:i<l.length):l.getD i []=l[i]:=by simp[h]
theorem zWZ {l:List Int} {i:Nat} (h:i<l.length):l.getD i 0=l[i]:=by simp[h]
theorem zAb {l:List Int} {d:D} (hd:zX 1 (wT l) d) (h:Heap):zCF Tryz.prog 31 d h=some (.int .i64 l.length):=by rw[yY hd Tryz.underlying31,yo]
theorem zCU {l:List Int} {d:D} (hd:zX 1 (wT l) d) {i:Nat} (hi:i<l.length):zS Tryz.prog 31 d (.int .i64 (i:Int))=some (.iptr [.int .i64 l[i]] 0):=zY hd yF wL (zQE hi)
theorem zMe {l:List (List UInt8)} {d:D} (hd:zX 1 (yP l) d) (hl:l.length≤1048576) (g:Heap):zA Tryz.prog 153 [d] g fun r h'=>h'=g∧r= .bool (zH9 l):=by
 have hlen:=yz hd;refine zA.of_fn (g:=zPy) mix Tryz.func153 zd9 rfl rfl ?_;simp only[Tryz.f153,gJ]
 repeat' first|simp only[go_sem,zOE, *]|apply bc<;>intro hc
 refine z7 (fun i fr h=>fr 0=d∧fr 3= .int .i64 ((i+1:Nat):Int)∧h=g∧∀j,j<i→j<l.length-1→leB (l.getD (j+1) []) (l.getD j [])=false) l.length ?_ ?_
 ·simp only[go_sem,zOE,true_and,and_true,Int.ofNat_zero];exact⟨rfl,fun j hj=>by omega⟩
 rintro i fr h hi ⟨f0,f3,rfl,hj⟩;by_cases hlt:i+1<l.length
 ·have e1:decide (((i+1:Nat):Int)<(l.length:Int))=true:=decide_eq_true (by omega);have ew:IntKind.i64.wrap (((i+1:Nat):Int)+1)=((i+2:Nat):Int):=ze (by unfold lim;omega);have ew2:IntKind.i64.wrap (((i+1:Nat):Int)-1)=((i:Nat):Int):=by rw[zV (by omega) (by omega)];omega
  have a1:=zAW hd hlt;have a2:=zAW hd (show i<l.length by omega);have a3:=zE8 l[i+1] l[i];cases hb:leB l[i+1] l[i] with
  |true=>
   have hr:zH9 l=false:=decide_eq_false fun q=>by
    have:=q i (by omega);rw[zMd hlt,zMd (by omega),hb] at this;cases this
   clear hj
   repeat' first|simp only[go_sem,zOE, *]|apply bc<;>intro hc
   refine zQ (by kernel_rfl) ?_
   repeat' first|simp only[go_sem,zOE, *]|apply bc<;>intro hc
  |false=>
   have hn:∀j,j<i+1→j<l.length-1→leB (l.getD (j+1) []) (l.getD j [])=false:=fun j h1 h2=>by
    rcases Nat.lt_succ_iff_lt_or_eq.1 h1 with q|rfl
    ·exact hj j q h2
    ·rw[zMd hlt,zMd (by omega),hb]
   clear hj
   repeat' first|simp only[go_sem,zOE, *]|apply bc<;>intro hc
   refine zQ (by kernel_rfl) ?_
   repeat' first|simp only[go_sem,zOE, *]|apply bc<;>intro hc
   exact⟨by omega,hn⟩
 ·have e1:decide (((i+1:Nat):Int)<(l.length:Int))=false:=decide_eq_false (by omega);have hr:zH9 l=true:=decide_eq_true fun j h=>hj j (by omega) h;clear hj
  repeat' first|simp only[go_sem,zOE, *]|apply bc<;>intro hc
theorem zMf {l:List Int} {d:D} (hd:zX 1 (wT l) d) (hl:l.length≤1048576) (g:Heap):zA Tryz.prog 152 [d] g fun r h'=>h'=g∧r= .bool (zQH l):=by
 have hlen:=zAb hd;refine zA.of_fn (g:=zTT) mix Tryz.func152 zhy rfl rfl ?_;simp only[Tryz.f152,gJ]
 repeat' first|simp only[go_sem,zOD, *]|apply bc<;>intro hc
 refine z7 (fun i fr h=>fr 0=d∧fr 3= .int .i64 ((i+1:Nat):Int)∧h=g∧∀j,j<i→j<l.length-1→l.getD j 0<l.getD (j+1) 0) l.length ?_ ?_
 ·simp only[go_sem,zOD,true_and,and_true,Int.ofNat_zero];exact⟨rfl,fun j hj=>by omega⟩
 rintro i fr h hi ⟨f0,f3,rfl,hj⟩;by_cases hlt:i+1<l.length
 ·have e1:decide (((i+1:Nat):Int)<(l.length:Int))=true:=decide_eq_true (by omega);have ew:IntKind.i64.wrap (((i+1:Nat):Int)+1)=((i+2:Nat):Int):=ze (by unfold lim;omega);have ew2:IntKind.i64.wrap (((i+1:Nat):Int)-1)=((i:Nat):Int):=by rw[zV (by omega) (by omega)];omega
  have a1:=zCU hd hlt;have a2:=zCU hd (show i<l.length by omega);cases hb:decide (l[i+1]≤l[i]) with
  |true=>
   have hr:zQH l=false:=decide_eq_false fun q=>by
    have:=q i (by omega);rw[zWZ hlt,zWZ (by omega)] at this;have:=of_decide_eq_true hb;omega
   clear hj
   repeat' first|simp only[go_sem,zOD, *]|apply bc<;>intro hc
   refine zQ (by kernel_rfl) ?_
   repeat' first|simp only[go_sem,zOD, *]|apply bc<;>intro hc
  |false=>
   have hn:∀j,j<i+1→j<l.length-1→l.getD j 0<l.getD (j+1) 0:=fun j h1 h2=>by
    rcases Nat.lt_succ_iff_lt_or_eq.1 h1 with q|rfl
    ·exact hj j q h2
    ·rw[zWZ hlt,zWZ (by omega)];have:=of_decide_eq_false hb;omega
   clear hj
   repeat' first|simp only[go_sem,zOD, *]|apply bc<;>intro hc
   refine zQ (by kernel_rfl) ?_
   repeat' first|simp only[go_sem,zOD, *]|apply bc<;>intro hc
   exact⟨by omega,hn⟩
 ·have e1:decide (((i+1:Nat):Int)<(l.length:Int))=false:=decide_eq_false (by omega);have hr:zQH l=true:=decide_eq_true fun j h=>hj j (by omega) h;clear hj
  repeat' first|simp only[go_sem,zOD, *]|apply bc<;>intro hc
def zDl (a b:List UInt8):Int:=if zIn a b=true then -1 else if a==b then 0 else 1
theorem zQI (a:List UInt8) (g:Heap):zA Tryz.prog 91 [.str a] g fun r h'=>h'=g∧r= .bool false:=by
 have ha:(a==a)=true:=by simp
 refine zA.of_fn (g:=zWH) mix Tryz.func91 zkB rfl rfl ?_;simp only[Tryz.f91,gJ]
 repeat' first|simp only[go_sem,zlC, *]|apply bc<;>intro hc
theorem zMg (a b:List UInt8) (g:Heap):zA Tryz.prog 57 [.str a, .str b] g fun r h'=>h'=g∧r= .int .i64 (zDl a b):=by
 have ca:=zQI a;have cb:=zQI b;refine zA.of_fn (g:=zVp) mix Tryz.func57 zjd rfl rfl ?_;simp only[Tryz.f57,gJ];cases h1:zIn a b with
 |true=>
  have e:zDl a b= -1:=if_pos h1
  repeat' first|simp only[go_sem,zg7, *]|apply bc<;>intro hc|(refine zA.mono (ca _) ?_;rintro r h ⟨rfl,rfl⟩)|(refine zA.mono (cb _) ?_;rintro r h ⟨rfl,rfl⟩)
 |false=>
  cases h2:(a==b) with
  |true=>
   have e:zDl a b=0:=by rw[zDl,if_neg (by rw[h1];exact Bool.false_ne_true),if_pos h2]
   repeat' first|simp only[go_sem,zg7, *]|apply bc<;>intro hc|(refine zA.mono (ca _) ?_;rintro r h ⟨rfl,rfl⟩)|(refine zA.mono (cb _) ?_;rintro r h ⟨rfl,rfl⟩)
  |false=>
   have e:zDl a b=1:=by rw[zDl,if_neg (by rw[h1];exact Bool.false_ne_true),if_neg (by rw[h2];exact Bool.false_ne_true)]
   repeat' first|simp only[go_sem,zg7, *]|apply bc<;>intro hc|(refine zA.mono (ca _) ?_;rintro r h ⟨rfl,rfl⟩)|(refine zA.mono (cb _) ?_;rintro r h ⟨rfl,rfl⟩)
abbrev KN:=List (List UInt8×Int)
def knD (m:KN):List (D×D):=m.map fun p=>(.str p.1, .int .i64 p.2)
def zDm (k:List UInt8):KN→Option Int
 | []=>none
 |(k',v)::m=>if k==k' then some v else zDm k m
def zIz (k:List UInt8) (v:Int):KN→KN
 | []=>[(k,v)]
 |(k',v')::m=>if k==k' then(k,v)::m else(k',v')::zIz k v m
theorem zG1 (p:List UInt8×Int) (m:KN):knD (p::m)=(.str p.1, .int .i64 p.2)::knD m:=rfl
theorem zK2 (k:List UInt8):∀m:KN,zBm [.s] (.str k) (knD m)=some ((zDm k m).map (D.int .i64))
 | []=>rfl
 |(k',v)::m=>by
  have ih:=zK2 k m;rw[zG1,zBm,zC7];cases h:(k==k') with
  |true=>simp[zDm,h]
  |false=>simp only[zDm,h,ih];rfl
theorem zUC (k:List UInt8) (v:Int):∀m:KN,zOz [.s] (.str k) (.int .i64 v) (knD m)=some (knD (zIz k v m))
 | []=>rfl
 |(k',v')::m=>by
  have ih:=zUC k v m;rw[zG1,zOz,zC7];cases h:(k==k') with
  |true=>simp[zIz,h,zG1]
  |false=>simp[zIz,h,zG1,ih]
theorem zMh (m:KN):(knD m).all (fun x=>zP false x.1)=true:=by
 rw[List.all_eq_true];intro x hx;obtain⟨p,_,rfl⟩:=List.mem_map.1 hx;rfl
theorem zMi (k k':List UInt8) (v:Int):∀m:KN,zDm k (zIz k' v m)=if k==k' then some v else zDm k m
 | []=>by simp[zIz,zDm]
 |(k2,v2)::m=>by
  have ih:=zMi k k' v m;simp only[zIz];by_cases h:k'=k2
  ·subst h;simp only[beq_self_eq_true,if_true,zDm];by_cases g:k=k'
   ·subst g;simp
   ·simp[g]
  ·have hb:(k'==k2)=false:=by simp[h]
   simp only[hb,Bool.false_eq_true,if_false,zDm,ih];by_cases g:k=k2
   ·subst g
    have:(k==k')=false:=by simp;exact fun e=>h e.symm
    simp[this]
   ·simp[g]
section
variable {P:Program} {t kt e:TypeId} {id:Nat} {h:Heap} {m:KN}
theorem zJr (hi:h.at' id=some (.map (knD m))) (hm:zO0 P t=some (kt,e)) (hk:zO1 P kt=some (false,[.s])) (hz:qQ P e=some (.int .i64 0)) (k:List UInt8) (ok:Bool):
  yS P t (.map id) (.str k) ok h=some (zDt ok (.int .i64 0) ((zDm k m).map (D.int .i64))):=by
 simp only[yS,hm,hk,hz,zIp,hi,zCs,zMh,zC7,zK2,show zP false (.str k)=true from rfl,Option.isSome_some,Bool.and_self,if_true]
theorem zK3 (hi:h.at' id=some (.map (knD m))) (hm:zO0 P t=some (kt,e)) (hk:zO1 P kt=some (false,[.s])) (k:List UInt8) (v:Int):
  yM P t (.map id) (.str k) (.int .i64 v) h=some (h.set id (.map (knD (zIz k v m)))):=by
 simp only[yM,hm,hk,hi,zMh,zC7,zK2,zUC,show zP false (.str k)=true from rfl,Option.isSome_some,Bool.and_self,if_true]
end
structure Lic where
 name:List UInt8
 fam:List UInt8
 ver:Int
 text:List UInt8
def Lic.cells (l:Lic):List D:=[.str l.name, .str l.fam, .int .i64 l.ver, .str l.text]
def zCV (l:List Lic):List (List D):=l.map Lic.cells
theorem zBT (l:List Lic):(zCV l).length=l.length:=List.length_map ..
theorem zQJ {l:List Lic} {i:Nat} (h:i<l.length):(zCV l)[i]? =some l[i].cells:=by simp[zCV,h]
def Lic.Sm (l:Lic):Prop:=l.name.length≤1048576∧l.fam.length≤1048576∧l.text.length≤1048576
theorem wd {l:List Lic} {d:D} (hd:zX 4 (zCV l) d) (h:Heap):zCF Tryz.prog 22 d h=some (.int .i64 l.length):=by rw[yY hd Tryz.underlying22,zBT]
theorem wj {l:List Lic} {d:D} (hd:zX 4 (zCV l) d) {i:Nat} (hi:i<l.length):zS Tryz.prog 22 d (.int .i64 (i:Int))=some (.iptr l[i].cells 0):=zY hd zEw zCO (zQJ hi)
abbrev zFQ:List D:=[.str [], .str [], .int .i64 0, .str []]
theorem zC8 (x:Lic) (h:Heap) (id:Nat):zU Tryz.prog 124 (.ptr id 0) (.agg [.str x.name, .str x.fam, .int .i64 x.ver, .str x.text]) (h.new id (.row zFQ))=some (h.new id (.row [.str x.name, .str x.fam, .int .i64 x.ver, .str x.text])):=zj zCO (by omega) rfl rfl rfl
theorem zaE {l:List Lic} {d:D} (hd:zX 4 (zCV l) d) {i:Nat} (hi:i<l.length):∃d',(∀h,yX Tryz.prog 22 d none (some (.int .i64 (i:Int))) none h=some d')∧zX 4 (zCV (l.take i)) d':=by
 rcases hd with⟨rfl,hs⟩ | ⟨tk,rfl⟩
 ·have hl:l= []:=List.map_eq_nil_iff.1 hs;subst hl;simp at hi
 ·refine⟨.sl 4 ((zCV l).take i) (zNc i (zCV l).length tk),fun h=> ?_,?_⟩
  ·simp[yX,zY1,zCr,zEw,zCO,qt,zJA,zLY,zBT,Nat.le_of_lt hi]
  ·have:(zCV l).take i=zCV (l.take i):=by simp[zCV,List.map_take]
   rw[this];exact zX.mk _
def zG2 (l:List Lic) (i:Nat) (x:Lic):Bool:=(l.take i).any fun y=>y.fam==x.fam&&y.ver==x.ver
def zGN (l:List Lic) (i:Nat) (x:Lic):Int:=
 if(!zAp x.name|| !zAp x.fam)=true then 2
 else if x.ver<0∨x.ver>999 then 3
 else if x.text.length>4096∨(zJo x.text).length>999 then 10
 else if x.text.any zCT=true then 4
 else if 0<i∧leB x.name ((l.map Lic.name).getD (i-1) [])=true then 5
 else if zG2 l i x=true then 6 else 0
set_option maxHeartbeats 4000000 in
theorem zI0 {l:List Lic} {d:D} (hd:zX 4 (zCV l) d) (hl:l.length≤1048576) (hs:∀x∈l,x.Sm) {i:Nat} (hi:i<l.length) (g:Heap):
  zA Tryz.prog 97 [d, .int .i64 (i:Int)] g fun r h'=>h'=g∧r= .int .i64 (zGN l i l[i]):=by
 refine zA.pure (by kernel_rfl) fun hok=> ?_;have hsm:=hs _ (List.getElem_mem hi);have hat:=wj hd hi;have hlen:=wd hd;have hbel:∀k:Int,below g.next (.int .i64 k):=fun k=>trivial;have hv4:∀a b c e:D,zR true 4 [a,b,c,e] 0=some (.agg [a,b,c,e]):=fun a b c e=>zB rfl (by omega);generalize hx:l[i]=x at *
 obtain⟨nm,fm,vr,tx⟩:=x;have hst:=zC8 ⟨nm,fm,vr,tx⟩;simp only[Lic.cells] at hat hst;have hE:=(Ext.refl g).new (Nat.le_refl _) (.row [.str nm, .str fm, .int .i64 vr, .str tx]);have hc1:=zH8 (s:=nm) hsm.1;have hc2:=zH8 (s:=fm) hsm.2.1;have hc3:=zRI (s:=tx) hsm.2.2;refine zA.of_fn (g:=zWI) mix Tryz.func97 zkC rfl rfl ?_;simp only[Tryz.f97,gJ];obtain⟨R,hR⟩:∃R,zGN l i ⟨nm,fm,vr,tx⟩ =R:=⟨_,rfl⟩;rw[hR];unfold zGN at hR;simp only at hR;cases n1:zAp nm with
 |false=>
  rw[if_pos (by rw[n1];rfl)] at hR;subst hR
  repeat' first|simp only[go_sem,zEX,zJ, *]|apply bc<;>intro hc|(refine zA.mono (hc1 _) ?_;rintro r h ⟨rfl,rfl⟩)|(refine zA.mono (hc2 _) ?_;rintro r h ⟨rfl,rfl⟩)
 |true=>
 cases n2:zAp fm with
 |false=>
  rw[if_pos (by rw[n1,n2];rfl)] at hR;subst hR
  repeat' first|simp only[go_sem,zEX,zJ, *]|apply bc<;>intro hc|(refine zA.mono (hc1 _) ?_;rintro r h ⟨rfl,rfl⟩)|(refine zA.mono (hc2 _) ?_;rintro r h ⟨rfl,rfl⟩)
 |true=>
 rw[if_neg (by rw[n1,n2];decide)] at hR;cases v1:decide (vr<0) with
 |true=>
  rw[if_pos (.inl (of_decide_eq_true v1))] at hR;subst hR
  repeat' first|simp only[go_sem,zEX,zJ, *]|apply bc<;>intro hc|(refine zA.mono (hc1 _) ?_;rintro r h ⟨rfl,rfl⟩)|(refine zA.mono (hc2 _) ?_;rintro r h ⟨rfl,rfl⟩)
 |false=>
 cases v2:decide (vr>999) with
 |true=>
  rw[if_pos (.inr (of_decide_eq_true v2))] at hR;subst hR
  repeat' first|simp only[go_sem,zEX,zJ, *]|apply bc<;>intro hc|(refine zA.mono (hc1 _) ?_;rintro r h ⟨rfl,rfl⟩)|(refine zA.mono (hc2 _) ?_;rintro r h ⟨rfl,rfl⟩)
 |false=>
 rw[if_neg (fun q=>q.elim (of_decide_eq_false v1) (of_decide_eq_false v2))] at hR;cases t1:decide ((tx.length:Int)>4096) with
 |true=>
  have t1':=of_decide_eq_true t1;rw[if_pos (.inl (by omega))] at hR;subst hR;clear t1'
  repeat' first|simp only[go_sem,zEX,zJ, *]|apply bc<;>intro hc|(refine zA.mono (hc1 _) ?_;rintro r h ⟨rfl,rfl⟩)|(refine zA.mono (hc2 _) ?_;rintro r h ⟨rfl,rfl⟩)
 |false=>
 have t1':=of_decide_eq_false t1;cases t2:decide (((zJo tx).length:Int)>999) with
 |true=>
  have t2':=of_decide_eq_true t2;rw[if_pos (.inr (by omega))] at hR;subst hR;clear t1' t2'
  repeat' first|simp only[go_sem,zEX,zJ,yz hr.isSl, *]|simp only[go_sem,zEX,zJ, *]|apply bc<;>intro hc|(refine zA.mono (hc1 _) ?_;rintro r h ⟨rfl,rfl⟩)|(refine zA.mono (hc2 _) ?_;rintro r h ⟨rfl,rfl⟩)|(refine zA.mono (hc3 _) ?_;rintro r h ⟨rfl,hr⟩)
 |false=>
 have t2':=of_decide_eq_false t2;rw[if_neg (by omega)] at hR;clear t1' t2';have hcv:=zRG tx;have hbl:∀h,zCF Tryz.prog 233 (.sl 1 (zGM tx) .no) h=some (.int .i64 tx.length):=fun h=>by rw[yY (zX.mk .no) Tryz.underlying233,zK0]
 repeat' first|simp only[go_sem,zEX,zJ,yz hr.isSl, *]|simp only[go_sem,zEX,zJ, *]|apply bc<;>intro hc|(refine zA.mono (hc1 _) ?_;rintro r h ⟨rfl,rfl⟩)|(refine zA.mono (hc2 _) ?_;rintro r h ⟨rfl,rfl⟩)|(refine zA.mono (hc3 _) ?_;rintro r h ⟨rfl,hr⟩)
 rename Fin 1 (yP (zJo tx)) _=>hr
 clear hr hc1 hc2 hc3 hst n1 n2 v1 v2 t1 t2;obtain⟨H,hH,hrow,hE',hnx⟩:∃H,g.new g.next (.row [.str nm, .str fm, .int .i64 vr, .str tx])=H∧H.at' g.next=some (.row [.str nm, .str fm, .int .i64 vr, .str tx])∧Ext g H∧H.next=g.next+1:=⟨_,rfl,zJ _ _ _,hE,zD _ _⟩;rw[hH];clear hH hE;have htl:=hsm.2.2;simp only at htl;have bad:∀k (hk:k<tx.length),zCT tx[k]=true→R=4:=fun k hk hb=>by
  rw[if_pos (List.any_eq_true.2 ⟨_,List.getElem_mem hk,hb⟩)] at hR;exact hR.symm
 refine zF (fun k fr h=>fr 0=d∧fr 1= .int .i64 (i:Int)∧fr 5= .ptr g.next 0∧fr 48= .sl 1 (zGM tx) .no∧fr 49= .int .i64 (tx.length:Int)∧fr 50= .int .i64 (k:Int)∧h=H∧∀j (hj:j<tx.length),j<k→zCT tx[j]=false) tx.length (by omega) ?_ ?_ ?_
 ·simp only[go_sem,zEX,true_and,and_true,Int.ofNat_zero];exact fun j hj h0=>by omega
 ·rintro k fr h hlt e1 ew ⟨f0,f1,f5,f48,f49,f50,rfl,hj⟩;have a1:zS Tryz.prog 233 (.sl 1 (zGM tx) .no) (.int .i64 (k:Int))=some (.iptr [.int .u8 (tx[k].toNat:Int)] 0):=zY (zX.mk .no) zSq zgp (zRF hlt);have tb:zCT tx[k]=(!((tx[k].toNat:Int)==10)&&(decide ((tx[k].toNat:Int)<32)||decide ((tx[k].toNat:Int)>126))):=rfl;have hbad:=bad k hlt;have hnext:=fun hb=>yk (p:=zCT) (l:=tx) hlt hj hb;clear hj bad hR hcv;generalize(tx[k].toNat:Int)=y at *
  generalize zCT tx[k]=tbk at *
  cases b1:(y==10) with
  |true=>
   have hn:=hnext (by rw[tb,b1];rfl);clear hnext hbad tb
   repeat' first|simp only[go_sem,zEX, *]|apply bc<;>intro hc
   exact hn
  |false=>
   cases b2:decide (y<32) with
   |true=>
    have hn:=hbad (by rw[tb,b1,b2];rfl);clear hnext hbad tb;subst hn
    repeat' first|simp only[go_sem,zEX, *]|apply bc<;>intro hc
   |false=>
    cases b3:decide (y>126) with
    |true=>
     have hn:=hbad (by rw[tb,b1,b2,b3];rfl);clear hnext hbad tb;subst hn
     repeat' first|simp only[go_sem,zEX, *]|apply bc<;>intro hc
    |false=>
     have hn:=hnext (by rw[tb,b1,b2,b3];rfl);clear hnext hbad tb
     repeat' first|simp only[go_sem,zEX, *]|apply bc<;>intro hc
     exact hn
 ·rintro fr h e1 ⟨f0,f1,f5,f48,f49,f50,rfl,hj⟩;have hany:¬tx.any zCT=true:=by
   rw[zD2 fun j hj' _=>hj j hj' hj'];exact Bool.false_ne_true
  rw[if_neg hany] at hR;clear hj bad hany hcv hbl;have hil:i≤l.length:=by omega
  obtain⟨d',hsl,hd'⟩:=zaE hd hi;have hlen':=wd hd';rw[List.length_take,Nat.min_eq_left hil] at hlen';have ord:(0<i∧leB nm ((l.map Lic.name).getD (i-1) [])=true→R=5)∧(¬(0<i∧leB nm ((l.map Lic.name).getD (i-1) [])=true)→R=if zG2 l i ⟨nm,fm,vr,tx⟩ =true then 6 else 0):=by
   refine⟨fun q=> ?_,fun q=> ?_⟩
   ·rw[if_pos q] at hR;exact hR.symm
   ·rw[if_neg q] at hR;exact hR.symm
  clear hR;have hn0:¬(0<i∧leB nm ((l.map Lic.name).getD (i-1) [])=true)→R=if(l.take i).any (fun y=>y.fam==fm&&y.ver==vr)=true then 6 else 0:=ord.2
  have fin:∀ {fr:Frm} {k:Heap},R=(if zG2 l i ⟨nm,fm,vr,tx⟩ =true then 6 else 0)→True:=fun _=>trivial
  clear fin;have tw:∀L:List Lic,L=l.take i→zG2 l i ⟨nm,fm,vr,tx⟩ =L.any fun y=>y.fam==fm&&y.ver==vr:=fun L e=>by rw[e];rfl
  by_cases h0:0<i
  ·have e0:decide ((i:Int)>0)=true:=decide_eq_true (by omega);have ew:IntKind.i64.wrap ((i:Int)-1)=((i-1:Nat):Int):=by rw[zV (by omega) (by omega)];omega
   have a2:=wj hd (show i-1<l.length by omega);simp only[Lic.cells] at a2;have gn:(l.map Lic.name).getD (i-1) []=(l[i-1]'(by omega)).name:=by simp[show i-1<l.length by omega]
   have a3:=zE8 nm (l[i-1]'(by omega)).name;rw[gn] at ord;by_cases hb:leB nm (l[i-1]'(by omega)).name=true
   ·have hn:=ord.1 ⟨h0,hb⟩;subst hn;clear ord hsl hlen' hd' tw hn0
    repeat' first|simp only[go_sem,zEX, *]|apply bc<;>intro hc
    refine zQ (by kernel_rfl) ?_
    repeat' first|simp only[go_sem,zEX, *]|apply bc<;>intro hc
   have hb:leB nm (l[i-1]'(by omega)).name=false:=by simpa using hb
   have hn1:=(hn0 (fun q=>by rw[gn,hb] at q;exact Bool.false_ne_true q.2)).symm;clear ord gn tw hn0
   repeat' first|simp only[go_sem,zEX, *]|apply bc<;>intro hc
   refine zQ (by kernel_rfl) ?_
   repeat' first|simp only[go_sem,zEX, *]|apply bc<;>intro hc
   clear a2 a3 hb e0 ew;clear hsl hsm hlen hat;generalize hL:l.take i=L at *
   have hLl:L.length=i:=by rw[←hL,List.length_take,Nat.min_eq_left hil]
   clear hL hd hs;refine zF (fun j fr h=>fr 5= .ptr g.next 0∧fr 80=d'∧fr 81= .int .i64 (i:Int)∧fr 82= .int .i64 (j:Int)∧h.at' g.next=some (.row [.str nm, .str fm, .int .i64 vr, .str tx])∧Ext g h∧g.next<h.next∧∀m (hm:m<L.length),m<j→(L[m].fam==fm&&L[m].ver==vr)=false) i (by omega) ?_ ?_ ?_
   ·simp only[go_sem,zEX,true_and,and_true,Int.ofNat_zero];exact⟨f5,hrow,hE',by omega,fun m hm h0=>by omega⟩
   ·clear f0 f1 f5 f48 f49 f50 hrow hE' hnx e1;rintro j fr h hlt e1 ew ⟨f5,f80,f81,f82,hrow,hE,hnx,hj⟩;have hjL:j<L.length:=by omega
    have a1:=wj hd' hjL;have hst:=zC8 L[j] h h.next;have hk:(h.new h.next (.row [.str L[j].name, .str L[j].fam, .int .i64 L[j].ver, .str L[j].text])).at' g.next=some (.row [.str nm, .str fm, .int .i64 vr, .str tx]):=by rw[zG (by omega)];exact hrow
    have hE2:=hE.new hE.1 (.row [.str L[j].name, .str L[j].fam, .int .i64 L[j].ver, .str L[j].text]);have hn2:g.next<(h.new h.next (.row [.str L[j].name, .str L[j].fam, .int .i64 L[j].ver, .str L[j].text])).next:=by rw[zD];omega
    have hnext:=fun hb=>yk (p:=fun y:Lic=>y.fam==fm&&y.ver==vr) (l:=L) hjL hj hb;have hbad:(L[j].fam==fm&&L[j].ver==vr)=true→R=6:=fun hb=>by
     rw[if_pos (List.any_eq_true.2 ⟨_,List.getElem_mem hjL,hb⟩)] at hn1;exact hn1.symm
    simp only[Lic.cells] at a1;clear hj hn1 hrow;cases b1:(L[j].fam==fm) with
    |false=>
     have hn:=hnext (by simp only[b1,Bool.false_and]);clear hnext hbad
     repeat' first|simp only[go_sem,zEX,zJ, *]|apply bc<;>intro hc
     exact fun m hm h=>hn m (by omega) h
    |true=>
     cases b2:(L[j].ver==vr) with
     |false=>
      have hn:=hnext (by simp only[b1,b2,Bool.and_false]);clear hnext hbad
      repeat' first|simp only[go_sem,zEX,zJ, *]|apply bc<;>intro hc
      exact fun m hm h=>hn m (by omega) h
     |true=>
      have hn:=hbad (by simp only[b1,b2,Bool.and_self]);clear hnext hbad;subst hn
      repeat' first|simp only[go_sem,zEX,zJ, *]|apply bc<;>intro hc
   ·clear f0 f1 f5 f48 f49 f50 hrow hE' hnx e1;rintro fr h e1 ⟨f5,f80,f81,f82,hrow,hE,hnx,hj⟩;have hany:¬(L.any fun y=>y.fam==fm&&y.ver==vr)=true:=by
     rw[zD2 fun j hj' _=>hj j hj' (by omega)];exact Bool.false_ne_true
    rw[if_neg hany] at hn1;subst hn1;clear hj hany
    repeat' first|simp only[go_sem,zEX, *]|apply bc<;>intro hc
  ·have e0:decide ((i:Int)>0)=false:=decide_eq_false (by omega);have hn1:=(hn0 (fun q=>h0 q.1)).symm;clear ord tw hn0
   repeat' first|simp only[go_sem,zEX, *]|apply bc<;>intro hc
   refine zQ (by kernel_rfl) ?_
   repeat' first|simp only[go_sem,zEX, *]|apply bc<;>intro hc
   clear e0;clear hsl hsm hlen hat;generalize hL:l.take i=L at *
   have hLl:L.length=i:=by rw[←hL,List.length_take,Nat.min_eq_left hil]
   clear hL hd hs;refine zF (fun j fr h=>fr 5= .ptr g.next 0∧fr 80=d'∧fr 81= .int .i64 (i:Int)∧fr 82= .int .i64 (j:Int)∧h.at' g.next=some (.row [.str nm, .str fm, .int .i64 vr, .str tx])∧Ext g h∧g.next<h.next∧∀m (hm:m<L.length),m<j→(L[m].fam==fm&&L[m].ver==vr)=false) i (by omega) ?_ ?_ ?_
   ·simp only[go_sem,zEX,true_and,and_true,Int.ofNat_zero];exact⟨f5,hrow,hE',by omega,fun m hm h0=>by omega⟩
   ·clear f0 f1 f5 f48 f49 f50 hrow hE' hnx e1;rintro j fr h hlt e1 ew ⟨f5,f80,f81,f82,hrow,hE,hnx,hj⟩;have hjL:j<L.length:=by omega
    have a1:=wj hd' hjL;have hst:=zC8 L[j] h h.next;have hk:(h.new h.next (.row [.str L[j].name, .str L[j].fam, .int .i64 L[j].ver, .str L[j].text])).at' g.next=some (.row [.str nm, .str fm, .int .i64 vr, .str tx]):=by rw[zG (by omega)];exact hrow
    have hE2:=hE.new hE.1 (.row [.str L[j].name, .str L[j].fam, .int .i64 L[j].ver, .str L[j].text]);have hn2:g.next<(h.new h.next (.row [.str L[j].name, .str L[j].fam, .int .i64 L[j].ver, .str L[j].text])).next:=by rw[zD];omega
    have hnext:=fun hb=>yk (p:=fun y:Lic=>y.fam==fm&&y.ver==vr) (l:=L) hjL hj hb;have hbad:(L[j].fam==fm&&L[j].ver==vr)=true→R=6:=fun hb=>by
     rw[if_pos (List.any_eq_true.2 ⟨_,List.getElem_mem hjL,hb⟩)] at hn1;exact hn1.symm
    simp only[Lic.cells] at a1;clear hj hn1 hrow;cases b1:(L[j].fam==fm) with
    |false=>
     have hn:=hnext (by simp only[b1,Bool.false_and]);clear hnext hbad
     repeat' first|simp only[go_sem,zEX,zJ, *]|apply bc<;>intro hc
     exact fun m hm h=>hn m (by omega) h
    |true=>
     cases b2:(L[j].ver==vr) with
     |false=>
      have hn:=hnext (by simp only[b1,b2,Bool.and_false]);clear hnext hbad
      repeat' first|simp only[go_sem,zEX,zJ, *]|apply bc<;>intro hc
      exact fun m hm h=>hn m (by omega) h
     |true=>
      have hn:=hbad (by simp only[b1,b2,Bool.and_self]);clear hnext hbad;subst hn
      repeat' first|simp only[go_sem,zEX,zJ, *]|apply bc<;>intro hc
   ·clear f0 f1 f5 f48 f49 f50 hrow hE' hnx e1;rintro fr h e1 ⟨f5,f80,f81,f82,hrow,hE,hnx,hj⟩;have hany:¬(L.any fun y=>y.fam==fm&&y.ver==vr)=true:=by
     rw[zD2 fun j hj' _=>hj j hj' (by omega)];exact Bool.false_ne_true
    rw[if_neg hany] at hn1;subst hn1;clear hj hany
    repeat' first|simp only[go_sem,zEX, *]|apply bc<;>intro hc
def zLb {α:Type} (p:α→Bool) (l:List α):Int:=match l.findIdx? p with
 |some i=>(i:Int)
 |none=> -1
theorem zC9 {α:Type} {l:List α} {p:α→Bool} :decide (zLb p l≥0)=l.any p:=by
 rw[←zFm];rfl
theorem zCW {α:Type} {l:List α} {p:α→Bool} {i:Nat} (hi:i<l.length) (hj:∀j (hj:j<l.length),j<i→p l[j]=false) (hp:p l[i]=true):zLb p l=(i:Int):=by
 have:l.findIdx? p=some i:=by
  rw[List.findIdx?_eq_some_iff_getElem];exact⟨hi,hp,fun j hji=>by rw[hj j (by omega) hji];exact Bool.false_ne_true⟩
 simp only[zLb,this]
theorem zCX {α:Type} {l:List α} {p:α→Bool} (hj:∀j (hj:j<l.length),p l[j]=false):zLb p l= -1:=by
 have:l.findIdx? p=none:=by
  rw[List.findIdx?_eq_none_iff];intro n hn;obtain⟨j,hjl,rfl⟩:=List.mem_iff_getElem.1 hn;exact hj j hjl
 simp only[zLb,this]
theorem zMj {l:List Int} {d:D} (hd:zX 1 (wT l) d) (hl:l.length≤1048576) {f:FuncId} {cap:List D} {p:Int→Bool} (hp:∀s∈l,∀h,zA Tryz.prog f ([]++ [.int .i64 s]++cap) h fun r h'=>h'=h∧r= .bool (p s)) (g:Heap):
  zA Tryz.prog 198 [d, .fn (.func f) [] cap] g fun r h'=>h'=g∧r= .int .i64 (zLb p l):=by
 have hlen:=zAb hd;refine zA.of_fn (g:=zTp) mix Tryz.func198 ziS rfl rfl ?_;simp only[Tryz.f198,gJ]
 repeat' first|simp only[go_sem,zTq, *]|apply bc<;>intro hc
 refine zF (fun i fr h=>fr 1= .fn (.func f) [] cap∧fr 0=d∧fr 6=d∧fr 7= .int .i64 (l.length:Int)∧fr 8= .int .i64 (i:Int)∧h=g∧∀j (hj:j<l.length),j<i→p l[j]=false) l.length (by omega) ?_ ?_ ?_
 ·simp only[go_sem,zTq,true_and,and_true,Int.ofNat_zero];exact fun j hj h0=>by omega
 ·rintro i fr h hlt e1 ew ⟨f1,f0,f6,f7,f8,rfl,hj⟩;have a1:=zCU hd hlt;have hq:=hp _ (List.getElem_mem hlt);simp only[List.nil_append,List.cons_append] at hq;cases hb:p l[i] with
  |true=>
   have hx:=zCW hlt hj hb;rw[hb] at hq;clear hj hp hd
   repeat' first|simp only[go_sem,zTq, *]|apply bc<;>intro hc|(refine zA.mono (hq _) ?_;rintro r h ⟨rfl,rfl⟩)
  |false=>
   have hn:=yk (p:=p) hlt hj hb;rw[hb] at hq;clear hj hp hd
   repeat' first|simp only[go_sem,zTq, *]|apply bc<;>intro hc|(refine zA.mono (hq _) ?_;rintro r h ⟨rfl,rfl⟩)
   exact hn
 ·rintro fr h e1 ⟨f1,f0,f6,f7,f8,rfl,hj⟩;have hx:=zCX (p:=p) fun j hj'=>hj j hj' hj';clear hj hp hd
  repeat' first|simp only[go_sem,zTq, *]|apply bc<;>intro hc
theorem zIA {l:List Int} {d:D} (hd:zX 1 (wT l) d) (hl:l.length≤1048576) {f:FuncId} {cap:List D} {p:Int→Bool} (hp:∀s∈l,∀h,zA Tryz.prog f ([]++ [.int .i64 s]++cap) h fun r h'=>h'=h∧r= .bool (p s)) (g:Heap):
  zA Tryz.prog 149 [d, .fn (.func f) [] cap] g fun r h'=>h'=g∧r= .bool (l.any p):=by
 have hix:=zMj hd hl hp;have hge:=zC9 (l:=l) (p:=p);refine zA.of_fn (g:=zSv) mix Tryz.func149 zhC rfl rfl ?_;simp only[Tryz.f149,gJ]
 repeat' first|simp only[go_sem,zhB, *]|apply bc<;>intro hc|(refine zA.mono (hix _) ?_;rintro r h ⟨rfl,rfl⟩)
theorem zex (n:Int) (g:Heap):zA Tryz.prog 150 [.int .i64 n] g fun r h'=>h'=g∧r= .bool (!(decide (n≥0)&&decide (n≤5))):=by
 have hd:=zQG n;refine zA.of_fn (g:=zTA) mix Tryz.func150 zhU rfl rfl ?_;simp only[Tryz.f150,gJ]
 repeat' first|simp only[go_sem,zhT, *]|apply bc<;>intro hc|(refine zA.mono (hd _) ?_;rintro r h ⟨rfl,rfl⟩)
def zMk (l:List Lic):Nat→KN
 |0=>[]
 |i+1=>zIz ((l.map Lic.name).getD i []) (i:Int) (zMk l i)
theorem zJs {l:List Lic} {d e1 e2 e3:D} (hd:zX 4 (zCV l) d) (hl:l.length≤1048576) (g:Heap):
  zA Tryz.prog 98 [.agg [d,e1,e2,e3]] g fun r h'=>∃id,r= .map id∧g.next≤id∧id<h'.next∧h'.at' id=some (.map (knD (zMk l l.length)))∧Ext g h':=by
 have hlen:=wd hd;have hv4:∀a b c e:D,zR true 4 [a,b,c,e] 0=some (.agg [a,b,c,e]):=fun a b c e=>zB rfl (by omega);refine zA.of_fn (g:=zWQ) mix Tryz.func98 zkJ rfl rfl ?_;simp only[Tryz.f98,gJ]
 repeat' first|simp only[go_sem,zf9, *]|apply bc<;>intro hc
 obtain⟨H,hH,hm0,hE0,hn0⟩:∃H,g.new g.next (.map [])=H∧H.at' g.next=some (.map (knD (zMk l 0)))∧Ext g H∧g.next<H.next:=⟨_,rfl,zJ _ _ _,(Ext.refl g).new (Nat.le_refl _) _,by rw[zD];omega⟩;rw[hH];clear hH;refine zF (fun i fr h=>fr 3= .map g.next∧fr 8=d∧fr 9= .int .i64 (l.length:Int)∧fr 10= .int .i64 (i:Int)∧h.at' g.next=some (.map (knD (zMk l i)))∧Ext g h∧g.next<h.next) l.length (by omega) ?_ ?_ ?_
 ·simp only[go_sem,zf9,true_and,and_true,Int.ofNat_zero];exact⟨hm0,hE0,hn0⟩
 ·clear hm0 hE0 hn0;rintro i fr h hlt e1 ew ⟨f3,f8,f9,f10,hm,hE,hn⟩;have a1:=wj hd hlt;have hst:=zC8 l[i] h h.next;have hnm:(l.map Lic.name).getD i []=l[i].name:=by simp[hlt]
  simp only[Lic.cells] at a1;obtain⟨H2,hH2,m2,r2,E2,n2⟩:∃H2,h.new h.next (.row [.str l[i].name, .str l[i].fam, .int .i64 l[i].ver, .str l[i].text])=H2∧H2.at' g.next=some (.map (knD (zMk l i)))∧H2.at' h.next=some (.row [.str l[i].name, .str l[i].fam, .int .i64 l[i].ver, .str l[i].text])∧Ext g H2∧g.next<H2.next:=
   ⟨_,rfl,by rw[zG (by omega)];exact hm,zJ _ _ _,hE.new hE.1 _,by rw[zD];omega⟩
  rw[hH2] at hst;have hup:=zK3 (P:=Tryz.prog) (t:=175) m2 zKn zMB l[i].name (i:Int);have hnx:zIz l[i].name (i:Int) (zMk l i)=zMk l (i+1):=by rw[zMk,hnm]
  rw[hnx] at hup;have m3:=zC H2 g.next (.map (knD (zMk l (i+1))));have E3:=E2.set (id:=g.next) (Nat.le_refl _) (.map (knD (zMk l (i+1))));have n3:g.next<(H2.set g.next (.map (knD (zMk l (i+1))))).next:=n2;clear hm hE hnm hnx hd E2
  repeat' first|simp only[go_sem,zf9, *]|apply bc<;>intro hc
 ·clear hm0 hE0 hn0;rintro fr h e1 ⟨f3,f8,f9,f10,hm,hE,hn⟩;have hfin:∃id,D.map g.next= .map id∧g.next≤id∧id<h.next∧h.at' id=some (.map (knD (zMk l l.length)))∧Ext g h:=⟨_,rfl,Nat.le_refl _,hn,hm,hE⟩;clear hm hE hn hd
  repeat' first|simp only[go_sem,zf9, *]|apply bc<;>intro hc
structure Exc where
 name:List UInt8
 lic:List UInt8
 lifts:List Int
 d:D
def Exc.cells (l:Exc):List D:=[.str l.name, .str l.lic,l.d]
def Exc.Ok (l:Exc):Prop:=zX 1 (wT l.lifts) l.d∧l.lifts.length≤1048576∧l.name.length≤1048576
def zaF (l:List Exc):List (List D):=l.map Exc.cells
theorem zOR (l:List Exc):(zaF l).length=l.length:=List.length_map ..
theorem zWa {l:List Exc} {i:Nat} (h:i<l.length):(zaF l)[i]? =some l[i].cells:=by simp[zaF,h]
theorem zE9 {l:List Exc} {d:D} (hd:zX 3 (zaF l) d) (h:Heap):zCF Tryz.prog 23 d h=some (.int .i64 l.length):=by rw[yY hd Tryz.underlying23,zOR]
theorem zFq {l:List Exc} {d:D} (hd:zX 3 (zaF l) d) {i:Nat} (hi:i<l.length):zS Tryz.prog 23 d (.int .i64 (i:Int))=some (.iptr l[i].cells 0):=zY hd zVe zHk (zWa hi)
structure Cla where
 lic:List UInt8
 way:Int
 rel:Int
 duty:Int
 list:List (List UInt8)
 d:D
def Cla.cells (l:Cla):List D:=[.str l.lic, .int .i64 l.way, .int .i64 l.rel, .int .i64 l.duty,l.d]
def Cla.Ok (l:Cla):Prop:=zX 1 (yP l.list) l.d∧l.list.length≤1048576
def zMl (l:List Cla):List (List D):=l.map Cla.cells
theorem zEK (l:List Cla):(zMl l).length=l.length:=List.length_map ..
theorem zWb {l:List Cla} {i:Nat} (h:i<l.length):(zMl l)[i]? =some l[i].cells:=by simp[zMl,h]
theorem zCY {l:List Cla} {d:D} (hd:zX 5 (zMl l) d) (h:Heap):zCF Tryz.prog 24 d h=some (.int .i64 l.length):=by rw[yY hd Tryz.underlying24,zEK]
theorem zDA {l:List Cla} {d:D} (hd:zX 5 (zMl l) d) {i:Nat} (hi:i<l.length):zS Tryz.prog 24 d (.int .i64 (i:Int))=some (.iptr l[i].cells 0):=zY hd zKj zGH (zWb hi)
structure Apt where
 a:List UInt8
 b:List UInt8
def Apt.cells (l:Apt):List D:=[.str l.a, .str l.b]
def zWc (l:List Apt):List (List D):=l.map Apt.cells
theorem zOS (l:List Apt):(zWc l).length=l.length:=List.length_map ..
theorem zWd {l:List Apt} {i:Nat} (h:i<l.length):(zWc l)[i]? =some l[i].cells:=by simp[zWc,h]
theorem zFA {l:List Apt} {d:D} (hd:zX 2 (zWc l) d) (h:Heap):zCF Tryz.prog 25 d h=some (.int .i64 l.length):=by rw[yY hd Tryz.underlying25,zOS]
theorem zFr {l:List Apt} {d:D} (hd:zX 2 (zWc l) d) {i:Nat} (hi:i<l.length):zS Tryz.prog 25 d (.int .i64 (i:Int))=some (.iptr l[i].cells 0):=zY hd zVf zKm (zWd hi)
def zUD (a b:Cla):Int:=orL [zDl a.lic b.lic,yp a.way b.way,yp a.rel b.rel,yp a.duty b.duty]
def zUE (a b:Apt):Int:=orL [zDl a.a b.a,zDl a.b b.b]
theorem zih (a b:Int) (nid:Nat) (h:Heap):zM Tryz.prog false nid 31 2 [(0, .int .i64 a),(1, .int .i64 b)] h=some (.sl 1 (wT [a,b]) .full,h):=by
 simp[zM,yF,zAQ,wL,zA6,D.notTuple,D.cells,yC,qZ,yW,wT]
theorem zlM (a b c e:Int) (nid:Nat) (h:Heap):zM Tryz.prog false nid 31 4 [(0, .int .i64 a),(1, .int .i64 b),(2, .int .i64 c),(3, .int .i64 e)] h=some (.sl 1 (wT [a,b,c,e]) .full,h):=by
 simp[zM,yF,zAQ,wL,zA6,D.notTuple,D.cells,yC,qZ,yW,wT]
theorem zI1 (a b:Apt) (g:Heap):zA Tryz.prog 63 [.agg a.cells, .agg b.cells] g fun r h'=>h'=g∧r= .int .i64 (zUE a b):=by
 have h1:=zMg a.a b.a;have h2:=zMg a.b b.b;have h3:=zev (l:=[zDl a.a b.a,zDl a.b b.b]) (zX.mk .full) (by simp);have hr:=fun nid=>zih (zDl a.a b.a) (zDl a.b b.b) nid;have hc:orL [zDl a.a b.a,zDl a.b b.b]=zUE a b:=rfl;rw[hc] at h3;have hle0:∀h:Heap,HLe Heap.emp h:=fun h i ob e=>by cases e
 refine zA.of_fn (g:=zZc) mix Tryz.func63 zkg rfl rfl ?_;simp only[Tryz.f63,gJ];simp only[Apt.cells]
 repeat' first|simp only[go_sem,zje, *]|apply bc<;>intro hc
 refine zz Heap.emp [(0, .no,true),(1, .no,true),(2, .no,true),(3, .no,true),(5, .no,true),(6, .st,true),(7, .no,true),(8, .st,true),(4, .no,true),(9, .no,true),(10, .no,true),(11, .no,true),(12, .no,true)] (by kernel_rfl) (by kernel_rfl) (fun i ob e=>by cases e) ?_
 repeat' first|simp only[go_sem,zje, *]|apply bc<;>intro hc|(refine zA.mono (h1 _) ?_;rintro r h ⟨rfl,rfl⟩)|(refine zA.mono (h2 _) ?_;rintro r h ⟨rfl,rfl⟩)|(refine zA.mono (h3 _) ?_;rintro r h ⟨rfl,rfl⟩)
theorem zGf (a b:Cla) (g:Heap):zA Tryz.prog 61 [.agg a.cells, .agg b.cells] g fun r h'=>h'=g∧r= .int .i64 (zUD a b):=by
 have h1:=zMg a.lic b.lic;have h2:=zH6 a.way b.way;have h4:=zH6 a.rel b.rel;have h5:=zH6 a.duty b.duty;have h3:=zev (l:=[zDl a.lic b.lic,yp a.way b.way,yp a.rel b.rel,yp a.duty b.duty]) (zX.mk .full) (by simp);have hr:=fun nid=>zlM (zDl a.lic b.lic) (yp a.way b.way) (yp a.rel b.rel) (yp a.duty b.duty) nid;have hc:orL [zDl a.lic b.lic,yp a.way b.way,yp a.rel b.rel,yp a.duty b.duty]=zUD a b:=rfl;rw[hc] at h3;have hle0:∀h:Heap,HLe Heap.emp h:=fun h i ob e=>by cases e
 refine zA.of_fn (g:=zZu) mix Tryz.func61 zk7 rfl rfl ?_;simp only[Tryz.f61,gJ];simp only[Cla.cells]
 repeat' first|simp only[go_sem,zj9, *]|apply bc<;>intro hc
 refine zz Heap.emp [(0, .no,true),(1, .no,true),(2, .no,true),(3, .no,true),(5, .no,true),(6, .st,true),(7, .no,true),(8, .st,true),(10, .no,true),(11, .st,true),(12, .no,true),(13, .st,true),(15, .no,true),(16, .st,true),(17, .no,true),(18, .st,true),(4, .no,true),(9, .no,true),(14, .no,true),(19, .no,true),(20, .no,true),(21, .no,true),(22, .no,true)] (by kernel_rfl) (by kernel_rfl) (fun i ob e=>by cases e) ?_
 repeat' first|simp only[go_sem,zj9, *]|apply bc<;>intro hc|(refine zA.mono (h1 _) ?_;rintro r h ⟨rfl,rfl⟩)|(refine zA.mono (h2 _) ?_;rintro r h ⟨rfl,rfl⟩)|(refine zA.mono (h3 _) ?_;rintro r h ⟨rfl,rfl⟩)|(refine zA.mono (h4 _) ?_;rintro r h ⟨rfl,rfl⟩)|(refine zA.mono (h5 _) ?_;rintro r h ⟨rfl,rfl⟩)
theorem zBs {sz:Nat} {xs:List (List D)} {d:D} (hd:zX sz xs d):d.flat=true:=by rcases hd with⟨rfl,_⟩ | ⟨tk,rfl⟩ <;>rfl
def zCn (m:KN) (k:List UInt8):Bool:=(zDm k m).isSome
theorem zK4 {m:KN} {id:Nat} {h:Heap} (hm:h.at' id=some (.map (knD m))) (k:List UInt8):∃v,yS Tryz.prog 175 (.map id) (.str k) true h=some (.tuple [.int .i64 v, .bool (zCn m k)]):=by
 have:=zJr (P:=Tryz.prog) (t:=175) hm zKn zMB zAQ k true;rw[this];unfold zCn;cases zDm k m with
 |none=>exact⟨0,rfl⟩
 |some v=>exact⟨v,rfl⟩
def zGO (m:KN) (l:List Exc) (i:Nat) (x:Exc):Int:=
 if(!zAp x.name)=true then 2
 else if(!zCn m x.lic)=true then 7
 else if(x.lifts.any fun n=> !(decide (n≥0)&&decide (n≤5)))=true then 3
 else if(((x.lifts.length:Int)==0)||(!zQH x.lifts||(decide ((i:Int)>0)&&leB x.name ((l.map Exc.name).getD (i-1) []))))=true then 5 else 0
set_option maxHeartbeats 2000000 in
theorem zGg {l:List Exc} {d:D} (hd:zX 3 (zaF l) d) (hl:l.length≤1048576) (hs:∀x∈l,x.Ok) {i:Nat} (hi:i<l.length) {m:KN} {id:Nat} {g:Heap} (hm:g.at' id=some (.map (knD m))):
  zA Tryz.prog 99 [d, .int .i64 (i:Int), .map id] g fun r h'=>h'=g∧r= .int .i64 (zGO m l i l[i]):=by
 refine zA.pure (by kernel_rfl) fun hok=> ?_;have hlt:id<g.next:=by
  by_cases h:id<g.next
  ·exact h
  ·rw[hok id (by omega)] at hm;cases hm
 obtain⟨o1,o2,o3⟩:=hs _ (List.getElem_mem hi);have hat:=zFq hd hi;have hbel:∀k:Int,below g.next (.int .i64 k):=fun k=>trivial;have hv3:∀a b c:D,zR true 3 [a,b,c] 0=some (.agg [a,b,c]):=fun a b c=>zB rfl (by omega);have c1:=zH8 o3;have c2:=zIA o1 o2 (f:=150) (cap:=[]) fun n _ h=>zex n h;have c3:=zMf o1 o2;have hll:=zAb o1;have hi1:i-1<l.length:=by omega
 obtain⟨R,hR⟩:∃R,zGO m l i l[i]=R:=⟨_,rfl⟩;rw[hR];unfold zGO at hR;have hpn:(l.map Exc.name).getD (i-1) []=(l[i-1]'hi1).name:=by simp[hi1]
 have ha2:=zFq hd hi1;have hle:=zE8 l[i].name (l[i-1]'hi1).name;rw[hpn] at hR;clear hpn;generalize l[i]=x at *
 simp only[Exc.cells] at hat ha2;have hst:zU Tryz.prog 129 (.ptr g.next 0) (.agg [.str x.name, .str x.lic,x.d]) (g.new g.next (.row [.str [], .str [], .nilsl]))=some (g.new g.next (.row [.str x.name, .str x.lic,x.d])):=zj zHk (by omega) rfl rfl (by show(true&&(true&&(x.d.flat&&true)))=true;rw[zBs o1];rfl);obtain⟨H,hH,hrow,hE',hm'⟩:∃H,g.new g.next (.row [.str x.name, .str x.lic,x.d])=H∧H.at' g.next=some (.row [.str x.name, .str x.lic,x.d])∧Ext g H∧H.at' id=some (.map (knD m)):=⟨_,rfl,zJ _ _ _,(Ext.refl g).new (Nat.le_refl _) _,by rw[zG (by omega)];exact hm⟩;rw[hH] at hst
 obtain⟨v,hlk⟩:=zK4 hm' x.lic;clear hH hm hm' hs;refine zA.of_fn (g:=zZd) mix Tryz.func99 zkk rfl rfl ?_;simp only[Tryz.f99,gJ];by_cases h0:0<i
 ·have e0:decide ((i:Int)>0)=true:=decide_eq_true (by omega);have ew:IntKind.i64.wrap ((i:Int)-1)=((i-1:Nat):Int):=by rw[zV (by omega) (by omega)];omega
  subst hR;generalize l[i-1]=y at *
  repeat' first|simp only[go_sem,zf4, *]|apply bc<;>intro hc|(refine zA.mono (c1 _) ?_;rintro r h ⟨rfl,rfl⟩)|(refine zA.mono (c2 _) ?_;rintro r h ⟨rfl,rfl⟩)|(refine zA.mono (c3 _) ?_;rintro r h ⟨rfl,rfl⟩)
  all_goals
   refine zQ (by kernel_rfl) ?_
   repeat' first|simp only[go_sem,zf4, *]|apply bc<;>intro hc|(refine zA.mono (c3 _) ?_;rintro r h ⟨rfl,rfl⟩)
 ·have e0:decide ((i:Int)>0)=false:=decide_eq_false (by omega);clear ha2 hle;subst hR
  repeat' first|simp only[go_sem,zf4, *]|apply bc<;>intro hc|(refine zA.mono (c1 _) ?_;rintro r h ⟨rfl,rfl⟩)|(refine zA.mono (c2 _) ?_;rintro r h ⟨rfl,rfl⟩)|(refine zA.mono (c3 _) ?_;rintro r h ⟨rfl,rfl⟩)
  all_goals
   refine zQ (by kernel_rfl) ?_
   repeat' first|simp only[go_sem,zf4, *]|apply bc<;>intro hc|(refine zA.mono (c3 _) ?_;rintro r h ⟨rfl,rfl⟩)
theorem zWe (p q c:Bool):zCl Tryz.prog .neq 4 c (.bool p) (.bool q)=some (.bool (p !=q)):=by cases p<;>cases q<;>simp[zCl,zXP,zAd,veq,Tryz.underlying4]
def zGP (m:KN) (l:List Cla) (i:Nat) (x:Cla):Int:=
 if(!zCn m x.lic)=true then 7
 else if(decide (x.way<0)||decide (x.way>2)||decide (x.rel<0)||decide (x.rel>2)|| !(decide (x.duty≥0)&&decide (x.duty≤5)))=true then 3
 else if(!(decide ((x.list.length:Int)>0)==(x.duty==4)))=true then 1
 else if(x.list.any fun s=> !zCn m s)=true then 7
 else if(!zH9 x.list||(decide ((i:Int)>0)&&decide (zUD (l.getD (i-1) x) x≥0)))=true then 5 else 0
set_option maxHeartbeats 4000000 in
theorem zK5 {l:List Cla} {d:D} (hd:zX 5 (zMl l) d) (hl:l.length≤1048576) (hs:∀x∈l,x.Ok) {i:Nat} (hi:i<l.length) {m:KN} {id:Nat} {g:Heap} (hm:g.at' id=some (.map (knD m))):
  zA Tryz.prog 100 [d, .int .i64 (i:Int), .map id] g fun r h'=>h'=g∧r= .int .i64 (zGP m l i l[i]):=by
 refine zA.pure (by kernel_rfl) fun hok=> ?_;have hlt:id<g.next:=by
  by_cases h:id<g.next
  ·exact h
  ·rw[hok id (by omega)] at hm;cases hm
 obtain⟨o1,o2⟩:=hs _ (List.getElem_mem hi);have hat:=zDA hd hi;have hbel:∀k:Int,below g.next (.int .i64 k):=fun k=>trivial;have hv5:∀a b c e f:D,zR true 5 [a,b,c,e,f] 0=some (.agg [a,b,c,e,f]):=fun a b c e f=>zB rfl (by omega);have hi1:i-1<l.length:=by omega
 have c3:=zMe o1 o2;have hll:=yz o1;have hne:=zWe;obtain⟨R,hR⟩:∃R,zGP m l i l[i]=R:=⟨_,rfl⟩;rw[hR];unfold zGP at hR;have hpn:∀x,l.getD (i-1) x=l[i-1]'hi1:=fun x=>by simp[hi1]
 have ha2:=zDA hd hi1;have c4:=zGf (l[i-1]'hi1) l[i];rw[hpn] at hR;clear hpn;generalize l[i]=x at *
 have c5:=zQG x.duty;simp only[Cla.cells] at hat ha2 c4;have hst:zU Tryz.prog 92 (.ptr g.next 0) (.agg [.str x.lic, .int .i64 x.way, .int .i64 x.rel, .int .i64 x.duty,x.d]) (g.new g.next (.row [.str [], .int .i64 0, .int .i64 0, .int .i64 0, .nilsl]))=some (g.new g.next (.row [.str x.lic, .int .i64 x.way, .int .i64 x.rel, .int .i64 x.duty,x.d])):=zj zGH (by omega) rfl rfl (by show(true&&(true&&(true&&(true&&(x.d.flat&&true)))))=true;rw[zBs o1];rfl)
 obtain⟨H,hH,hrow,hE',hm'⟩:∃H,g.new g.next (.row [.str x.lic, .int .i64 x.way, .int .i64 x.rel, .int .i64 x.duty,x.d])=H∧H.at' g.next=some (.row [.str x.lic, .int .i64 x.way, .int .i64 x.rel, .int .i64 x.duty,x.d])∧Ext g H∧H.at' id=some (.map (knD m)):=⟨_,rfl,zJ _ _ _,(Ext.refl g).new (Nat.le_refl _) _,by rw[zG (by omega)];exact hm⟩;rw[hH] at hst;have zJV:=fun k=>zK4 hm' k;obtain⟨v,hlk⟩:=zJV x.lic;clear hH hm hm' hs;refine zA.of_fn (g:=zPV) mix Tryz.func100 zdE rfl rfl ?_;simp only[Tryz.f100,gJ];obtain⟨L,hL⟩:∃L,(x.list.any fun s=> !zCn m s)=L:=⟨_,rfl⟩;rw[hL] at hR;subst hR
 repeat' first|simp only[go_sem,zMH, *]|apply bc<;>intro hc|(refine zA.mono (c5 _) ?_;rintro r h ⟨rfl,rfl⟩)
 all_goals
  rename Heap=>H
  refine zF (fun k fr h=>fr 0=d∧fr 1= .int .i64 (i:Int)∧fr 2= .map id∧fr 7= .ptr g.next 0∧fr 62=x.d∧fr 63= .int .i64 (x.list.length:Int)∧fr 64= .int .i64 (k:Int)∧h=H∧∀j (hj:j<x.list.length),j<k→(!zCn m x.list[j])=false) x.list.length (by omega) ?_ ?_ ?_
  ·simp only[go_sem,zMH,true_and,and_true,Int.ofNat_zero];exact fun j hj h0=>by omega
  ·rintro k fr h hlt e1 ew ⟨f0,f1,f2,f7,f62,f63,f64,rfl,hj⟩;have a1:=zAW o1 hlt;obtain⟨w,hw⟩:=zJV x.list[k];cases hb:zCn m x.list[k] with
   |false=>
    have hL1:L=true:=by rw[←hL];exact zH5 (p:=fun s=> !zCn m s) hlt (by simp only[hb];rfl)
    subst hL1;clear hj hL zJV o1
    repeat' first|simp only[go_sem,zMH, *]|apply bc<;>intro hc
   |true=>
    have hn:=yk (p:=fun s=> !zCn m s) hlt hj (by simp only[hb];rfl);clear hj hL zJV o1
    repeat' first|simp only[go_sem,zMH, *]|apply bc<;>intro hc
    exact hn
  ·rintro fr h e1 ⟨f0,f1,f2,f7,f62,f63,f64,rfl,hj⟩;have hL1:L=false:=by rw[←hL];exact zD2 fun j hj' _=>hj j hj' hj'
   subst hL1;clear hj hL zJV o1;by_cases h0:0<i
   ·have e0:decide ((i:Int)>0)=true:=decide_eq_true (by omega);have ew:IntKind.i64.wrap ((i:Int)-1)=((i-1:Nat):Int):=by rw[zV (by omega) (by omega)];omega
    generalize l[i-1]=y at *
    repeat' first|simp only[go_sem,zMH, *]|apply bc<;>intro hc
    refine zz Heap.emp [(0, .no,false),(1, .no,false),(2, .no,false),(3, .no,false),(4, .no,false),(5, .no,false),(6, .no,false),(7, .no,false),(13, .no,false),(8, .no,false),(9, .no,false),(10, .no,false),(11, .no,false),(12, .no,false),(14, .no,false),(15, .no,false),(16, .no,false),(17, .no,false)] (by kernel_rfl) (by kernel_rfl) (fun i ob e=>by cases e) ?_
    repeat' first|simp only[go_sem,zMH, *]|apply bc<;>intro hc|(refine zA.mono (c3 _) ?_;rintro r h ⟨rfl,rfl⟩)|(refine zA.mono (c4 _) ?_;rintro r h ⟨rfl,rfl⟩)
   ·have e0:decide ((i:Int)>0)=false:=decide_eq_false (by omega);clear ha2 c4
    repeat' first|simp only[go_sem,zMH, *]|apply bc<;>intro hc
    refine zz Heap.emp [(0, .no,false),(1, .no,false),(2, .no,false),(3, .no,false),(4, .no,false),(5, .no,false),(6, .no,false),(7, .no,false),(13, .no,false),(8, .no,false),(9, .no,false),(10, .no,false),(11, .no,false),(12, .no,false),(14, .no,false),(15, .no,false),(16, .no,false),(17, .no,false)] (by kernel_rfl) (by kernel_rfl) (fun i ob e=>by cases e) ?_
    repeat' first|simp only[go_sem,zMH, *]|apply bc<;>intro hc|(refine zA.mono (c3 _) ?_;rintro r h ⟨rfl,rfl⟩)
def zGQ (m:KN) (l:List Apt) (i:Nat) (x:Apt):Int:=
 if([x.a,x.b].any fun s=> !zCn m s)=true then 7
 else if(!zIn x.a x.b||(decide ((i:Int)>0)&&decide (zUE (l.getD (i-1) x) x≥0)))=true then 5 else 0
theorem zlN (a b:List UInt8) (nid:Nat) (h:Heap):zM Tryz.prog false nid 40 2 [(0, .str a),(1, .str b)] h=some (.sl 1 (yP [a,b]) .full,h):=by
 simp[zM,yj,zFg,zAh,zA6,D.notTuple,D.cells,yC,qZ,yW,yP]
set_option maxHeartbeats 4000000 in
theorem zOT {l:List Apt} {d:D} (hd:zX 2 (zWc l) d) (hl:l.length≤1048576) {i:Nat} (hi:i<l.length) {m:KN} {id:Nat} {g:Heap} (hm:g.at' id=some (.map (knD m))):
  zA Tryz.prog 101 [d, .int .i64 (i:Int), .map id] g fun r h'=>h'=g∧r= .int .i64 (zGQ m l i l[i]):=by
 refine zA.pure (by kernel_rfl) fun hok=> ?_;have hlt:id<g.next:=by
  by_cases h:id<g.next
  ·exact h
  ·rw[hok id (by omega)] at hm;cases hm
 have hat:=zFr hd hi;have hbel:∀k:Int,below g.next (.int .i64 k):=fun k=>trivial;have hv2:∀a b:D,zR true 2 [a,b] 0=some (.agg [a,b]):=fun a b=>zB rfl (by omega);have hi1:i-1<l.length:=by omega
 obtain⟨R,hR⟩:∃R,zGQ m l i l[i]=R:=⟨_,rfl⟩;rw[hR];unfold zGQ at hR;have hpn:∀x,l.getD (i-1) x=l[i-1]'hi1:=fun x=>by simp[hi1]
 have ha2:=zFr hd hi1;have c4:=zI1 (l[i-1]'hi1) l[i];rw[hpn] at hR;clear hpn;generalize l[i]=x at *
 simp only[Apt.cells] at hat ha2 c4;have hst:zU Tryz.prog 135 (.ptr g.next 0) (.agg [.str x.a, .str x.b]) (g.new g.next (.row [.str [], .str []]))=some (g.new g.next (.row [.str x.a, .str x.b])):=zj zKm (by omega) rfl rfl rfl;obtain⟨H,hH,hrow,hE',hm'⟩:∃H,g.new g.next (.row [.str x.a, .str x.b])=H∧H.at' g.next=some (.row [.str x.a, .str x.b])∧Ext g H∧H.at' id=some (.map (knD m)):=⟨_,rfl,zJ _ _ _,(Ext.refl g).new (Nat.le_refl _) _,by rw[zG (by omega)];exact hm⟩;rw[hH] at hst;have zJV:=fun k=>zK4 hm' k;have hb2:=zlN x.a x.b;obtain⟨lst,hlst⟩:∃lst,[x.a,x.b]=lst:=⟨_,rfl⟩
 have hll:lst.length=2:=by rw[←hlst];rfl
 have o1:zX 1 (yP lst) (.sl 1 (yP lst) .full):=zX.mk _;have hlen:=yz o1;rw[hll] at hlen;rw[hlst] at hb2 hR;clear hH hm hm';refine zA.of_fn (g:=zTI) mix Tryz.func101 zhf rfl rfl ?_;simp only[Tryz.f101,gJ];obtain⟨L,hL⟩:∃L,(lst.any fun s=> !zCn m s)=L:=⟨_,rfl⟩;rw[hL] at hR;subst hR;clear hlst
 repeat' first|simp only[go_sem,zMK, *]|apply bc<;>intro hc
 refine zF (fun k fr h=>fr 0=d∧fr 1= .int .i64 (i:Int)∧fr 2= .map id∧fr 7= .ptr g.next 0∧fr 20= .sl 1 (yP lst) .full∧fr 21= .int .i64 ((2:Nat):Int)∧fr 22= .int .i64 (k:Int)∧h=H∧∀j (hj:j<lst.length),j<k→(!zCn m lst[j])=false) 2 (by omega) ?_ ?_ ?_
 ·simp only[go_sem,zMK,true_and,and_true,Int.ofNat_zero];exact fun j hj h0=>by omega
 ·rintro k fr h hlt e1 ew ⟨f0,f1,f2,f7,f20,f21,f22,rfl,hj⟩;have hk:k<lst.length:=by omega
  have a1:=zAW o1 hk;obtain⟨w,hw⟩:=zJV lst[k];cases hb:zCn m lst[k] with
  |false=>
   have hL1:L=true:=by rw[←hL];exact zH5 (p:=fun s=> !zCn m s) hk (by simp only[hb];rfl)
   subst hL1;clear hj hL zJV o1 hll
   repeat' first|simp only[go_sem,zMK, *]|apply bc<;>intro hc
  |true=>
   have hn:=yk (p:=fun s=> !zCn m s) hk hj (by simp only[hb];rfl);clear hj hL zJV o1 hll
   repeat' first|simp only[go_sem,zMK, *]|apply bc<;>intro hc
   exact hn
 ·rintro fr h e1 ⟨f0,f1,f2,f7,f20,f21,f22,rfl,hj⟩;have hL1:L=false:=by rw[←hL];exact zD2 fun j hj' _=>hj j hj' (by omega)
  subst hL1;clear hj hL zJV o1 hll;by_cases h0:0<i
  ·have e0:decide ((i:Int)>0)=true:=decide_eq_true (by omega);have ew:IntKind.i64.wrap ((i:Int)-1)=((i-1:Nat):Int):=by rw[zV (by omega) (by omega)];omega
   generalize l[i-1]=y at *
   repeat' first|simp only[go_sem,zMK, *]|apply bc<;>intro hc
   refine zz Heap.emp [(0, .no,false),(1, .no,false),(2, .no,false),(3, .no,false),(4, .no,false),(5, .no,false),(6, .no,false),(7, .no,false),(8, .no,false),(14, .no,false),(9, .no,false),(10, .no,false),(11, .no,false),(12, .no,false),(13, .no,false),(15, .no,false),(16, .no,false),(17, .no,false),(18, .no,false)] (by kernel_rfl) (by kernel_rfl) (fun i ob e=>by cases e) ?_
   repeat' first|simp only[go_sem,zMK, *]|apply bc<;>intro hc|(refine zA.mono (c4 _) ?_;rintro r h ⟨rfl,rfl⟩)
  ·have e0:decide ((i:Int)>0)=false:=decide_eq_false (by omega);clear ha2 c4
   repeat' first|simp only[go_sem,zMK, *]|apply bc<;>intro hc
   refine zz Heap.emp [(0, .no,false),(1, .no,false),(2, .no,false),(3, .no,false),(4, .no,false),(5, .no,false),(6, .no,false),(7, .no,false),(8, .no,false),(14, .no,false),(9, .no,false),(10, .no,false),(11, .no,false),(12, .no,false),(13, .no,false),(15, .no,false),(16, .no,false),(17, .no,false),(18, .no,false)] (by kernel_rfl) (by kernel_rfl) (fun i ob e=>by cases e) ?_
   repeat' first|simp only[go_sem,zMK, *]|apply bc<;>intro hc
structure Cat where
 ls:List Lic
 es:List Exc
 cs:List Cla
 ps:List Apt
structure Cat.Sm (c:Cat):Prop where
 ls:c.ls.length≤1048576∧∀x∈c.ls,x.Sm
 es:c.es.length≤1048576∧∀x∈c.es,x.Ok
 cs:c.cs.length≤1048576∧∀x∈c.cs,x.Ok
 ps:c.ps.length≤1048576
def qX (c:Cat) (d:D):Prop:=∃a b e p,d= .agg [a,b,e,p]∧zX 4 (zCV c.ls) a∧zX 3 (zaF c.es) b∧zX 5 (zMl c.cs) e∧zX 2 (zWc c.ps) p
def zDn (f:Nat→Int):Nat→Int
 |0=>0
 |n+1=>if(zDn f n==0)=true then f n else zDn f n
theorem yr {f:Nat→Int} :∀ {n:Nat},(∀i,i<n→f i=0)→zDn f n=0
 |0,_=>rfl
 |n+1,h=>by
  have ih:=yr (n:=n) fun i hi=>h i (by omega);simp[zDn,ih,h n (by omega)]
theorem zCZ {f:Nat→Int} :∀ {n i:Nat},i<n→(∀j,j<i→f j=0)→f i≠0→zDn f n=f i
 |n+1,i,hi,hj,h0=>by
  rcases Nat.lt_succ_iff_lt_or_eq.1 hi with q|rfl
  ·have ih:=zCZ q hj h0;simp only[zDn,ih];rw[if_neg (by simpa using h0)]
  ·simp[zDn,yr hj]
theorem wX {f:Nat→Int} {i:Nat} (hj:∀j,j<i→f j=0) (h:f i=0):∀j,j<i+1→f j=0:=fun j hji=>by
 rcases Nat.lt_succ_iff_lt_or_eq.1 hji with q|rfl
 ·exact hj j q
 ·exact h
def atE {α:Type} (f:Nat→α→Int) (l:List α) (i:Nat):Int:=match l[i]? with
 |some x=>f i x
 |none=>0
theorem zQK {α:Type} {f:Nat→α→Int} {l:List α} {i:Nat} (h:i<l.length):atE f l i=f i l[i]:=by simp[atE,h]
def Cat.m (c:Cat):KN:=zMk c.ls c.ls.length
def Cat.big (c:Cat):Bool:=decide ((c.ls.length:Int)>32)||decide ((c.es.length:Int)>16)||decide ((c.cs.length:Int)>128)||decide ((c.ps.length:Int)>64)
def Cat.e1 (c:Cat):Int:=zDn (atE (zGN c.ls) c.ls) c.ls.length
def Cat.e2 (c:Cat):Int:=zDn (atE (zGO c.m c.es) c.es) c.es.length
def Cat.e3 (c:Cat):Int:=zDn (atE (zGP c.m c.cs) c.cs) c.cs.length
def Cat.e4 (c:Cat):Int:=zDn (atE (zGQ c.m c.ps) c.ps) c.ps.length
def zCj (c:Cat):Int:=
 if c.big=true then 10
 else if(!(c.e1==0))=true then c.e1
 else if(!(c.e2==0))=true then c.e2
 else if(!(c.e3==0))=true then c.e3
 else c.e4
set_option maxHeartbeats 4000000 in
theorem zDe {c:Cat} {d:D} (hc:qX c d) (hs:c.Sm) (g:Heap):zA Tryz.prog 64 [d] g fun r h'=>h'=g∧r= .int .i64 (zCj c):=by
 refine zA.pure (by kernel_rfl) fun hok=> ?_;obtain⟨a,b,e,p,rfl,ha,hb,he,hp⟩:=hc;have la:=wd ha;have lb:=zE9 hb;have le:=zCY he;have lp:=zFA hp;have s1:=hs.ls.1;have s2:=hs.es.1;have s3:=hs.cs.1;have s4:=hs.ps;have hbel:∀k:Int,below g.next (.int .i64 k):=fun k=>trivial;have hv4:∀a b c e:D,zR true 4 [a,b,c,e] 0=some (.agg [a,b,c,e]):=fun a b c e=>zB rfl (by omega);have hE0:Ext g g:=Ext.refl g;refine zA.of_fn (g:=zVu) mix Tryz.func64 zjj rfl rfl ?_;simp only[Tryz.f64,gJ];cases hbig:c.big with
 |true=>
  have hR:zCj c=10:=if_pos hbig;unfold Cat.big at hbig
  repeat' first|simp only[go_sem,zKp, *]|apply bc<;>intro hc
  all_goals(simp only[decide_true,decide_false,bne,Bool.or_false,Bool.or_true,Bool.false_or,Bool.true_or,Bool.or_self,Bool.false_and,Bool.true_and,Bool.and_false,Bool.and_true,Bool.and_self,Bool.not_true,Bool.not_false,Bool.not_not,Bool.true_eq_false,Bool.false_eq_true, *] at hbig;done)
 |false=>
 have hR:zCj c=if(!(c.e1==0))=true then c.e1 else if(!(c.e2==0))=true then c.e2 else if(!(c.e3==0))=true then c.e3 else c.e4:=if_neg (by rw[hbig];exact Bool.false_ne_true)
 obtain⟨R,eR⟩:∃R,zCj c=R:=⟨_,rfl⟩;rw[eR] at hR⊢;have hR':=hR.symm;clear hR;have hR:=hR';clear hR';clear eR;unfold Cat.big at hbig;simp only[Bool.or_eq_false_iff] at hbig;obtain⟨⟨⟨q1,q2⟩,q3⟩,q4⟩:=hbig
 repeat' first|simp only[go_sem,zKp, *]|apply bc<;>intro hc
 refine zF (fun k fr h=>fr 1= .iptr [a,b,e,p] 0∧fr 36= .int .i64 (c.ls.length:Int)∧fr 37= .int .i64 (k:Int)∧h=g∧∀j,j<k→atE (zGN c.ls) c.ls j=0) c.ls.length (by omega) ?_ ?_ ?_
 ·simp only[go_sem,zKp,true_and,and_true,Int.ofNat_zero];exact fun j hj=>absurd hj (Nat.not_lt_zero _)
 ·rintro k fr h hlt ec ew ⟨f1,fl,fk,rfl,hj⟩;have hck:=zI0 ha (by omega) hs.ls.2 hlt;have hat:=zQK (f:=zGN c.ls) hlt;generalize zGN c.ls k c.ls[k]=v at *
  cases hv:(v==0) with
  |false=>
   have hx:zDn (atE (zGN c.ls) c.ls) c.ls.length=v:=by rw[zCZ hlt hj (by rw[hat];simpa using hv),hat]
   have hx:c.e1=v:=hx;rw[hx,if_pos (by rw[hv];rfl)] at hR;subst hR;clear hj hat hx
   repeat' first|simp only[go_sem,zKp, *]|apply bc<;>intro hc|(refine zA.mono (hck _) ?_;rintro r h ⟨rfl,rfl⟩)
  |true=>
   have hn:=wX hj (by rw[hat];simpa using hv);clear hj hat
   repeat' first|simp only[go_sem,zKp, *]|apply bc<;>intro hc|(refine zA.mono (hck _) ?_;rintro r h ⟨rfl,rfl⟩)
   exact hn
 rintro fr h ec ⟨f1,fl,fk,rfl,hj⟩;have hx:c.e1=0:=yr hj;rw[hx,if_neg (by decide)] at hR;clear hj hx q1
 rename Heap=>g
 simp only[go_sem,zKp,f1,fl,fk,ec];refine(zJs ha (by omega) _).mono ?_;rintro r H ⟨id,rfl,i1,i2,hm,hE⟩
 repeat' first|simp only[go_sem,zKp, *]|apply bc<;>intro hc
 refine zF (fun k fr h=>fr 1= .iptr [a,b,e,p] 0∧fr 5= .map id∧fr 52= .int .i64 (c.es.length:Int)∧fr 53= .int .i64 (k:Int)∧h=H∧∀j,j<k→atE (zGO c.m c.es) c.es j=0) c.es.length (by omega) ?_ ?_ ?_
 ·simp only[go_sem,zKp,true_and,and_true,Int.ofNat_zero];exact⟨f1,fun j hj=>absurd hj (Nat.not_lt_zero _)⟩
 ·rintro k fr h hlt ec ew ⟨f1,f5,fl,fk,rfl,hj⟩;have hck:=zGg hb (by omega) hs.es.2 hlt (m:=c.m) hm;have hat:=zQK (f:=zGO c.m c.es) hlt;generalize zGO c.m c.es k c.es[k]=v at *
  cases hv:(v==0) with
  |false=>
   have hx:zDn (atE (zGO c.m c.es) c.es) c.es.length=v:=by rw[zCZ hlt hj (by rw[hat];simpa using hv),hat]
   have hx:c.e2=v:=hx;rw[hx,if_pos (by rw[hv];rfl)] at hR;subst hR;clear hj hat hx
   repeat' first|simp only[go_sem,zKp, *]|apply bc<;>intro hc|(refine zA.mono hck ?_;rintro r h ⟨rfl,rfl⟩)
  |true=>
   have hn:=wX hj (by rw[hat];simpa using hv);clear hj hat
   repeat' first|simp only[go_sem,zKp, *]|apply bc<;>intro hc|(refine zA.mono hck ?_;rintro r h ⟨rfl,rfl⟩)
   exact hn
 rintro fr h ec ⟨f1,f5,fl,fk,rfl,hj⟩;have hx:c.e2=0:=yr hj;rw[hx,if_neg (by decide)] at hR;clear hj hx
 rename Heap=>H
 simp only[go_sem,zKp,f1,f5,fl,fk,ec,le,lp];refine zF (fun k fr h=>fr 1= .iptr [a,b,e,p] 0∧fr 5= .map id∧fr 67= .int .i64 (c.cs.length:Int)∧fr 68= .int .i64 (k:Int)∧h=H∧∀j,j<k→atE (zGP c.m c.cs) c.cs j=0) c.cs.length (by omega) ?_ ?_ ?_
 ·simp only[go_sem,zKp,true_and,and_true,Int.ofNat_zero];exact⟨f1,f5,fun j hj=>absurd hj (Nat.not_lt_zero _)⟩
 ·rintro k fr h hlt ec ew ⟨f1,f5,fl,fk,rfl,hj⟩;have hck:=zK5 he (by omega) hs.cs.2 hlt (m:=c.m) hm;have hat:=zQK (f:=zGP c.m c.cs) hlt;generalize zGP c.m c.cs k c.cs[k]=v at *
  cases hv:(v==0) with
  |false=>
   have hx:zDn (atE (zGP c.m c.cs) c.cs) c.cs.length=v:=by rw[zCZ hlt hj (by rw[hat];simpa using hv),hat]
   have hx:c.e3=v:=hx;rw[hx,if_pos (by rw[hv];rfl)] at hR;subst hR;clear hj hat hx
   repeat' first|simp only[go_sem,zKp, *]|apply bc<;>intro hc|(refine zA.mono hck ?_;rintro r h ⟨rfl,rfl⟩)
  |true=>
   have hn:=wX hj (by rw[hat];simpa using hv);clear hj hat
   repeat' first|simp only[go_sem,zKp, *]|apply bc<;>intro hc|(refine zA.mono hck ?_;rintro r h ⟨rfl,rfl⟩)
   exact hn
 rintro fr h ec ⟨f1,f5,fl,fk,rfl,hj⟩;have hx:c.e3=0:=yr hj;rw[hx,if_neg (by decide)] at hR;clear hj hx
 rename Heap=>H
 simp only[go_sem,zKp,f1,f5,fl,fk,ec,le,lp];refine zF (fun k fr h=>fr 1= .iptr [a,b,e,p] 0∧fr 5= .map id∧fr 82= .int .i64 (c.ps.length:Int)∧fr 83= .int .i64 (k:Int)∧h=H∧∀j,j<k→atE (zGQ c.m c.ps) c.ps j=0) c.ps.length (by omega) ?_ ?_ ?_
 ·simp only[go_sem,zKp,true_and,and_true,Int.ofNat_zero];exact⟨f1,f5,fun j hj=>absurd hj (Nat.not_lt_zero _)⟩
 ·rintro k fr h hlt ec ew ⟨f1,f5,fl,fk,rfl,hj⟩;have hck:=zOT hp (by omega) hlt (m:=c.m) hm;have hat:=zQK (f:=zGQ c.m c.ps) hlt;generalize zGQ c.m c.ps k c.ps[k]=v at *
  cases hv:(v==0) with
  |false=>
   have hx:zDn (atE (zGQ c.m c.ps) c.ps) c.ps.length=v:=by rw[zCZ hlt hj (by rw[hat];simpa using hv),hat]
   have hx:c.e4=v:=hx;rw[hx] at hR;subst hR;clear hj hat hx
   repeat' first|simp only[go_sem,zKp, *]|apply bc<;>intro hc|(refine zA.mono hck ?_;rintro r h ⟨rfl,rfl⟩)
  |true=>
   have hn:=wX hj (by rw[hat];simpa using hv);clear hj hat
   repeat' first|simp only[go_sem,zKp, *]|apply bc<;>intro hc|(refine zA.mono hck ?_;rintro r h ⟨rfl,rfl⟩)
   exact hn
 rintro fr h ec ⟨f1,f5,fl,fk,rfl,hj⟩;have hx:c.e4=0:=yr hj;rw[hx] at hR;subst hR;clear hj hx
 repeat' first|simp only[go_sem,zKp, *]|apply bc<;>intro hc
theorem zQL {l:List Lic} {k:List UInt8} {v:Int} :∀ {i:Nat},zDm k (zMk l i)=some v→∃j:Nat,j<i∧v=(j:Int)∧(l.map Lic.name).getD j []=k
 |0,h=>by cases h
 |i+1,h=>by
  rw[zMk,zMi] at h;split at h
  ·rename_i q;have q:k=(l.map Lic.name).getD i []:=by simpa using q
   exact⟨i,by omega,(Option.some.inj h).symm,q.symm⟩
  ·obtain⟨j,h1,h2,h3⟩:=zQL h;exact⟨j,by omega,h2,h3⟩
def zBt (c:Cat) (k:List UInt8):Option Lic:=if(!(zCj c==0))=true then none else match zDm k c.m with
 |some v=>c.ls[v.toNat]?
 |none=>none
def zDB (c:Cat) (k:List UInt8):D:=match zBt c k with
 |some x=> .tuple [.agg [.str x.name, .str x.fam, .int .i64 x.ver, .str x.text], .bool true]
 |none=> .tuple [.agg zFQ, .bool false]
theorem zUF {c:Cat} {d:D} (hc:qX c d) (hs:c.Sm) (k:List UInt8) (g:Heap):zA Tryz.prog 118 [d, .str k] g fun r h'=>h'=g∧r=zDB c k:=by
 refine zA.pure (by kernel_rfl) fun hok=> ?_;have hck:=zDe hc hs;obtain⟨a,b,e,p,rfl,ha,hb,he,hp⟩:=hc;have s1:=hs.ls.1;have hix:=fun h=>zJs (e1:=b) (e2:=e) (e3:=p) ha s1 h;have hv4:∀a b c e:D,zR true 4 [a,b,c,e] 0=some (.agg [a,b,c,e]):=fun a b c e=>zB rfl (by omega);have hb0:yG Tryz.prog 124 []=some (.agg zFQ):=by simp[yG,zHj,zHi,qZ,D.notTuple,D.cells]
 have hst:∀ (x:Lic) (H:Heap),H.at' g.next=some (.row zFQ)→zU Tryz.prog 124 (.ptr g.next 0) (.agg [.str x.name, .str x.fam, .int .i64 x.ver, .str x.text]) H=some (H.set g.next (.row [.str x.name, .str x.fam, .int .i64 x.ver, .str x.text])):=fun x H h=>yD h zCO rfl (by simp) rfl;have hst0:∀H:Heap,H.at' g.next=some (.row zFQ)→zU Tryz.prog 124 (.ptr g.next 0) (.agg zFQ) H=some (H.set g.next (.row zFQ)):=fun H h=>hst ⟨[],[],0,[]⟩ H h
 obtain⟨G,hG,r0,E0,n0⟩:∃G,g.new g.next (.row zFQ)=G∧G.at' g.next=some (.row zFQ)∧Ext g G∧g.next<G.next:=⟨_,rfl,zJ _ _ _,(Ext.refl g).new (Nat.le_refl _) _,by rw[zD];omega⟩;have z0:=hst0 G r0;have E1:=E0.set (id:=g.next) (Nat.le_refl _) (.row zFQ);have hbel:∀ (x:Lic) (b:Bool),below g.next (.tuple [.agg [.str x.name, .str x.fam, .int .i64 x.ver, .str x.text], .bool b]):=fun x b=>by simp[below,zb]
 have hbz:below g.next (.tuple [.agg zFQ, .bool false]):=hbel ⟨[],[],0,[]⟩ false;refine zA.of_fn (g:=zPY) mix Tryz.func118 zdH rfl rfl ?_;simp only[Tryz.f118,gJ];cases q0:(zCj c==0) with
 |false=>
  have hR:zDB c k= .tuple [.agg zFQ, .bool false]:=by unfold zDB zBt;rw[if_pos (by rw[q0];rfl)]
  clear hix hst hst0
  repeat' first|simp only[go_sem,zVy,zC, *]|apply bc<;>intro hc|(refine zA.mono (hck _) ?_;rintro r h ⟨rfl,rfl⟩)
 |true=>
 have hf:zBt c k=(match zDm k c.m with
  |some v=>c.ls[v.toNat]?
  |none=>none):=if_neg (by rw[q0];decide)
 clear hbz
 repeat' first|simp only[go_sem,zVy, *]|apply bc<;>intro hc|(refine zA.mono (hck _) ?_;rintro r h ⟨rfl,rfl⟩)
 rename Heap=>G
 refine(hix _).mono ?_;rintro r H ⟨id,rfl,i1,i2,hm,hE⟩;have hrow:H.at' g.next=some (.row zFQ):=by rw[hE.2 _ n0];exact r0
 have EH:=E0.trans hE;obtain⟨v,hlk⟩:=zK4 hm k;have hbz:below g.next (.tuple [.agg zFQ, .bool false]):=hbel ⟨[],[],0,[]⟩ false;have E2:=EH.set (id:=g.next) (Nat.le_refl _) (.row zFQ);have z2:=hst0 H hrow;cases hk:zDm k (zMk c.ls c.ls.length) with
 |none=>
  have hR:zDB c k= .tuple [.agg zFQ, .bool false]:=by
   unfold zDB;rw[hf];unfold Cat.m;rw[hk]
  have hh:zCn (zMk c.ls c.ls.length) k=false:=by unfold zCn;rw[hk];rfl
  clear hf hst hst0 hix hck hE EH E1 z0 r0 E0
  repeat' first|simp only[go_sem,zVy,zC, *]|apply bc<;>intro hc
 |some w=>
  obtain⟨j,hj,rfl,hjn⟩:=zQL hk;have hlk0:=zJr (P:=Tryz.prog) (t:=175) hm zKn zMB zAQ k true;rw[hk] at hlk0;have hlk2:yS Tryz.prog 175 (.map id) (.str k) true H=some (.tuple [.int .i64 (j:Int), .bool true]):=hlk0;clear hlk0;have hat:=wj ha hj;simp only[Lic.cells] at hat;have hR:zDB c k= .tuple [.agg [.str c.ls[j].name, .str c.ls[j].fam, .int .i64 c.ls[j].ver, .str c.ls[j].text], .bool true]:=by
   unfold zDB;rw[hf];unfold Cat.m;rw[hk];simp only[Int.toNat_natCast,List.getElem?_eq_getElem hj]
  have s2:=hst c.ls[j] H hrow;have E3:=EH.set (id:=g.next) (Nat.le_refl _) (.row [.str c.ls[j].name, .str c.ls[j].fam, .int .i64 c.ls[j].ver, .str c.ls[j].text]);clear hf hst hst0 hix hck hE EH E1 z0 r0 E0 hlk z2 E2
  repeat' first|simp only[go_sem,zVy,zC, *]|apply bc<;>intro hc
def zK6 (c:Cat) (lic exc:List UInt8):Option Exc:=c.es.find? fun x=>x.name==exc&&x.lic==lic
def zFB (c:Cat) (lic exc:List UInt8):D:=
 if(zBt c lic).isSome=false then .tuple [.nilsl, .bool false]
 else if(exc== [])=true then .tuple [.nilsl, .bool true]
 else match zK6 c lic exc with
  |some x=> .tuple [x.d, .bool true]
  |none=> .tuple [.nilsl, .bool false]
theorem zaG {α:Type} {p:α→Bool} {l:List α} {i:Nat} (hi:i<l.length) (hj:∀j (hj:j<l.length),j<i→p l[j]=false) (hp:p l[i]=true):l.find? p=some l[i]:=by
 rw[List.find?_eq_some_iff_getElem];exact⟨hp,i,hi,rfl,fun j hji=>by rw[hj j (by omega) hji];rfl⟩
theorem zUG {α:Type} {p:α→Bool} {l:List α} (hj:∀j (hj:j<l.length),p l[j]=false):l.find? p=none:=by
 rw[List.find?_eq_none];intro x hx;obtain⟨j,hjl,rfl⟩:=List.mem_iff_getElem.1 hx;rw[hj j hjl];exact Bool.false_ne_true
set_option maxHeartbeats 2000000 in
theorem zUH {c:Cat} {d:D} (hc:qX c d) (hs:c.Sm) (lic exc:List UInt8) (g:Heap):zA Tryz.prog 128 [d, .agg [.str lic, .str exc]] g fun r h'=>Ext g h'∧r=zFB c lic exc:=by
 have hfi:=zUF hc hs lic;obtain⟨a,b,e,p,rfl,ha,hb,he,hp⟩:=hc;have s2:=hs.es.1;have lb:=zE9 hb;have hv4:∀a b c e:D,zR true 4 [a,b,c,e] 0=some (.agg [a,b,c,e]):=fun a b c e=>zB rfl (by omega);have hv3:∀a b c:D,zR true 3 [a,b,c] 0=some (.agg [a,b,c]):=fun a b c=>zB rfl (by omega);have hstL:∀ (x:Lic) (h:Heap),zU Tryz.prog 124 (.ptr h.next 0) (.agg [.str x.name, .str x.fam, .int .i64 x.ver, .str x.text]) (h.new h.next (.row zFQ))=some (h.new h.next (.row [.str x.name, .str x.fam, .int .i64 x.ver, .str x.text])):=fun x h=>zC8 x h h.next
 have hE0:∀o,Ext g (g.new g.next o):=fun o=>(Ext.refl g).new (Nat.le_refl _) o;refine zA.of_fn (g:=zP3) mix Tryz.func128 zeN rfl rfl ?_;simp only[Tryz.f128,gJ];cases hf:zBt c lic with
 |none=>
  have hfd:zDB c lic= .tuple [.agg zFQ, .bool false]:=by unfold zDB;rw[hf]
  have hR:zFB c lic exc= .tuple [.nilsl, .bool false]:=by unfold zFB;rw[hf];rfl
  have hst:=fun h=>hstL ⟨[],[],0,[]⟩ h;clear hstL
  repeat' first|simp only[go_sem,zMQ, *]|apply bc<;>intro hc|(refine zA.mono (hfi _) ?_;rintro r h ⟨rfl,rfl⟩)
 |some x=>
  have hfd:zDB c lic= .tuple [.agg [.str x.name, .str x.fam, .int .i64 x.ver, .str x.text], .bool true]:=by unfold zDB;rw[hf]
  have hst:=fun h=>hstL x h;clear hstL;cases q1:(exc== []) with
  |true=>
   have hR:zFB c lic exc= .tuple [.nilsl, .bool true]:=by unfold zFB;rw[hf,q1];rfl
   repeat' first|simp only[go_sem,zMQ, *]|apply bc<;>intro hc|(refine zA.mono (hfi _) ?_;rintro r h ⟨rfl,rfl⟩)
  |false=>
  have hR0:zFB c lic exc=match zK6 c lic exc with
   |some x=> .tuple [x.d, .bool true]
   |none=> .tuple [.nilsl, .bool false]:=by unfold zFB;rw[hf,q1];rfl
  obtain⟨R,eR⟩:∃R,zFB c lic exc=R:=⟨_,rfl⟩;rw[eR] at hR0⊢;have hR2:=hR0.symm;clear eR hR0
  repeat' first|simp only[go_sem,zMQ, *]|apply bc<;>intro hc|(refine zA.mono (hfi _) ?_;rintro r h ⟨rfl,rfl⟩)
  rename Heap=>G
  obtain⟨H,hH,hE⟩:∃H,G.new G.next (.row [.str x.name, .str x.fam, .int .i64 x.ver, .str x.text])=H∧Ext G H:=⟨_,rfl,hE0 _⟩;rw[hH];clear hH hst hE0 hfi hfd;refine zF (fun k fr h=>fr 3= .iptr [.str lic, .str exc] 0∧fr 23=b∧fr 24= .int .i64 (c.es.length:Int)∧fr 25= .int .i64 (k:Int)∧Ext G h∧∀j (hj:j<c.es.length),j<k→(c.es[j].name==exc&&c.es[j].lic==lic)=false) c.es.length (by omega) ?_ ?_ ?_
  ·simp only[go_sem,zMQ,true_and,and_true,Int.ofNat_zero];exact⟨hE,fun j hj h0=>absurd h0 (Nat.not_lt_zero _)⟩
  ·clear hE;rintro k fr h hlt ec ew ⟨f3,f23,f24,f25,hE,hj⟩;have a1:=zFq hb hlt;have ho:=(hs.es.2 _ (List.getElem_mem hlt)).1;have hnext:=fun q=>yk (p:=fun y:Exc=>y.name==exc&&y.lic==lic) (l:=c.es) hlt hj q;have hfound:=fun q=>zaG (p:=fun y:Exc=>y.name==exc&&y.lic==lic) (l:=c.es) hlt hj q;have hR1:zK6 c lic exc=some c.es[k]→ .tuple [c.es[k].d, .bool true]=R:=fun q=>by rw[←hR2,q]
   generalize c.es[k]=y at *
   simp only[Exc.cells] at a1;have hst:zU Tryz.prog 129 (.ptr h.next 0) (.agg [.str y.name, .str y.lic,y.d]) (h.new h.next (.row [.str [], .str [], .nilsl]))=some (h.new h.next (.row [.str y.name, .str y.lic,y.d])):=zj zHk (by omega) rfl rfl (by show(true&&(true&&(y.d.flat&&true)))=true;rw[zBs ho];rfl);have hE2:=hE.new hE.1 (.row [.str y.name, .str y.lic,y.d]);clear hj hR2 ho;cases b1:(y.name==exc) with
   |false=>
    have hn:=hnext (by simp only[b1,Bool.false_and]);clear hnext hfound hR1
    repeat' first|simp only[go_sem,zMQ,zJ, *]|apply bc<;>intro hc
    exact hn
   |true=>
    cases b2:(y.lic==lic) with
    |false=>
     have hn:=hnext (by simp only[b1,b2,Bool.and_false]);clear hnext hfound hR1
     repeat' first|simp only[go_sem,zMQ,zJ, *]|apply bc<;>intro hc
     exact hn
    |true=>
     have hn:=hR1 (hfound (by simp only[b1,b2,Bool.and_self]));clear hnext hfound hR1
     repeat' first|simp only[go_sem,zMQ,zJ, *]|apply bc<;>intro hc
  ·clear hE;rintro fr h ec ⟨f3,f23,f24,f25,hE,hj⟩;have hn:zK6 c lic exc=none:=zUG fun j hj'=>hj j hj' hj';rw[hn] at hR2;have hR3: .tuple [.nilsl, .bool false]=R:=hR2;clear hj hn hR2
   repeat' first|simp only[go_sem,zMQ, *]|apply bc<;>intro hc
def zI2 (c:Cat) (lic exc:List UInt8):Bool:=(zBt c lic).isSome&&((exc== [])||(zK6 c lic exc).isSome)
theorem zOU (c:Cat) (lic exc:List UInt8):∃q,zFB c lic exc= .tuple [q, .bool (zI2 c lic exc)]:=by
 unfold zFB zI2;cases zBt c lic with
 |none=>exact⟨_,rfl⟩
 |some x=>
  cases h:(exc== []) with
  |true=>exact⟨_,rfl⟩
  |false=>
   cases zK6 c lic exc with
   |none=>exact⟨_,rfl⟩
   |some y=>exact⟨_,rfl⟩
theorem zaH {c:Cat} {d:D} (hc:qX c d) (hs:c.Sm) (lic exc:List UInt8) (g:Heap):zA Tryz.prog 121 [d, .agg [.str lic, .str exc]] g fun r h'=>h'=g∧r= .bool (zI2 c lic exc):=by
 refine zA.pure (by kernel_rfl) fun hok=> ?_;have hli:=zUH hc hs lic exc;obtain⟨q,hq⟩:=zOU c lic exc;rw[hq] at hli;obtain⟨a,b,e,p,rfl,ha,hb,he,hp⟩:=hc;have hv4:∀a b c e:D,zR true 4 [a,b,c,e] 0=some (.agg [a,b,c,e]):=fun a b c e=>zB rfl (by omega);have hv2:∀a b:D,zR true 2 [a,b] 0=some (.agg [a,b]):=fun a b=>zB rfl (by omega);have hbel:∀b:Bool,below g.next (.bool b):=fun b=>trivial;refine zA.of_fn (g:=zPw) mix Tryz.func121 zd6 rfl rfl ?_;simp only[Tryz.f121,gJ]
 repeat' first|simp only[go_sem,zd5, *]|apply bc<;>intro hc
 refine(hli _).mono ?_;rintro r h ⟨hE,rfl⟩
 repeat' first|simp only[go_sem,zd5, *]|apply bc<;>intro hc
theorem zWf {l:List Int} {d:D} (hd:zX 1 (wT l) d) (hl:l.length≤1048576) (n:Int) (g:Heap):
  zA Tryz.prog 50 [d, .int .i64 n] g fun r h'=>h'=g∧r= .int .i64 (zLb (fun x=>x==n) l):=by
 have hlen:=zAb hd;obtain⟨p,hp⟩:∃p:Int→Bool,(fun x=>x==n)=p:=⟨_,rfl⟩;have hpe:∀x,p x=(n==x):=fun x=>by rw[←hp];exact Bool.beq_comm
 rw[hp];clear hp;refine zA.of_fn (g:=zWM) mix Tryz.func50 zkG rfl rfl ?_;simp only[Tryz.f50,gJ]
 repeat' first|simp only[go_sem,zeG, *]|apply bc<;>intro hc
 refine zF (fun i fr h=>fr 1= .int .i64 n∧fr 0=d∧fr 6=d∧fr 7= .int .i64 (l.length:Int)∧fr 8= .int .i64 (i:Int)∧h=g∧∀j (hj:j<l.length),j<i→p l[j]=false) l.length (by omega) ?_ ?_ ?_
 ·simp only[go_sem,zeG,true_and,and_true,Int.ofNat_zero];exact fun j hj h0=>absurd h0 (Nat.not_lt_zero _)
 ·rintro i fr h hlt e1 ew ⟨f1,f0,f6,f7,f8,rfl,hj⟩;have a1:=zCU hd hlt;cases hb:(n==l[i]) with
  |true=>
   have hx:=zCW (p:=p) hlt hj (by rw[hpe,hb]);clear hj hd hpe
   repeat' first|simp only[go_sem,zeG, *]|apply bc<;>intro hc
  |false=>
   have hn:=yk (p:=p) hlt hj (by rw[hpe,hb]);clear hj hd hpe
   repeat' first|simp only[go_sem,zeG, *]|apply bc<;>intro hc
   exact hn
 ·rintro fr h e1 ⟨f1,f0,f6,f7,f8,rfl,hj⟩;have hx:=zCX (p:=p) fun j hj'=>hj j hj' hj';clear hj hd hpe
  repeat' first|simp only[go_sem,zeG, *]|apply bc<;>intro hc
theorem zIB {l:List Int} {d:D} (hd:zX 1 (wT l) d) (hl:l.length≤1048576) (n:Int) (g:Heap):
  zA Tryz.prog 27 [d, .int .i64 n] g fun r h'=>h'=g∧r= .bool (l.any fun x=>x==n):=by
 have hix:=zWf hd hl n;have hge:=zC9 (l:=l) (p:=fun x=>x==n);refine zA.of_fn (g:=zVm) mix Tryz.func27 zja rfl rfl ?_;simp only[Tryz.f27,gJ]
 repeat' first|simp only[go_sem,zkd, *]|apply bc<;>intro hc|(refine zA.mono (hix _) ?_;rintro r h ⟨rfl,rfl⟩)
noncomputable def zRJ:Cfg:=⟨fun t=>List.contains (α:=Nat) [] t,fun i=>(zJV (α:=List (Nat×Fl)) [] i).getD []⟩
theorem zgW (t:Tmp):zRJ.mu t=false:=(rfl)
theorem zkS:zd Tryz.prog zRJ Tryz.f22=true:=by kernel_rfl
theorem zIC (l:List (List UInt8)):∀x∈yP l,x.length=1:=fun x hx=>by
 obtain⟨s,_,rfl⟩:=List.mem_map.1 hx;rfl
theorem zWg {l:List (List UInt8)} {d:D} (hd:zX 1 (yP l) d) (hl:l.length≤1048576) (g:Heap):
  zA Tryz.prog 22 [d] g fun r h'=>h'=g∧Fin 1 (yP l) r:=by
 refine zA.pure (by kernel_rfl) fun hok=>zA.strip ?_;have hE0:Ext g g:=Ext.refl g;rcases hd with⟨rfl,hs⟩ | ⟨tk,rfl⟩
 ·have h0:l= []:=List.map_eq_nil_iff.1 hs;subst h0;refine zA.of_fn (g:=zRJ) mix Tryz.func22 zkS rfl rfl ?_;simp only[Tryz.f22,gJ];have hn:zCl Tryz.prog .eql 40 true .nilsl .nilsl=some (.bool true):=by rw[qi (sz:=1) zX.nil Tryz.underlying40];rfl
  have hfin:below g.next (yI .nilsl)∧Fin 1 (yP []) (yI .nilsl):=⟨trivial, .inl ⟨rfl,rfl⟩⟩;clear hl hs
  repeat' first|simp only[go_sem,zgW, *]|apply bc<;>intro hc
 ·refine zA.of_fn (g:=zRJ) mix Tryz.func22 zkS rfl rfl ?_;simp only[Tryz.f22,gJ];have hn:zCl Tryz.prog .eql 40 true (.sl 1 (yP l) tk) .nilsl=some (.bool false):=by rw[qi (zX.mk tk) Tryz.underlying40];rfl
  have hz:=fun nid h=>qK (P:=Tryz.prog) (nid:=nid) (h:=h) yj zFg zAh rfl rfl (by omega:0<1);have hap:z6 Tryz.prog false g.next 40 (.sl 1 [] .full) (.sl 1 (yP l) tk) g=if(yP l).length=0 then some (.sl 1 [] .full,g) else some (.sl 1 (yP l) (.own g.next),g.new g.next .tok):=zGJ yj zHg zAh (by omega) (zIC l) (by rw[zBe,zq];unfold lim;omega) (by rw[zq];unfold lim;omega)
  have hE1:=hE0.new (Nat.le_refl _) .tok;have hst:=yO (sz:=1) (xs:=yP l) qL;by_cases h0:l= []
  ·subst h0;rw[if_pos (by rw[zq];rfl)] at hap;have hfin:below g.next (yI (.sl 1 [] .full))∧Fin 1 (yP []) (yI (.sl 1 [] .full)):=by
    have:=hst .full;exact⟨by rw[show([]:List (List D))=yP [] from rfl,this.1];exact zy (Nat.zero_le _) _ this.2, .inr this.1⟩
   clear hst hE1
   repeat' first|simp only[go_sem,zgW, *]|apply bc<;>intro hc
  ·rw[if_neg (by rw[zq];exact fun q=>h0 (List.length_eq_zero_iff.1 q))] at hap;have hfin:below g.next (yI (.sl 1 (yP l) (.own g.next)))∧Fin 1 (yP l) (yI (.sl 1 (yP l) (.own g.next))):=by
    have:=hst (.own g.next);exact⟨by rw[this.1];exact zy (Nat.zero_le _) _ this.2, .inr this.1⟩
   clear hst h0
   repeat' first|simp only[go_sem,zgW, *]|apply bc<;>intro hc
def zRK (c:Cat) (lic exc:List UInt8):Option (List Int):=
 if(zBt c lic).isSome=false then none else if(exc== [])=true then some [] else(zK6 c lic exc).map Exc.lifts
theorem zRL {c:Cat} {lic exc:List UInt8} (h:zRK c lic exc=none):zFB c lic exc= .tuple [.nilsl, .bool false]:=by
 unfold zRK at h;unfold zFB;split at h
 ·rename_i q;rw[if_pos q]
 rename_i q;rw[if_neg q];split at h
 ·cases h
 ·rename_i q2;rw[if_neg q2];cases he:zK6 c lic exc with
  |none=>rfl
  |some x=>rw[he] at h;cases h
theorem zRM {c:Cat} (hs:c.Sm) {lic exc:List UInt8} {L:List Int} (h:zRK c lic exc=some L):∃q,zFB c lic exc= .tuple [q, .bool true]∧zX 1 (wT L) q∧L.length≤1048576:=by
 unfold zRK at h;unfold zFB;split at h
 ·cases h
 rename_i q;rw[if_neg q];split at h
 ·rename_i q2;rw[if_pos q2];cases h;exact⟨_,rfl,zX.nil,by simp⟩
 ·rename_i q2;rw[if_neg q2];cases he:zK6 c lic exc with
  |none=>rw[he] at h;cases h
  |some x=>
   rw[he] at h;cases h;have hm:=hs.es.2 x (List.mem_of_find?_eq_some he);exact⟨_,rfl,hm.1,hm.2.1⟩
def Cla.key (x:Cla):List UInt8×Int×Int×Int×List (List UInt8):=(x.lic,x.way,x.rel,x.duty,x.list)
def zUI (L:List Int) (lic:List UInt8) (way rel:Int) (x:Cla):Bool:=x.lic==lic&&x.way==way&&x.rel==rel&& !(L.any fun z=>z==x.duty)
def zCa (c:Cat) (lic exc:List UInt8) (way rel:Int):List Cla:=match zRK c lic exc with
 |none=>[]
 |some L=>c.cs.filter (zUI L lic way rel)
def Cla.Fine (x:Cla):Prop:=Fin 1 (yP x.list) x.d∧x.list.length≤1048576
theorem Cla.Fine.plain {x:Cla} (h:x.Fine):qC x.cells:=by
 rcases h.1 with⟨e,_⟩ |e
 ·unfold Cla.cells;rw[e];exact⟨rfl,by simp[zb,below],by simp[yA,yI]⟩
 ·have:=yO (sz:=1) (xs:=yP x.list) qL .no;obtain⟨h1,h2⟩:=this;simp only[yI,D.sl.injEq,true_and,and_true] at h1;simp only[below] at h2;unfold Cla.cells;rw[e];exact⟨rfl,by simp[zb,below,h2],by simp[yA,yI,h1]⟩
def zii (S:List Cla) (r:D):Prop:=∃cs:List Cla,zX 5 (zMl cs) r∧(∀y∈cs,y.Fine)∧cs.map Cla.key=S.map Cla.key
theorem Own.setRow {h0 h:Heap} {sz:Nat} {xs:List (List D)} {d:D} (ho:Own h0 h sz xs d) {id:Nat} {o:Obj} (hi:h0.next≤id) (hr:h.at' id=some o) (hne:o≠ .tok) (o':Obj):Own h0 (h.set id o') sz xs d:=
 ⟨ho.1.set hi _,ho.2.1.loc (Nat.le_refl _) fun i ht=>zE fun e=>by subst e;have:=(ho.2.1.tok ht).2;rw[hr] at this;exact hne (Option.some.inj this),ho.2.2⟩
theorem zaI (x:Cla) (nid:Nat) (h:Heap):zM Tryz.prog false nid 24 1 [(0, .agg x.cells)] h=some (.sl 5 [x.cells] .full,h):=yg zKj zVk zGH rfl rfl (by omega) (by omega) rfl rfl
set_option maxHeartbeats 4000000 in
theorem zUJ {c:Cat} {d:D} (hc:qX c d) (hs:c.Sm) (lic exc:List UInt8) (way rel:Int) (g:Heap):
  zA Tryz.prog 82 [d, .agg [.str lic, .str exc], .int .i64 way, .int .i64 rel] g fun r h'=>h'=g∧zii (zCa c lic exc way rel) r:=by
 refine zA.pure (by kernel_rfl) fun hok=>zA.strip ?_;have hli:=zUH hc hs lic exc;obtain⟨a,b,e,p,rfl,ha,hb,he,hp⟩:=hc;have s3:=hs.cs.1;have le:=zCY he;have hv4:∀a b c e:D,zR true 4 [a,b,c,e] 0=some (.agg [a,b,c,e]):=fun a b c e=>zB rfl (by omega);have hv2:∀a b:D,zR true 2 [a,b] 0=some (.agg [a,b]):=fun a b=>zB rfl (by omega);have hv5:∀a b c e f:D,zR true 5 [a,b,c,e,f] 0=some (.agg [a,b,c,e,f]):=fun a b c e f=>zB rfl (by omega);refine zA.of_fn (g:=zVx) mix Tryz.func82 zjn rfl rfl ?_;simp only[Tryz.f82,gJ];cases hL:zRK c lic exc with
 |none=>
  rw[zRL hL] at hli;have hR:zCa c lic exc way rel= []:=by unfold zCa;rw[hL]
  rw[hR]
  repeat' first|simp only[go_sem,zQ8, *]|apply bc<;>intro hc
  refine(hli _).mono ?_;rintro r h ⟨hE,rfl⟩;have hfin:below g.next (yI .nilsl)∧zii [] (yI .nilsl):=⟨trivial,[], .inl ⟨rfl,rfl⟩,fun y hy=>absurd hy List.not_mem_nil,rfl⟩
  repeat' first|simp only[go_sem,zQ8, *]|apply bc<;>intro hc
 |some L=>
  obtain⟨q,hq,hqi,hql⟩:=zRM hs hL;rw[hq] at hli;have hR:zCa c lic exc way rel=c.cs.filter (zUI L lic way rel):=by unfold zCa;rw[hL]
  rw[hR]
  repeat' first|simp only[go_sem,zQ8, *]|apply bc<;>intro hc
  refine(hli _).mono ?_;rintro r h0 ⟨hE,rfl⟩
  repeat' first|simp only[go_sem,zQ8, *]|apply bc<;>intro hc
  obtain⟨sel,hsel⟩:∃sel,zUI L lic way rel=sel:=⟨_,rfl⟩;rw[hsel];clear hli hL hq hR;refine zF (fun k fr h=>fr 2= .int .i64 way∧fr 3= .int .i64 rel∧fr 5= .iptr [.str lic, .str exc] 0∧fr 9=q∧fr 23=e∧fr 24= .int .i64 (c.cs.length:Int)∧fr 25= .int .i64 (k:Int)∧∃u out,fr 11=u∧Own g h 5 (zMl out) u∧out.length≤k∧(∀y∈out,y.Fine)∧out.map Cla.key=((c.cs.take k).filter sel).map Cla.key) c.cs.length (by omega) ?_ ?_ ?_
  ·simp only[go_sem,zQ8,true_and,and_true,Int.ofNat_zero];exact⟨_,[],rfl,Own.start hE 5,by simp,fun y hy=>absurd hy List.not_mem_nil,by simp⟩
  ·clear hE;rintro k fr h hlt ec ew ⟨f2,f3,f5,f9,f23,f24,f25,u,out,f11,hO,hol,hfine,hkey⟩;have a1:=zDA he hlt;obtain⟨o1,o2⟩:=hs.cs.2 _ (List.getElem_mem hlt);have htk:(c.cs.take (k+1)).filter sel=(c.cs.take k).filter sel++ [c.cs[k]].filter sel:=by
    rw[List.take_succ_eq_append_getElem hlt,List.filter_append]
   have hsv:sel c.cs[k]=(c.cs[k].lic==lic&&c.cs[k].way==way&&c.cs[k].rel==rel&& !(L.any fun z=>z==c.cs[k].duty)):=by rw[←hsel];rfl
   generalize c.cs[k]=y at *
   have c1:=zIB hqi hql y.duty;have c2:=zWg o1 o2;simp only[Cla.cells] at a1;have hst:zU Tryz.prog 92 (.ptr h.next 0) (.agg [.str y.lic, .int .i64 y.way, .int .i64 y.rel, .int .i64 y.duty,y.d]) (h.new h.next (.row [.str [], .int .i64 0, .int .i64 0, .int .i64 0, .nilsl]))=some (h.new h.next (.row [.str y.lic, .int .i64 y.way, .int .i64 y.rel, .int .i64 y.duty,y.d])):=zj zGH (by omega) rfl rfl (by show(true&&(true&&(true&&(true&&(y.d.flat&&true)))))=true;rw[zBs o1];rfl)
   obtain⟨H,hH,hrow,hOH,hnx⟩:∃H,h.new h.next (.row [.str y.lic, .int .i64 y.way, .int .i64 y.rel, .int .i64 y.duty,y.d])=H∧H.at' h.next=some (.row [.str y.lic, .int .i64 y.way, .int .i64 y.rel, .int .i64 y.duty,y.d])∧Own g H 5 (zMl out) u∧h.next<H.next:=⟨_,rfl,zJ _ _ _,hO.ext ((Ext.refl h).new (Nat.le_refl _) _),by rw[zD];omega⟩;rw[hH] at hst;have hgn:g.next≤h.next:=hO.1.1;obtain⟨n0,hn0⟩:∃n0,h.next=n0:=⟨_,rfl⟩;rw[hn0] at hst hrow hnx hgn
   have no:sel y=false→∃u' out',u=u'∧Own g H 5 (zMl out') u'∧out'.length≤k+1∧(∀z∈out',z.Fine)∧out'.map Cla.key=((c.cs.take (k+1)).filter sel).map Cla.key:=fun q=>⟨u,out,rfl,hOH,by omega,hfine,by rw[htk,hkey];simp[q]⟩;clear hH hO;cases b1:(y.lic==lic) with
   |false=>
    have hn:=no (by rw[hsv,b1];rfl);clear no hsv hkey hfine htk hol hOH
    repeat' first|simp only[go_sem,zQ8, *]|apply bc<;>intro hc
   |true=>
   cases b2:(y.way==way) with
   |false=>
    have hn:=no (by rw[hsv,b1,b2];rfl);clear no hsv hkey hfine htk hol hOH
    repeat' first|simp only[go_sem,zQ8, *]|apply bc<;>intro hc
   |true=>
   cases b3:(y.rel==rel) with
   |false=>
    have hn:=no (by rw[hsv,b1,b2,b3];rfl);clear no hsv hkey hfine htk hol hOH
    repeat' first|simp only[go_sem,zQ8, *]|apply bc<;>intro hc
   |true=>
   cases b4:(L.any fun z=>z==y.duty) with
   |true=>
    have hn:=no (by rw[hsv,b1,b2,b3,b4];rfl);rw[b4] at c1;clear no hsv hkey hfine htk hol hOH b4
    repeat' first|simp only[go_sem,zQ8, *]|apply bc<;>intro hc|(refine zA.mono (c1 _) ?_;rintro r h ⟨rfl,rfl⟩)
   |false=>
    have hy:sel y=true:=by rw[hsv,b1,b2,b3,b4];rfl
    rw[b4] at c1;clear no hsv b4
    repeat' first|simp only[go_sem,zQ8, *]|apply bc<;>intro hc|(refine zA.mono (c1 _) ?_;rintro r h ⟨rfl,rfl⟩)
    rename Heap=>H
    refine(c2 _).mono ?_;rintro z H' ⟨rfl,hz⟩;have hzf:=zBs hz.isSl;have hzc:z.cells= [z]:=by rcases hz with⟨rfl,_⟩ |rfl<;>rfl
    have hs2:zU Tryz.prog 40 (.ptr n0 4) z H'=some (H'.set n0 (.row [.str y.lic, .int .i64 y.way, .int .i64 y.rel, .int .i64 y.duty,z])):=by
     rw[za hrow zXf (by simp) hzc hzf];rfl
    obtain⟨H2,hH2,r2,O2⟩:∃H2,H'.set n0 (.row [.str y.lic, .int .i64 y.way, .int .i64 y.rel, .int .i64 y.duty,z])=H2∧H2.at' n0=some (.row [.str y.lic, .int .i64 y.way, .int .i64 y.rel, .int .i64 y.duty,z])∧Own g H2 5 (zMl out) u:=⟨_,rfl,zC _ _ _,hOH.setRow hgn hrow (by simp) _⟩;rw[hH2] at hs2;have hone:=zaI ⟨y.lic,y.way,y.rel,y.duty,y.list,z⟩;simp only[Cla.cells] at hone;clear hH2 hrow hst c1 c2 hOH a1
    repeat' first|simp only[go_sem,zQ8, *]|apply bc<;>intro hc
    refine O2.appH zKj zZR zGH (by omega) (by simp) (by simp) (by simp only[zEK,zSm,List.length_cons,List.length_nil];unfold lim;omega) (by simp only[zEK,List.length_cons,List.length_nil];unfold lim;omega) fun d' h' o=> ?_;have hres:∃u' out',d'=u'∧Own g h' 5 (zMl out') u'∧out'.length≤k+1∧(∀z∈out',z.Fine)∧out'.map Cla.key=((c.cs.take (k+1)).filter sel).map Cla.key:=by
     refine⟨d',out++ [⟨y.lic,y.way,y.rel,y.duty,y.list,z⟩],rfl,?_,by simp;omega,fun w hw=> ?_,?_⟩
     ·have:zMl (out++ [⟨y.lic,y.way,y.rel,y.duty,y.list,z⟩])=zMl out++ [[.str y.lic, .int .i64 y.way, .int .i64 y.rel, .int .i64 y.duty,z]]:=by simp[zMl,Cla.cells]
      rw[this];exact o
     ·rcases List.mem_append.1 hw with hw|hw
      ·exact hfine w hw
      ·rw[List.mem_singleton.1 hw];exact⟨hz,o2⟩
     ·rw[htk,List.map_append,List.map_append,hkey];simp[hy,Cla.key]
    clear O2 o hkey hfine htk hz hs2 r2 hone
    repeat' first|simp only[go_sem,zQ8, *]|apply bc<;>intro hc
  ·clear hE;rintro fr h ec ⟨f2,f3,f5,f9,f23,f24,f25,u,out,f11,hO,hol,hfine,hkey⟩;rw[List.take_length] at hkey;have hpl:∀x∈zMl out,qC x:=fun x hx=>by
    obtain⟨y,hy,rfl⟩:=List.mem_map.1 hx;exact(hfine y hy).plain
   have hf:=hO.fin hpl;have hfin:Ext g h∧below g.next (yI u)∧zii (c.cs.filter sel) (yI u):=⟨hf.1,hf.2.1,out,hf.2.2.isSl,hfine,hkey⟩;clear hf hO hfine hkey hpl
   repeat' first|simp only[go_sem,zQ8, *]|apply bc<;>intro hc
theorem zey (x y:Apt) (c:Bool):zCl Tryz.prog .eql 135 c (.agg [.str x.a, .str x.b]) (.agg [.str y.a, .str y.b])=some (.bool (x.a==y.a&&x.b==y.b)):=by
 have he:eqT Tryz.prog 135=some [.s, .s]:=by kernel_rfl
 simp only[zCl,he,zQl,eqK,Option.map_some,Bool.and_true,zAd]
theorem zWh {l:List Apt} {d:D} (hd:zX 2 (zWc l) d) (hl:l.length≤1048576) (n:Apt) (g:Heap):
  zA Tryz.prog 341 [d, .agg [.str n.a, .str n.b]] g fun r h'=>h'=g∧r= .int .i64 (zLb (fun x:Apt=>n.a==x.a&&n.b==x.b) l):=by
 have hlen:=zFA hd;have hv2:∀a b:D,zR true 2 [a,b] 0=some (.agg [a,b]):=fun a b=>zB rfl (by omega);have heq:=zey n;obtain⟨p,hp⟩:∃p:Apt→Bool,(fun x:Apt=>n.a==x.a&&n.b==x.b)=p:=⟨_,rfl⟩;have hpe:∀x,(n.a==x.a&&n.b==x.b)=p x:=fun x=>by rw[←hp]
 rw[hp];clear hp;refine zA.of_fn (g:=zP8) mix Tryz.func341 zeZ rfl rfl ?_;simp only[Tryz.f341,gJ]
 repeat' first|simp only[go_sem,zOG, *]|apply bc<;>intro hc
 refine zF (fun i fr h=>fr 0=d∧fr 3= .iptr [.str n.a, .str n.b] 0∧fr 7= .int .i64 (l.length:Int)∧fr 8= .int .i64 (i:Int)∧h=g∧∀j (hj:j<l.length),j<i→p l[j]=false) l.length (by omega) ?_ ?_ ?_
 ·simp only[go_sem,zOG,true_and,and_true,Int.ofNat_zero];exact fun j hj h0=>absurd h0 (Nat.not_lt_zero _)
 ·rintro i fr h hlt e1 ew ⟨f0,f3,f7,f8,rfl,hj⟩;have a1:=zFr hd hlt;simp only[Apt.cells] at a1;have hq:=heq l[i];rw[hpe] at hq;cases hb:p l[i] with
  |true=>
   have hx:=zCW (p:=p) hlt hj hb;rw[hb] at hq;clear hj hd hpe heq
   repeat' first|simp only[go_sem,zOG, *]|apply bc<;>intro hc
   refine zQ (by kernel_rfl) ?_
   repeat' first|simp only[go_sem,zOG, *]|apply bc<;>intro hc
  |false=>
   have hn:=yk (p:=p) hlt hj hb;rw[hb] at hq;clear hj hd hpe heq
   repeat' first|simp only[go_sem,zOG, *]|apply bc<;>intro hc
   refine zQ (by kernel_rfl) ?_
   repeat' first|simp only[go_sem,zOG, *]|apply bc<;>intro hc
   exact hn
 ·rintro fr h e1 ⟨f0,f3,f7,f8,rfl,hj⟩;have hx:=zCX (p:=p) fun j hj'=>hj j hj' hj';clear hj hd hpe heq
  repeat' first|simp only[go_sem,zOG, *]|apply bc<;>intro hc
theorem zOV {l:List Apt} {d:D} (hd:zX 2 (zWc l) d) (hl:l.length≤1048576) (n:Apt) (g:Heap):
  zA Tryz.prog 317 [d, .agg [.str n.a, .str n.b]] g fun r h'=>h'=g∧r= .bool (l.any fun x:Apt=>n.a==x.a&&n.b==x.b):=by
 have hix:=zWh hd hl n;have hv2:∀a b:D,zR true 2 [a,b] 0=some (.agg [a,b]):=fun a b=>zB rfl (by omega);have hge:=zC9 (l:=l) (p:=fun x:Apt=>n.a==x.a&&n.b==x.b);refine zA.of_fn (g:=zP7) mix Tryz.func317 zeY rfl rfl ?_;simp only[Tryz.f317,gJ]
 repeat' first|simp only[go_sem,ziY, *]|apply bc<;>intro hc|(refine zA.mono (hix _) ?_;rintro r h ⟨rfl,rfl⟩)
def zij (a b:List UInt8):Apt:=if(!(zIn a b||a==b))=true then⟨b,a⟩ else⟨a,b⟩
def zD3 (c:Cat) (a b:List UInt8):Bool:=(zCj c==0)&&c.ps.any fun x=>(zij a b).a==x.a&&(zij a b).b==x.b
theorem zI3 {c:Cat} {d:D} (hc:qX c d) (hs:c.Sm) (x y:List UInt8) (g:Heap):zA Tryz.prog 266 [d, .str x, .str y] g fun r h'=>h'=g∧r= .bool (zD3 c x y):=by
 have hck:=zDe hc hs;obtain⟨a,b,e,p,rfl,ha,hb,he,hp⟩:=hc;have hv4:∀a b c e:D,zR true 4 [a,b,c,e] 0=some (.agg [a,b,c,e]):=fun a b c e=>zB rfl (by omega);have hbl:∀u v:List UInt8,yG Tryz.prog 135 [(0, .str u),(1, .str v)]=some (.agg [.str u, .str v]):=fun u v=>by simp[yG,zN4,zSn,qZ,D.notTuple,D.cells,yW]
 have hcon:=fun n=>zOV hp hs.ps n;obtain⟨R,hR⟩:∃R,zD3 c x y=R:=⟨_,rfl⟩;rw[hR];unfold zD3 zij at hR;refine zA.of_fn (g:=zPt) mix Tryz.func266 zdz rfl rfl ?_;simp only[Tryz.f266,gJ];cases q:(zIn x y||x==y) with
 |true=>
  rw[if_neg (by rw[q];decide)] at hR;have h1:=hcon ⟨x,y⟩;subst hR;clear hcon
  repeat' first|simp only[go_sem,zdy, *]|apply bc<;>intro hc|(refine zA.mono (hck _) ?_;rintro r h ⟨rfl,rfl⟩)|(refine zA.mono (h1 _) ?_;rintro r h ⟨rfl,rfl⟩)
 |false=>
  rw[if_pos (by rw[q];rfl)] at hR;have h1:=hcon ⟨y,x⟩;subst hR;clear hcon
  repeat' first|simp only[go_sem,zdy, *]|apply bc<;>intro hc|(refine zA.mono (hck _) ?_;rintro r h ⟨rfl,rfl⟩)|(refine zA.mono (h1 _) ?_;rintro r h ⟨rfl,rfl⟩)
inductive Ex where
 |mk:Int→List UInt8→List UInt8→List Ex→D→Ex
def Ex.kind:Ex→Int
 | .mk k _ _ _ _=>k
def Ex.name:Ex→List UInt8
 | .mk _ n _ _ _=>n
def Ex.exc:Ex→List UInt8
 | .mk _ _ x _ _=>x
def Ex.kids:Ex→List Ex
 | .mk _ _ _ l _=>l
def Ex.d:Ex→D
 | .mk _ _ _ _ d=>d
def Ex.cells (e:Ex):List D:=[.int .i64 e.kind, .str e.name, .str e.exc,e.d]
def exs (l:List Ex):List (List D):=l.map Ex.cells
theorem zRN (l:List Ex):(exs l).length=l.length:=List.length_map ..
theorem zaJ {l:List Ex} {i:Nat} (h:i<l.length):(exs l)[i]? =some l[i].cells:=by simp[exs,h]
mutual
def Ex.size:Ex→Nat
 | .mk _ _ _ l _=>zp l+1
def zp:List Ex→Nat
 | []=>0
 |e::l=>e.size+zp l
end
mutual
def Ex.depth:Ex→Nat
 | .mk _ _ _ l _=>zAj l+1
def zAj:List Ex→Nat
 | []=>0
 |e::l=>max e.depth (zAj l)
end
mutual
def Ex.Ok:Ex→Prop
 | .mk _ n x l d=>zX 4 (exs l) d∧l.length≤1048576∧n.length≤1048576∧x.length≤1048576∧okL l
def okL:List Ex→Prop
 | []=>True
 |e::l=>e.Ok∧okL l
end
theorem zDC:∀ {l:List Ex},okL l→∀e∈l,e.Ok
 |e::l,h,x,hx=>by
  simp only[okL] at h;rcases List.mem_cons.1 hx with rfl|hx
  ·exact h.1
  ·exact zDC h.2 x hx
theorem zAA:∀ {l:List Ex} {e:Ex},e∈l→e.size≤zp l
 |x::l,e,h=>by
  simp only[zp];rcases List.mem_cons.1 h with rfl|h
  ·omega
  ·have:=zAA h;omega
theorem zWi:∀n:Nat,(∀e:Ex,e.size≤n→e.depth≤e.size)∧∀l:List Ex,zp l≤n→zAj l≤zp l:=by
 intro n
 induction n with
 |zero=>
  refine⟨fun e h=> ?_,fun l h=> ?_⟩
  ·cases e;simp only[Ex.size] at h;omega
  ·cases l with
   |nil=>simp[zAj]
   |cons e l=>cases e;simp only[zp,Ex.size] at h;omega
 |succ n ih=>
  have key:∀e:Ex,e.size≤n+1→e.depth≤e.size:=fun e h=>by
   obtain⟨_,_,_,l,_⟩:=e;simp only[Ex.size,Ex.depth] at h⊢;have:=ih.2 l (by omega);omega
  refine⟨key,fun l h=> ?_⟩
  induction l with
  |nil=>simp[zAj]
  |cons e l ihl=>
   simp only[zp,zAj] at h⊢;have h1:=key e (by omega);have h2:=ihl (by omega);omega
theorem zID (e:Ex):∀l:List Ex,zAj (l++ [e])=max (zAj l) e.depth
 | []=>by simp[zAj]
 |x::l=>by
  have:=zID e l;simp only[List.cons_append,zAj,this];omega
theorem zDD {l:List Ex} {d:D} (hd:zX 4 (exs l) d) (h:Heap):zCF Tryz.prog 83 d h=some (.int .i64 l.length):=by rw[yY hd Tryz.underlying83,zRN]
theorem zJt {l:List Ex} {d:D} (hd:zX 4 (exs l) d) {i:Nat} (hi:i<l.length):zS Tryz.prog 83 d (.int .i64 (i:Int))=some (.iptr l[i].cells 0):=zY hd zVj zSk (zaJ hi)
theorem zik (a b:Nat):zVK (.int .i64 (a:Int)) (.int .i64 (b:Int))=some (.int .i64 ((max a b:Nat):Int)):=by
 simp only[zVK,if_true];by_cases q:(b:Int)>a
 ·rw[if_pos q,Nat.max_eq_right (by omega)]
 ·rw[if_neg q,Nat.max_eq_left (by omega)]
abbrev zEx:List D:=[.int .i64 0, .str [], .str [], .nilsl]
theorem zUK (x:Ex) (hf:x.d.flat=true) (h:Heap) (id:Nat):zU Tryz.prog 85 (.ptr id 0) (.agg [.int .i64 x.kind, .str x.name, .str x.exc,x.d]) (h.new id (.row zEx))=some (h.new id (.row [.int .i64 x.kind, .str x.name, .str x.exc,x.d])):=zj zSk (by omega) rfl rfl (by show(true&&(true&&(true&&(x.d.flat&&true))))=true;rw[hf];rfl)
theorem Ex.flat {x:Ex} (h:x.Ok):x.d.flat=true:=by
 cases x;simp only[Ex.Ok] at h;exact zBs h.1
set_option maxHeartbeats 2000000 in
theorem zaK:∀ (n:Nat) {e:Ex},e.size≤n→e.Ok→e.size≤1048576→∀g:Heap,zA Tryz.prog 169 [.agg e.cells] g fun r h'=>h'=g∧r= .int .i64 (e.depth:Int):=by
 intro n
 induction n with
 |zero=>intro e h;cases e;simp only[Ex.size] at h;omega
 |succ n ih=>
 intro e hn hok hsz g;refine zA.pure (by kernel_rfl) fun hh=> ?_;obtain⟨k,nm,x,l,d⟩:=e;simp only[Ex.size,Ex.Ok] at hn hok hsz;obtain⟨hd,hl,_,_,hks⟩:=hok;have hlen:=zDD hd;have hdl:=(zWi (zp l)).2 l (Nat.le_refl _);have hbel:∀k:Int,below g.next (.int .i64 k):=fun k=>trivial;have hv4:∀a b c e:D,zR true 4 [a,b,c,e] 0=some (.agg [a,b,c,e]):=fun a b c e=>zB rfl (by omega);have hE0:=Ext.refl g;have hR:(Ex.mk k nm x l d).depth=zAj l+1:=by simp only[Ex.depth]
 rw[hR];clear hR;refine zA.of_fn (g:=zPg) mix Tryz.func169 zda rfl rfl ?_;simp only[Tryz.f169,gJ];simp only[Ex.cells,Ex.kind,Ex.name,Ex.exc,Ex.d]
 repeat' first|simp only[go_sem,zV5, *]|apply bc<;>intro hc
 refine zF (fun i fr h=>fr 7=d∧fr 8= .int .i64 (l.length:Int)∧fr 9= .int .i64 (i:Int)∧fr 3= .int .i64 ((zAj (l.take i):Nat):Int)∧Ext g h) l.length (by omega) ?_ ?_ ?_
 ·simp only[go_sem,zV5,true_and,and_true,Int.ofNat_zero];exact⟨rfl,hE0⟩
 ·rintro i fr h hlt ec ew ⟨f7,f8,f9,f3,hE⟩;have a1:=zJt hd hlt;have hm:l[i]∈l:=List.getElem_mem hlt;have hq:=ih (e:=l[i]) (by have:=zAA hm;omega) (zDC hks _ hm) (by have:=zAA hm;omega);have hst:=zUK l[i] (Ex.flat (zDC hks _ hm)) h h.next;have hE2:=hE.new hE.1 (.row [.int .i64 l[i].kind, .str l[i].name, .str l[i].exc,l[i].d]);have hmx:=zik (zAj (l.take i)) l[i].depth;have htk:zAj (l.take (i+1))=max (zAj (l.take i)) l[i].depth:=by rw[List.take_succ_eq_append_getElem hlt,zID]
  rw[←htk] at hmx;simp only[Ex.cells] at a1 hq;clear ih hd hm htk
  repeat' first|simp only[go_sem,zV5,zJ, *]|apply bc<;>intro hc|(refine zA.mono (hq _) ?_;rintro r h ⟨rfl,rfl⟩)
 ·rintro fr h ec ⟨f7,f8,f9,f3,hE⟩;rw[List.take_length] at f3;have hw:IntKind.i64.wrap ((zAj l:Int)+1)=((zAj l+1:Nat):Int):=ze (by unfold lim;omega);clear ih hd hks
  repeat' first|simp only[go_sem,zV5, *]|apply bc<;>intro hc
mutual
def Ex.pre:Ex→List Ex
 | .mk k n x l d=> .mk k n x l d::zG3 l
def zG3:List Ex→List Ex
 | []=>[]
 |e::l=>e.pre++zG3 l
end
theorem zil:∀n:Nat,(∀e:Ex,e.size≤n→e.pre.length=e.size)∧∀l:List Ex,zp l≤n→(zG3 l).length=zp l:=by
 intro n
 induction n with
 |zero=>
  refine⟨fun e h=> ?_,fun l h=> ?_⟩
  ·cases e;simp only[Ex.size] at h;omega
  ·cases l with
   |nil=>simp[zG3,zp]
   |cons e l=>cases e;simp only[zp,Ex.size] at h;omega
 |succ n ih=>
  have key:∀e:Ex,e.size≤n+1→e.pre.length=e.size:=fun e h=>by
   obtain⟨_,_,_,l,_⟩:=e;simp only[Ex.size,Ex.pre,List.length_cons] at h⊢;rw[ih.2 l (by omega)]
  refine⟨key,fun l h=> ?_⟩
  induction l with
  |nil=>simp[zG3,zp]
  |cons e l ihl=>
   simp only[zp,zG3,List.length_append] at h⊢;rw[key e (by omega),ihl (by omega)]
theorem Ex.pre_len (e:Ex):e.pre.length=e.size:=(V.zil e.size).1 e (Nat.le_refl _)
theorem zQM (l:List Ex):(zG3 l).length=zp l:=(V.zil (zp l)).2 l (Nat.le_refl _)
theorem zQN:∀l m:List Ex,zG3 (l++m)=zG3 l++zG3 m
 | [],m=>by simp[zG3]
 |e::l,m=>by simp[zG3,zQN l m]
theorem zIE:∀l m:List Ex,zp (l++m)=zp l+zp m
 | [],m=>by simp[zp]
 |e::l,m=>by simp[zp,zIE l m];omega
theorem zUL {l:List Ex} {i:Nat} (hi:i<l.length) {j:Nat} {x:Ex} (hx:l[i].pre[j]? =some x):(zG3 l)[zp (l.take i)+j]? =some x:=by
 have h1:l=l.take i++(l[i]::l.drop (i+1)):=by rw[←List.drop_eq_getElem_cons hi,List.take_append_drop]
 have hj:j<l[i].pre.length:=(List.getElem?_eq_some_iff.1 hx).1;have h2:zG3 l=zG3 (l.take i)++(l[i].pre++zG3 (l.drop (i+1))):=by
  have:=congrArg zG3 h1;rw[zQN] at this;exact this
 rw[h2,List.getElem?_append_right (by rw[zQM];omega),zQM,show zp (l.take i)+j-zp (l.take i)=j by omega,List.getElem?_append_left hj,hx]
theorem zRO {l:List Ex} {i:Nat} (hi:i<l.length):zp (l.take (i+1))=zp (l.take i)+l[i].size:=by
 rw[List.take_succ_eq_append_getElem hi,zIE];simp[zp]
def zgX (Y:Nat→(Nat→Prop)→Heap→Prop) (Z:(Nat→Prop)→Heap→Prop) (S:Nat→Prop) (g:Heap) (k:Nat) (r:D) (h':Heap):Prop:=
 ∃S',(∀i,S' i→S i∨g.next≤i)∧But S g h'∧((r= .bool true∧Y k S' h')∨(r= .bool false∧Z S' h'))
abbrev zAY (v:Nat):D:= .fn (.func 171) [] [.ptr v 0]
set_option maxHeartbeats 4000000 in
theorem zaL {id len:Nat} {el:Nat→List D} {Y:Nat→(Nat→Prop)→Heap→Prop} {Z:(Nat→Prop)→Heap→Prop} (y:Yld Tryz.prog id len el Y Z):∀ (n:Nat) {e:Ex},e.size≤n→e.Ok→∀ {k:Nat} {S:Nat→Prop} {g:Heap} {v:Nat},k+e.size≤len→(∀j x,e.pre[j]? =some x→el (k+j)= [.agg x.cells])→
  Y k S g→v<g.next→¬S v→g.at' v=some (.row [zAY v])→
  zA Tryz.prog 171 [.agg e.cells, .yld id, .ptr v 0] g (zgX Y Z S g (k+e.size)):=by
 intro n
 induction n with
 |zero=>intro e h;cases e;simp only[Ex.size] at h;omega
 |succ n ih=>
 intro e hn hok k S g v hk hel hY hv hSv hrow;have hel0:=hel 0 e (by cases e;simp[Ex.pre]);rw[Nat.add_zero] at hel0;obtain⟨kd,nm,x,l,d⟩:=e;simp only[Ex.size,Ex.Ok] at hn hok hk;obtain⟨hd,hl,_,_,hks⟩:=hok;have helc:∀j x,(zG3 l)[j]? =some x→el (k+1+j)= [.agg x.cells]:=fun j x hx=>by
  have:=hel (j+1) x (by simp only[Ex.pre,List.getElem?_cons_succ];exact hx);rw[←this];congr 1;omega
 clear hel;have hlen:=zDD hd;have hv4:∀a b c e:D,zR true 4 [a,b,c,e] 0=some (.agg [a,b,c,e]):=fun a b c e=>zB rfl (by omega);have hsz:(Ex.mk kd nm x l d).size=zp l+1:=by simp only[Ex.size]
 rw[hsz];have hgo:=y.go k S g (by omega) hY;rw[hel0] at hgo;simp only[Ex.cells,Ex.kind,Ex.name,Ex.exc,Ex.d] at hgo;clear hsz hel0;refine zA.of_fn (g:=zPz) mix Tryz.func171 zeC rfl rfl ?_;simp only[Tryz.f171,gJ];simp only[Ex.cells,Ex.kind,Ex.name,Ex.exc,Ex.d]
 repeat' first|simp only[go_sem,zMO, *]|apply bc<;>intro hc
 refine hgo.mono ?_;rintro r h ⟨S1,hS1,hb1,hr⟩;rcases hr with⟨rfl,hY1⟩ | ⟨rfl,hZ1⟩
 rotate_left
 ·have hres:zgX Y Z S g (k+(zp l+1)) (.bool false) h:=⟨S1,hS1,hb1, .inr ⟨rfl,hZ1⟩⟩;clear hgo ih
  repeat' first|simp only[go_sem,zMO, *]|apply bc<;>intro hc
 clear hgo
 repeat' first|simp only[go_sem,zMO, *]|apply bc<;>intro hc
 refine zF (fun i fr h'=>fr 1= .yld id∧fr 2= .ptr v 0∧fr 13=d∧fr 14= .int .i64 (l.length:Int)∧fr 15= .int .i64 (i:Int)∧∃S',(∀j,S' j→S j∨g.next≤j)∧But S g h'∧Y (k+1+zp (l.take i)) S' h') l.length (by omega) ?_ ?_ ?_
 ·simp only[go_sem,zMO,true_and,and_true,Int.ofNat_zero];exact⟨S1,hS1,hb1,hY1⟩
 ·clear hS1 hb1 hY1;rintro i fr h hlt ec ew ⟨f1,f2,f13,f14,f15,S2,hS2,hb2,hY2⟩;have a1:=zJt hd hlt;have hm:l[i]∈l:=List.getElem_mem hlt;have hok:=zDC hks _ hm;have hsm:=zAA hm;have hrow2:h.at' v=some (.row [zAY v]):=by rw[hb2.2 v hv hSv];exact hrow
  have hvh:v<h.next:=Nat.lt_of_lt_of_le hv hb2.1;have hst:=zUK l[i] (Ex.flat hok) h h.next;obtain⟨H,hH,hEH,r1,r2,hn1⟩:∃H,h.new h.next (.row [.int .i64 l[i].kind, .str l[i].name, .str l[i].exc,l[i].d])=H∧Ext h H∧H.at' h.next=some (.row [.int .i64 l[i].kind, .str l[i].name, .str l[i].exc,l[i].d])∧H.at' v=some (.row [zAY v])∧h.next<H.next:=⟨_,rfl,(Ext.refl h).new (Nat.le_refl _) _,zJ _ _ _,by rw[zG (by omega)];exact hrow2,by rw[zD];omega⟩;rw[hH] at hst;have htk:=zRO hlt;have hbnd:zp (l.take i)+l[i].size≤zp l:=by
   have h1:l=l.take (i+1)++l.drop (i+1):=(List.take_append_drop _ _).symm;have h2:=congrArg zp h1;rw[zIE,htk] at h2;omega
  have hSv2:¬S2 v:=fun q=>(hS2 v q).elim hSv (by omega);have hcall:=ih (e:=l[i]) (by omega) hok (k:=k+1+zp (l.take i)) (S:=S2) (g:=H) (v:=v) (by omega) (fun j x hx=>by
   have:=helc _ x (zUL hlt hx);rw[←this];congr 1;omega) (y.ext hY2 hEH) (by omega) hSv2 r2
  simp only[Ex.cells] at a1 hcall;clear ih hd hm hok hH hks
  repeat' first|simp only[go_sem,zMO, *]|apply bc<;>intro hc
  refine hcall.mono ?_;rintro r h3 ⟨S3,hS3,hb3,hr⟩;have hsub:∀j,S3 j→S j∨g.next≤j:=fun j hj=>by
   rcases hS3 j hj with q|q
   ·exact hS2 j q
   ·exact .inr (by have:=hb2.1;have:=hEH.1;omega)
  have hbut:But S g h3:=(hb2.trans (hEH.but S) fun i hi=> .inl hi).trans hb3 hS2;rcases hr with⟨rfl,hY3⟩ | ⟨rfl,hZ3⟩
  ·have hY4:Y (k+1+zp (l.take (i+1))) S3 h3:=by rw[htk,←Nat.add_assoc];exact hY3
   clear hcall hb2 hY2 hEH r1 r2 hst
   repeat' first|simp only[go_sem,zMO, *]|apply bc<;>intro hc
   rw[←htk];exact⟨S3,hsub,hY4⟩
  ·have hres:zgX Y Z S g (k+(zp l+1)) (.bool false) h3:=⟨S3,hsub,hbut, .inr ⟨rfl,hZ3⟩⟩;clear hcall hb2 hY2 hEH r1 r2 hst htk
   repeat' first|simp only[go_sem,zMO, *]|apply bc<;>intro hc
 ·clear hS1 hb1 hY1;rintro fr h ec ⟨f1,f2,f13,f14,f15,S2,hS2,hb2,hY2⟩;rw[List.take_length] at hY2;have hres:zgX Y Z S g (k+(zp l+1)) (.bool true) h:=⟨S2,hS2,hb2, .inl ⟨rfl,by rw[show k+(zp l+1)=k+1+zp l by omega];exact hY2⟩⟩;clear hb2 hY2 ih
  repeat' first|simp only[go_sem,zMO, *]|apply bc<;>intro hc
abbrev zaM (v:Nat) (e:Ex):D:= .fn (.func 172) [] [.ptr v 0, .iptr e.cells 0]
theorem zOW (e:Ex) (g:Heap):zA Tryz.prog 120 [.agg e.cells] g fun r h'=>r=zaM g.next e∧h'=g.new g.next (.row [zAY g.next]):=by
 have hal:∀ (t:TypeId) (nid:Nat) (h:Heap),zHt t nid h (some .nilfn)=some (.ptr nid 0,h.new nid (.row [.nilfn])):=fun _ _ _=>rfl;have hst:zU Tryz.prog 242 (.ptr g.next 0) (zAY g.next) (g.new g.next (.row [.nilfn]))=some (g.new g.next (.row [zAY g.next])):=zj zZa (by omega) rfl rfl rfl;refine zA.of_fn (g:=zPn) mix Tryz.func120 zdq rfl rfl ?_;simp only[Tryz.f120,gJ];simp only[Ex.cells]
 repeat' first|simp only[go_sem,zhu, *]|apply bc<;>intro hc
 rfl
theorem zK7 {id:Nat} {el:Nat→List D} {Y:Nat→(Nat→Prop)→Heap→Prop} {Z:(Nat→Prop)→Heap→Prop} {e:Ex} (y:Yld Tryz.prog id e.size el Y Z) (hok:e.Ok) {S:Nat→Prop} {g:Heap} {v:Nat} (hel:∀j x,e.pre[j]? =some x→el j= [.agg x.cells])
  (hY:Y 0 S g) (hv:v<g.next) (hSv:¬S v) (hrow:g.at' v=some (.row [zAY v])):
  zA Tryz.prog 172 [.yld id, .ptr v 0, .iptr e.cells 0] g fun _ h'=>∃S',(∀i,S' i→S i∨g.next≤i)∧But S g h'∧(Y e.size S' h'∨Z S' h'):=by
 have hvis:=zaL y e.size (Nat.le_refl _) hok (k:=0) (by omega) (fun j x hx=>by rw[Nat.zero_add];exact hel j x hx) hY hv hSv hrow;have hv4:∀a b c e:D,zR true 4 [a,b,c,e] 0=some (.agg [a,b,c,e]):=fun a b c e=>zB rfl (by omega);refine zA.of_fn (g:=zP5) mix Tryz.func172 zeT rfl rfl ?_;simp only[Tryz.f172,gJ];simp only[Ex.cells] at hvis⊢
 repeat' first|simp only[go_sem,zeS, *]|apply bc<;>intro hc
 refine hvis.mono ?_;rintro r h ⟨S',h1,h2,h3⟩;rw[Nat.zero_add] at h3;have hres:∃S',(∀i,S' i→S i∨g.next≤i)∧But S g h∧(Y e.size S' h∨Z S' h):=⟨S',h1,h2,h3.imp And.right And.right⟩;clear h1 h2 h3 hvis
 repeat' first|simp only[go_sem,zeS, *]|apply bc<;>intro hc
def zez (c id:Nat) (L:LRec) (k:Nat) (S:Nat→Prop) (h:Heap):Prop:=
 (∀j,S j↔j=c∨j=id)∧c<id∧id<h.next∧h.at' c=some (.row [.int .i64 (k:Int)])∧h.at' id=some (.loop L)
set_option maxHeartbeats 2000000 in
theorem ze0 {e:Ex} (hok:e.Ok) (hsz:e.size≤1048576) (g:Heap):zA Tryz.prog 168 [.agg e.cells] g fun r h'=>h'=g∧r= .int .i64 (e.size:Int):=by
 refine zA.pure (by kernel_rfl) fun hh=> ?_;have hbel:∀k:Int,below g.next (.int .i64 k):=fun k=>trivial;have hv4:∀a b c e:D,zR true 4 [a,b,c,e] 0=some (.agg [a,b,c,e]):=fun a b c e=>zB rfl (by omega);have hst0:zU Tryz.prog 3 (.ptr g.next 0) (.int .i64 0) (g.new g.next (.row [.int .i64 0]))=some (g.new g.next (.row [.int .i64 0])):=zj wL (by omega) rfl rfl rfl;have hnd:=fun h=>zOW e h;refine zA.of_fn (g:=zMJ) mix Tryz.func168 zdL rfl rfl ?_;simp only[Tryz.f168,gJ];simp only[Ex.cells] at hnd⊢
 repeat' first|simp only[go_sem,zTB, *]|apply bc<;>intro hc
 refine(hnd _).mono ?_;rintro r h2 ⟨rfl,rfl⟩
 repeat' first|simp only[go_sem,zTB, *]|apply bc<;>intro hc
 have e1:(g.new g.next (.row [.int .i64 0])).next=g.next+1:=zD _ _;rw[e1];obtain⟨G,hG,hGn,m1,m2,mE⟩:∃G,(g.new g.next (.row [.int .i64 0])).new (g.next+1) (.row [zAY (g.next+1)])=G∧G.next=g.next+2∧G.at' g.next=some (.row [.int .i64 ((0:Nat):Int)])∧G.at' (g.next+1)=some (.row [zAY (g.next+1)])∧Ext g G:=
  ⟨_,rfl,zm _ (by omega) _,by rw[zG (by omega)];exact zJ _ _ _,zJ _ _ _,((Ext.refl g).new (Nat.le_refl _) _).new (by omega) _⟩
 rw[hG,hGn];clear hG hnd hst0 e1;generalize hL:LRec.mk _ _ _ _ _ _ _=L;have y:Yld Tryz.prog (g.next+2) e.size (fun i=>[.agg (e.pre.getD i e).cells]) (zez g.next (g.next+2) L) (fun _ _=>False):=by
  refine⟨fun k S h y i hi=> ?_,fun k S h h' y hn hk=> ?_,fun S h hz=>hz.elim,fun S h h' hz=>hz.elim,fun i S h3 hi hy=> ?_⟩
  ·obtain⟨y1,y2,y3,y4,y5⟩:=y;rcases(y1 i).1 hi with rfl|rfl<;>omega
  ·obtain⟨y1,y2,y3,y4,y5⟩:=y;exact⟨y1,y2,by omega,by rw[hk _ ((y1 _).2 (.inl rfl))];exact y4,by rw[hk _ ((y1 _).2 (.inr rfl))];exact y5⟩
  ·obtain⟨y1,y2,y3,y4,y5⟩:=hy;have y50:=y5;rw[←hL] at y50;refine yi.round (g:=zMJ) mix y50 rfl (by kernel_rfl) (by kernel_rfl) (by kernel_rfl) ?_;simp only[go_sem,zTB];refine⟨y50,?_⟩;generalize hB:LRec.mk .busy _ _ _ _ _ _=B;have hBL:({ B with st:= .ready,pending:=none } :LRec)=L:=by rw[←hB,←hL]
   generalize h5e:Heap.set h3 (g.next+2) (.loop B)=h5;have a1:h5.at' g.next=some (.row [.int .i64 (i:Int)]):=by rw[←h5e,zE (by omega)];exact y4
   have a3:h5.at' (g.next+2)=some (.loop B):=by rw[←h5e];simp[Heap.set]
   have a4:h5.next=h3.next:=by rw[←h5e,zt]
   have ew:IntKind.i64.wrap ((i:Int)+1)=((i+1:Nat):Int):=ze (by unfold lim;omega);have hst:zU Tryz.prog 3 (.ptr g.next 0) (.int .i64 ((i+1:Nat):Int)) h5=some (h5.set g.next (.row [.int .i64 ((i+1:Nat):Int)])):=by
    rw[za a1 wL (by simp) rfl rfl];rfl
   repeat' first|simp only[go_sem,zTB, *]|apply bc<;>intro hc
   have c2:(h5.set g.next (.row [.int .i64 ((i+1:Nat):Int)])).at' (g.next+2)=some (.loop B):=by rw[zE (by omega)];exact a3
   refine wO c2 ⟨fun j=>j=g.next∨j=g.next+2,fun j hj=> .inl hj,⟨by simp only[zt];omega,fun j hj hS=> ?_⟩, .inl ⟨rfl,fun j=>Iff.rfl,y2,by simp only[zt];omega,?_,?_⟩⟩
   ·have n1:j≠g.next:=fun e=>hS ((y1 j).2 (.inl e));have n2:j≠g.next+2:=fun e=>hS ((y1 j).2 (.inr e));rw[zE n2,zE n1,←h5e,zE n2]
   ·rw[zE (by omega),zC]
   ·rw[zC,hBL]
 have hY0:zez g.next (g.next+2) L 0 (fun j=>j=g.next∨j=g.next+2) (G.new (g.next+2) (.loop L)):=
  ⟨fun j=>Iff.rfl,by omega,by rw[zm _ (by omega)];omega,by rw[zG (by omega)];exact m1,zJ _ _ _⟩
 have hnodes:=zK7 y hok (fun j x hx=>by
  have:e.pre.getD j e=x:=by rw[List.getD_eq_getElem?_getD,hx];rfl
  rw[this]) hY0 (v:=g.next+1) (by rw[zm _ (by omega)];omega) (by omega) (by rw[zG (by omega)];exact m2)
 refine hnodes.mono ?_;rintro r h ⟨S',s1,s2,s3⟩;obtain⟨y1,y2,y3,y4,y5⟩:=s3.resolve_right (fun q=>q);have hLs:L.st≠ .busy:=by rw[←hL];intro q;cases q
 have hLp:L.pending=none:=by rw[←hL]
 refine⟨L,y5,hLs,?_⟩;rw[hLp,zB9];have hrow:(h.del (g.next+2)).at' g.next=some (.row [.int .i64 (e.size:Int)]):=by rw[yv (by omega)];exact y4
 have hE:Ext g (h.del (g.next+2)):=by
  have hn:(G.new (g.next+2) (.loop L)).next=g.next+3:=zm _ (by omega) _;have s20:=s2.1;refine Ext.del ⟨by omega,fun i hi=> ?_⟩ (by omega);rw[s2.2 i (by omega) (by omega),zG (by omega),mE.2 i hi]
 clear hnodes y hY0 s1 s2 s3 hL hLs hLp y1 y4 y5
 repeat' first|simp only[go_sem,zTB, *]|apply bc<;>intro hc
theorem zJu {s:List UInt8} (hl:s.length≤1048576) (g:Heap):zA Tryz.prog 231 [.str s] g fun r h'=>h'=g∧r= .bool (zAp s):=by
 have ht:∀h,zA Tryz.prog 189 [.str s, .str [97,98,99,100,101,102,103,104,105,106,107,108,109,110,111,112,113,114,115,116,117,118,119,120,121,122,48,49,50,51,52,53,54,55,56,57,45,46]] h fun r h'=>h'=h∧r= .str (Lib.trimS s zFn):=fun h=>zYT hl (c:=zFn) (by decide) (by decide) h;refine zA.of_fn (g:=zPb) mix Tryz.func231 zdP rfl rfl ?_;simp only[Tryz.f231,gJ];cases s with
 |nil=>
  have e1:decide ((([]:List UInt8).length:Int)<1)=true:=rfl;clear ht
  repeat' first|simp only[go_sem,zdO, *]|apply bc<;>intro hc
  rfl
 |cons b r=>
  have e1:decide (((b::r).length:Int)<1)=false:=decide_eq_false (by simp only[List.length_cons];omega);have hi:zBZ Tryz.prog 9 (.str (b::r)) (.int .i64 0)=some (.int .u8 b.toNat):=zAV (n:=0) Tryz.underlying9 rfl;have hn:=zH7 b r;generalize hs:b::r=s at *
  repeat' first|simp only[go_sem,zdO, *]|apply bc<;>intro hc|(refine zA.mono (ht _) ?_;rintro r h ⟨rfl,rfl⟩)
def zIF (kind:Int) (name exc:List UInt8) (kids:Int):Int:=
 if((kind==0)||(kind==1))=true then
  (if(decide (kids>0)||((kind==1)&& !(exc== [])))=true then 1
  else if(!zAp name||(!(exc== [])&& !zAp exc))=true then 2 else 0)
 else if((kind==2)||(kind==3))=true then
  (if(decide (kids<2)|| !(name== [])|| !(exc== []))=true then 1 else 0)
 else 1
def Ex.err (e:Ex):Int:=zIF e.kind e.name e.exc e.kids.length
set_option maxHeartbeats 2000000 in
theorem zOX {e:Ex} (hok:e.Ok) (g:Heap):zA Tryz.prog 170 [.agg e.cells] g fun r h'=>h'=g∧r= .int .i64 e.err:=by
 obtain⟨kd,nm,x,l,d⟩:=e;simp only[Ex.Ok] at hok;obtain⟨hd,hl,o1,o2,_⟩:=hok;have hlen:=zDD hd;have hn1:=zJu o1;have hn2:=zJu o2;have hv4:∀a b c e:D,zR true 4 [a,b,c,e] 0=some (.agg [a,b,c,e]):=fun a b c e=>zB rfl (by omega);have hR:(Ex.mk kd nm x l d).err=zIF kd nm x l.length:=rfl;rw[hR];unfold zIF;refine zA.of_fn (g:=zPp) mix Tryz.func170 zdt rfl rfl ?_;simp only[Tryz.f170,gJ];simp only[Ex.cells,Ex.kind,Ex.name,Ex.exc,Ex.d]
 repeat' first|simp only[go_sem,zh0, *]|apply bc<;>intro hc|(refine zA.mono (hn1 _) ?_;rintro r h ⟨rfl,rfl⟩)|(refine zA.mono (hn2 _) ?_;rintro r h ⟨rfl,rfl⟩)
def Ex.errAt (e:Ex) (i:Nat):Int:=(e.pre.getD i e).err
def zDE (e:Ex):Int:=
 if decide ((e.size:Int)>64)=true then 10
 else if decide ((e.depth:Int)>24)=true then 11
 else zDn e.errAt e.size
theorem ze1:∀n:Nat,(∀e:Ex,e.size≤n→e.Ok→∀x∈e.pre,x.Ok)∧∀l:List Ex,zp l≤n→okL l→∀x∈zG3 l,x.Ok:=by
 intro n
 induction n with
 |zero=>
  refine⟨fun e h=> ?_,fun l h=> ?_⟩
  ·cases e;simp only[Ex.size] at h;omega
  ·cases l with
   |nil=>intro _ x hx;simp[zG3] at hx
   |cons e l=>cases e;simp only[zp,Ex.size] at h;omega
 |succ n ih=>
  have key:∀e:Ex,e.size≤n+1→e.Ok→∀x∈e.pre,x.Ok:=fun e h ho x hx=>by
   obtain⟨a,b,c,l,d⟩:=e;simp only[Ex.size,Ex.pre] at h hx;rcases List.mem_cons.1 hx with rfl|hx
   ·exact ho
   ·simp only[Ex.Ok] at ho;exact ih.2 l (by omega) ho.2.2.2.2 x hx
  refine⟨key,fun l h=> ?_⟩
  induction l with
  |nil=>intro _ x hx;simp[zG3] at hx
  |cons e l ihl=>
   intro ho x hx;simp only[zp,zG3,okL] at h hx ho;rcases List.mem_append.1 hx with hx|hx
   ·exact key e (by omega) ho.1 x hx
   ·exact ihl (by omega) ho.2 x hx
theorem Ex.pre_okAt {e:Ex} (h:e.Ok) (i:Nat):(e.pre.getD i e).Ok:=by
 rw[List.getD_eq_getElem?_getD];cases hx:e.pre[i]? with
 |none=>exact h
 |some x=>exact(ze1 e.size).1 e (Nat.le_refl _) h x (List.mem_of_getElem? hx)
def ze2 (e:Ex) (c id:Nat) (L:LRec) (k:Nat) (S:Nat→Prop) (h:Heap):Prop:=
 (∀j,S j↔j=c∨j=id)∧c<id∧id<h.next∧h.at' c=some (.row [.int .i64 0])∧h.at' id=some (.loop L)∧∀j,j<k→e.errAt j=0
def zim (e:Ex) (c id:Nat) (L:LRec) (S:Nat→Prop) (h:Heap):Prop:=
 (∀j,S j↔j=c∨j=id)∧c<id∧id<h.next∧∃v,v=zDn e.errAt e.size∧h.at' c=some (.row [.int .i64 v])∧h.at' id=some (.loop { L with st:= .done,pending:=some .ret })
set_option maxHeartbeats 4000000 in
theorem zOY {e:Ex} (hok:e.Ok) (hsz:e.size≤1048576) (g:Heap):zA Tryz.prog 119 [.agg e.cells] g fun r h'=>h'=g∧r= .int .i64 (zDE e):=by
 refine zA.pure (by kernel_rfl) fun hh=> ?_;have hbel:∀k:Int,below g.next (.int .i64 k):=fun k=>trivial;have hv4:∀a b c e:D,zR true 4 [a,b,c,e] 0=some (.agg [a,b,c,e]):=fun a b c e=>zB rfl (by omega);have c1:=ze0 hok hsz;have c2:=zaK e.size (Nat.le_refl _) hok hsz;have hnd:=fun h=>zOW e h;obtain⟨G0,hG0,r0,E0,n0⟩:∃G,g.new g.next (.row [.int .i64 0])=G∧G.at' g.next=some (.row [.int .i64 0])∧Ext g G∧G.next=g.next+1:=⟨_,rfl,zJ _ _ _,(Ext.refl g).new (Nat.le_refl _) _,zD _ _⟩
 have hst:∀v:Int,zU Tryz.prog 36 (.ptr g.next 0) (.int .i64 v) G0=some (G0.set g.next (.row [.int .i64 v])):=fun v=>by rw[za r0 zJb (by simp) rfl rfl];rfl
 have hEs:∀v:Int,Ext g (G0.set g.next (.row [.int .i64 v])):=fun v=>E0.set (Nat.le_refl _) _;obtain⟨R,hR⟩:∃R,zDE e=R:=⟨_,rfl⟩;rw[hR];unfold zDE at hR;refine zA.of_fn (g:=zMM) mix Tryz.func119 zdV rfl rfl ?_;simp only[Tryz.f119,gJ];simp only[Ex.cells] at c1 c2 hnd⊢;cases q1:decide ((e.size:Int)>64) with
 |true=>
  rw[if_pos q1] at hR;subst hR;clear hnd
  repeat' first|simp only[go_sem,zKr,zC, *]|apply bc<;>intro hc|(refine zA.mono (c1 _) ?_;rintro r h ⟨rfl,rfl⟩)
 |false=>
 rw[if_neg (by rw[q1];exact Bool.false_ne_true)] at hR;cases q2:decide ((e.depth:Int)>24) with
 |true=>
  rw[if_pos q2] at hR;subst hR;clear hnd
  repeat' first|simp only[go_sem,zKr,zC, *]|apply bc<;>intro hc|(refine zA.mono (c1 _) ?_;rintro r h ⟨rfl,rfl⟩)|(refine zA.mono (c2 _) ?_;rintro r h ⟨rfl,rfl⟩)
 |false=>
 rw[if_neg (by rw[q2];exact Bool.false_ne_true)] at hR
 repeat' first|simp only[go_sem,zKr, *]|apply bc<;>intro hc|(refine zA.mono (c1 _) ?_;rintro r h ⟨rfl,rfl⟩)|(refine zA.mono (c2 _) ?_;rintro r h ⟨rfl,rfl⟩)
 rename Heap=>G1
 refine(hnd _).mono ?_;rintro r h2 ⟨rfl,rfl⟩
 repeat' first|simp only[go_sem,zKr, *]|apply bc<;>intro hc
 obtain⟨G,hG,hGn,m1,m2,mE⟩:∃G,G1.new (g.next+1) (.row [zAY (g.next+1)])=G∧G.next=g.next+2∧G.at' g.next=some (.row [.int .i64 0])∧G.at' (g.next+1)=some (.row [zAY (g.next+1)])∧Ext g G:=
  ⟨_,rfl,zm _ (by omega) _,by rw[zG (by omega)];exact r0,zJ _ _ _,E0.new (by omega) _⟩
 rw[hG,hGn];clear hG hnd c1 c2 hst hEs r0 E0 n0 hG0;generalize hL:LRec.mk _ _ _ _ _ _ _=L;have y:Yld Tryz.prog (g.next+2) e.size (fun i=>[.agg (e.pre.getD i e).cells]) (ze2 e g.next (g.next+2) L) (zim e g.next (g.next+2) L):=by
  refine⟨fun k S h y i hi=> ?_,fun k S h h' y hn hk=> ?_,fun S h y i hi=> ?_,fun S h h' y hn hk=> ?_,fun i S h3 hi hy=> ?_⟩
  ·obtain⟨y1,y2,y3,y4,y5⟩:=y;rcases(y1 i).1 hi with rfl|rfl<;>omega
  ·obtain⟨y1,y2,y3,y4,y5,y6⟩:=y;exact⟨y1,y2,by omega,by rw[hk _ ((y1 _).2 (.inl rfl))];exact y4,by rw[hk _ ((y1 _).2 (.inr rfl))];exact y5,y6⟩
  ·obtain⟨y1,y2,y3,y4⟩:=y;rcases(y1 i).1 hi with rfl|rfl<;>omega
  ·obtain⟨y1,y2,y3,v,y4,y5,y6⟩:=y;exact⟨y1,y2,by omega,v,y4,by rw[hk _ ((y1 _).2 (.inl rfl))];exact y5,by rw[hk _ ((y1 _).2 (.inr rfl))];exact y6⟩
  ·obtain⟨y1,y2,y3,y4,y5,y6⟩:=hy;have y50:=y5;rw[←hL] at y50;have hox:=Ex.pre_okAt hok i;have hck:=fun h=>zOX hox h;have herr:(e.pre.getD i e).err=e.errAt i:=rfl;rw[herr] at hck;generalize e.pre.getD i e=x at *
   have hstx:=zUK x (Ex.flat hox) h3 h3.next;simp only[Ex.cells] at hck⊢;refine yi.round (g:=zMM) mix y50 rfl (by kernel_rfl) (by kernel_rfl) (by kernel_rfl) ?_;simp only[go_sem,zKr,hstx];obtain⟨h4,hh4,z4,zL,zr,zn,zk⟩:∃h4,h3.new h3.next (.row [.int .i64 x.kind, .str x.name, .str x.exc,x.d])=h4∧h4.at' g.next=some (.row [.int .i64 0])∧h4.at' (g.next+2)=some (.loop L)∧h4.at' h3.next=some (.row [.int .i64 x.kind, .str x.name, .str x.exc,x.d])∧h4.next=h3.next+1∧∀j,j<h3.next→h4.at' j=h3.at' j:=
    ⟨_,rfl,by rw[zG (by omega)];exact y4,by rw[zG (by omega)];exact y5,zJ _ _ _,zD _ _,fun j hj=>by rw[zG (by omega)]⟩
   rw[hh4];refine⟨by rw[hL];exact zL,?_⟩;generalize hB:LRec.mk .busy _ _ _ _ _ _=B;have hBL:({ B with st:= .ready,pending:=none } :LRec)=L:=by rw[←hB,←hL]
   have hBD:({ B with st:= .done,pending:=some .ret } :LRec)= { L with st:= .done,pending:=some .ret } :=by rw[←hB,←hL]
   generalize h5e:Heap.set h4 (g.next+2) (.loop B)=h5;have a1:h5.at' g.next=some (.row [.int .i64 0]):=by rw[←h5e,zE (by omega)];exact z4
   have a2:h5.at' h3.next=some (.row [.int .i64 x.kind, .str x.name, .str x.exc,x.d]):=by rw[←h5e,zE (by omega)];exact zr
   have a3:h5.at' (g.next+2)=some (.loop B):=by rw[←h5e];simp[Heap.set]
   have a4:h5.next=h3.next+1:=by rw[←h5e,zt,zn]
   have a5:∀j,j<h3.next→j≠g.next+2→h5.at' j=h3.at' j:=fun j hj hn=>by rw[←h5e,zE hn,zk j hj]
   have hst:∀v:Int,zU Tryz.prog 36 (.ptr g.next 0) (.int .i64 v) h5=some (h5.set g.next (.row [.int .i64 v])):=fun v=>by rw[za a1 zJb (by simp) rfl rfl];rfl
   clear hh4 hstx hL hB h5e z4 zL zr zk y50 herr;cases hv:(e.errAt i==0) with
   |true=>
    have hn:=wX (f:=e.errAt) y6 (by simpa using hv)
    repeat' first|simp only[go_sem,zKr, *]|apply bc<;>intro hc|(refine zA.mono (hck _) ?_;rintro r h ⟨rfl,rfl⟩)
    rename Heap=>h5
    refine wO a3 ⟨fun j=>j=g.next∨j=g.next+2,fun j hj=> .inl (by simpa using hj),⟨by simp only[zt];omega,fun j hj hS=> ?_⟩, .inl ⟨rfl,fun j=>Iff.rfl,y2,by simp only[zt];omega,?_,?_,hn⟩⟩
    ·have n2:j≠g.next+2:=fun e=>hS (by first|exact(y1 j).2 (.inr e)|exact .inr e)
     rw[zE n2,a5 j hj n2]
    ·rw[zE (by omega)];exact a1
    ·rw[zC,hBL]
   |false=>
    have hn:zDn e.errAt e.size=e.errAt i:=zCZ hi y6 (by simpa using hv)
    repeat' first|simp only[go_sem,zKr, *]|apply bc<;>intro hc|(refine zA.mono (hck _) ?_;rintro r h ⟨rfl,rfl⟩)
    rename Heap=>h5
    refine zJk (L:=B) (by rw[zE (by omega)];exact a3) ⟨fun j=>j=g.next∨j=g.next+2,fun j hj=> .inl (by simpa using hj),⟨by simp only[zt];omega,fun j hj hS=> ?_⟩, .inr ⟨rfl,fun j=>Iff.rfl,y2,by simp only[zt];omega,_,hn.symm,?_,?_⟩⟩
    ·have n1:j≠g.next:=fun e=>hS (by first|exact(y1 j).2 (.inl e)|exact .inl e)
     have n2:j≠g.next+2:=fun e=>hS (by first|exact(y1 j).2 (.inr e)|exact .inr e)
     rw[zE n2,zE n1,a5 j hj n2]
    ·rw[zE (by omega),zC]
    ·rw[zC,hBD]
 have hY0:ze2 e g.next (g.next+2) L 0 (fun j=>j=g.next∨j=g.next+2) (G.new (g.next+2) (.loop L)):=
  ⟨fun j=>Iff.rfl,by omega,by rw[zm _ (by omega)];omega,by rw[zG (by omega)];exact m1,zJ _ _ _,fun j hj=>absurd hj (Nat.not_lt_zero _)⟩
 have hnodes:=zK7 y hok (fun j x hx=>by
  have:e.pre.getD j e=x:=by rw[List.getD_eq_getElem?_getD,hx];rfl
  rw[this]) hY0 (v:=g.next+1) (by rw[zm _ (by omega)];omega) (by omega) (by rw[zG (by omega)];exact m2)
 refine hnodes.mono ?_;rintro r h ⟨S',s1,s2,s3⟩;have hE0:∀ (_:g.next+2<h.next) (_:∀j,S' j↔j=g.next∨j=g.next+2),Ext g (h.del (g.next+2)):=fun hn _=>by
  have hn2:(G.new (g.next+2) (.loop L)).next=g.next+3:=zm _ (by omega) _;refine Ext.del ⟨by omega,fun i hi=> ?_⟩ (by omega);rw[s2.2 i (by omega) (by omega),zG (by omega),mE.2 i hi]
 rcases s3 with⟨y1,y2,y3,y4,y5,y6⟩ | ⟨y1,y2,y3,v,y4,y5,y6⟩
 ·have hLs:L.st≠ .busy:=by rw[←hL];intro q;cases q
  have hLp:L.pending=none:=by rw[←hL]
  refine⟨L,y5,hLs,?_⟩;rw[hLp,zB9];have hrow:(h.del (g.next+2)).at' g.next=some (.row [.int .i64 0]):=by rw[yv (by omega)];exact y4
  have hE:=hE0 y3 y1;have hst:zU Tryz.prog 36 (.ptr g.next 0) (.int .i64 0) (h.del (g.next+2))=some ((h.del (g.next+2)).set g.next (.row [.int .i64 0])):=by rw[za hrow zJb (by simp) rfl rfl];rfl
  have hE2:=hE.set (id:=g.next) (Nat.le_refl _) (.row [.int .i64 0]);rw[yr y6] at hR;subst hR;clear hnodes y hY0 s1 s2 hL hLs hLp y1 y4 y5 y6 hE0
  repeat' first|simp only[go_sem,zKr,zC, *]|apply bc<;>intro hc
 ·refine⟨_,y6,?_,?_⟩
  ·intro q;cases q
  simp only[zMU];have hrow:(h.del (g.next+2)).at' g.next=some (.row [.int .i64 v]):=by rw[yv (by omega)];exact y5
  have hE:=hE0 y3 y1;rw[←y4] at hR;subst hR;clear hnodes y hY0 s1 s2 hL y1 y4 y5 y6 hE0
  repeat' first|simp only[go_sem,zKr, *]|apply bc<;>intro hc
def zUM (c:Cat) (x:Ex):Int:=if(!(x.name== [])&& !zI2 c x.name x.exc)=true then 7 else 0
def Ex.unk (c:Cat) (e:Ex) (i:Nat):Int:=zUM c (e.pre.getD i e)
def zAZ (c:Cat) (e:Ex):Int:=
 if(!(zCj c==0))=true then 1
 else if(!(zDE e==0))=true then zDE e
 else zDn (Ex.unk c e) e.size
def ze3 (f:Nat→Int) (N c id:Nat) (L:LRec) (k:Nat) (S:Nat→Prop) (h:Heap):Prop:=
 (∀j,S j↔j=c∨j=id)∧c<id∧id<h.next∧h.at' c=some (.row [.int .i64 0])∧h.at' id=some (.loop L)∧∀j,j<k→f j=0
def zin (f:Nat→Int) (N c id:Nat) (L:LRec) (S:Nat→Prop) (h:Heap):Prop:=
 (∀j,S j↔j=c∨j=id)∧c<id∧id<h.next∧∃v,v=zDn f N∧h.at' c=some (.row [.int .i64 v])∧h.at' id=some (.loop { L with st:= .done,pending:=some .ret })
set_option maxHeartbeats 4000000 in
theorem zIG {c:Cat} {d:D} (hc:qX c d) (hs:c.Sm) {e:Ex} (hok:e.Ok) (hsz:e.size≤1048576) (g:Heap):zA Tryz.prog 78 [d, .agg e.cells] g fun r h'=>h'=g∧r= .int .i64 (zAZ c e):=by
 refine zA.pure (by kernel_rfl) fun hh=> ?_;have hbel:∀k:Int,below g.next (.int .i64 k):=fun k=>trivial;have hv4:∀a b c e:D,zR true 4 [a,b,c,e] 0=some (.agg [a,b,c,e]):=fun a b c e=>zB rfl (by omega);have c1:=zDe hc hs;have c2:=zOY hok hsz;have hkn:=fun lic exc h=>zaH hc hs lic exc h;obtain⟨ca,cb,ce,cp,rfl,_,_,_,_⟩:=hc;have hbt:∀u v:List UInt8,yG Tryz.prog 79 [(0, .str u),(1, .str v)]=some (.agg [.str u, .str v]):=fun u v=>by simp[yG,zFh,zBf,qZ,D.notTuple,D.cells,yW]
 have hnd:=fun h=>zOW e h;obtain⟨G0,hG0,r0,E0,n0⟩:∃G,g.new g.next (.row [.int .i64 0])=G∧G.at' g.next=some (.row [.int .i64 0])∧Ext g G∧G.next=g.next+1:=⟨_,rfl,zJ _ _ _,(Ext.refl g).new (Nat.le_refl _) _,zD _ _⟩;have hst:∀v:Int,zU Tryz.prog 36 (.ptr g.next 0) (.int .i64 v) G0=some (G0.set g.next (.row [.int .i64 v])):=fun v=>by rw[za r0 zJb (by simp) rfl rfl];rfl
 have hEs:∀v:Int,Ext g (G0.set g.next (.row [.int .i64 v])):=fun v=>E0.set (Nat.le_refl _) _;obtain⟨R,hR⟩:∃R,zAZ c e=R:=⟨_,rfl⟩;rw[hR];unfold zAZ at hR;refine zA.of_fn (g:=zTR) mix Tryz.func78 zj6 rfl rfl ?_;simp only[Tryz.f78,gJ];simp only[Ex.cells] at c2 hnd⊢;cases q1:(zCj c==0) with
 |false=>
  rw[if_pos (by rw[q1];rfl)] at hR;subst hR;clear hnd hkn
  repeat' first|simp only[go_sem,zVH,zC, *]|apply bc<;>intro hc|(refine zA.mono (c1 _) ?_;rintro r h ⟨rfl,rfl⟩)
 |true=>
 rw[if_neg (by rw[q1];decide)] at hR;cases q2:(zDE e==0) with
 |false=>
  rw[if_pos (by rw[q2];rfl)] at hR;subst hR;clear hnd hkn
  repeat' first|simp only[go_sem,zVH,zC, *]|apply bc<;>intro hc|(refine zA.mono (c1 _) ?_;rintro r h ⟨rfl,rfl⟩)|(refine zA.mono (c2 _) ?_;rintro r h ⟨rfl,rfl⟩)
 |true=>
 rw[if_neg (by rw[q2];decide)] at hR
 repeat' first|simp only[go_sem,zVH, *]|apply bc<;>intro hc|(refine zA.mono (c1 _) ?_;rintro r h ⟨rfl,rfl⟩)|(refine zA.mono (c2 _) ?_;rintro r h ⟨rfl,rfl⟩)
 rename Heap=>G1
 refine(hnd _).mono ?_;rintro r h2 ⟨rfl,rfl⟩
 repeat' first|simp only[go_sem,zVH, *]|apply bc<;>intro hc
 obtain⟨G,hG,hGn,m1,m2,mE⟩:∃G,G1.new (g.next+1) (.row [zAY (g.next+1)])=G∧G.next=g.next+2∧G.at' g.next=some (.row [.int .i64 0])∧G.at' (g.next+1)=some (.row [zAY (g.next+1)])∧Ext g G:=
  ⟨_,rfl,zm _ (by omega) _,by rw[zG (by omega)];exact r0,zJ _ _ _,E0.new (by omega) _⟩
 rw[hG,hGn];clear hG hnd c1 c2 hst hEs r0 E0 n0 hG0;generalize hL:LRec.mk _ _ _ _ _ _ _=L;have y:Yld Tryz.prog (g.next+2) e.size (fun i=>[.agg (e.pre.getD i e).cells]) (ze3 (Ex.unk c e) e.size g.next (g.next+2) L) (zin (Ex.unk c e) e.size g.next (g.next+2) L):=by
  refine⟨fun k S h y i hi=> ?_,fun k S h h' y hn hk=> ?_,fun S h y i hi=> ?_,fun S h h' y hn hk=> ?_,fun i S h3 hi hy=> ?_⟩
  ·obtain⟨y1,y2,y3,y4,y5⟩:=y;rcases(y1 i).1 hi with rfl|rfl<;>omega
  ·obtain⟨y1,y2,y3,y4,y5,y6⟩:=y;exact⟨y1,y2,by omega,by rw[hk _ ((y1 _).2 (.inl rfl))];exact y4,by rw[hk _ ((y1 _).2 (.inr rfl))];exact y5,y6⟩
  ·obtain⟨y1,y2,y3,y4⟩:=y;rcases(y1 i).1 hi with rfl|rfl<;>omega
  ·obtain⟨y1,y2,y3,v,y4,y5,y6⟩:=y;exact⟨y1,y2,by omega,v,y4,by rw[hk _ ((y1 _).2 (.inl rfl))];exact y5,by rw[hk _ ((y1 _).2 (.inr rfl))];exact y6⟩
  ·obtain⟨y1,y2,y3,y4,y5,y6⟩:=hy;have y50:=y5;rw[←hL] at y50;have hox:=Ex.pre_okAt hok i;have herr:zUM c (e.pre.getD i e)=Ex.unk c e i:=rfl;unfold zUM at herr;generalize e.pre.getD i e=x at *
   have hstx:=zUK x (Ex.flat hox) h3 h3.next;simp only[Ex.cells];refine yi.round (g:=zTR) mix y50 rfl (by kernel_rfl) (by kernel_rfl) (by kernel_rfl) ?_;simp only[go_sem,zVH,hstx];obtain⟨h4,hh4,z4,zL,zr,zn,zk⟩:∃h4,h3.new h3.next (.row [.int .i64 x.kind, .str x.name, .str x.exc,x.d])=h4∧h4.at' g.next=some (.row [.int .i64 0])∧h4.at' (g.next+2)=some (.loop L)∧h4.at' h3.next=some (.row [.int .i64 x.kind, .str x.name, .str x.exc,x.d])∧h4.next=h3.next+1∧∀j,j<h3.next→h4.at' j=h3.at' j:=
    ⟨_,rfl,by rw[zG (by omega)];exact y4,by rw[zG (by omega)];exact y5,zJ _ _ _,zD _ _,fun j hj=>by rw[zG (by omega)]⟩
   rw[hh4];refine⟨by rw[hL];exact zL,?_⟩;generalize hB:LRec.mk .busy _ _ _ _ _ _=B;have hBL:({ B with st:= .ready,pending:=none } :LRec)=L:=by rw[←hB,←hL]
   have hBD:({ B with st:= .done,pending:=some .ret } :LRec)= { L with st:= .done,pending:=some .ret } :=by rw[←hB,←hL]
   generalize h5e:Heap.set h4 (g.next+2) (.loop B)=h5;have a1:h5.at' g.next=some (.row [.int .i64 0]):=by rw[←h5e,zE (by omega)];exact z4
   have a2:h5.at' h3.next=some (.row [.int .i64 x.kind, .str x.name, .str x.exc,x.d]):=by rw[←h5e,zE (by omega)];exact zr
   have a3:h5.at' (g.next+2)=some (.loop B):=by rw[←h5e];simp[Heap.set]
   have a4:h5.next=h3.next+1:=by rw[←h5e,zt,zn]
   have a5:∀j,j<h3.next→j≠g.next+2→h5.at' j=h3.at' j:=fun j hj hn=>by rw[←h5e,zE hn,zk j hj]
   have hst:∀v:Int,zU Tryz.prog 36 (.ptr g.next 0) (.int .i64 v) h5=some (h5.set g.next (.row [.int .i64 v])):=fun v=>by rw[za a1 zJb (by simp) rfl rfl];rfl
   clear hh4 hstx hL hB h5e z4 zL zr zk y50;have hck:=hkn x.name x.exc;clear hkn;cases b1:(x.name== []) with
   |true=>
    have hn:=wX (f:=Ex.unk c e) y6 (by rw[←herr,if_neg (by rw[b1];exact Bool.false_ne_true)]);clear herr hck
    repeat' first|simp only[go_sem,zVH, *]|apply bc<;>intro hc
    refine wO a3 ⟨fun j=>j=g.next∨j=g.next+2,fun j hj=> .inl (by simpa using hj),⟨by simp only[zt];omega,fun j hj hS=> ?_⟩, .inl ⟨rfl,fun j=>Iff.rfl,y2,by simp only[zt];omega,?_,?_,hn⟩⟩
    ·have n2:j≠g.next+2:=fun e=>hS (by first|exact(y1 j).2 (.inr e)|exact .inr e)
     rw[zE n2,a5 j hj n2]
    ·rw[zE (by omega)];exact a1
    ·rw[zC,hBL]
   |false=>
   cases b2:zI2 c x.name x.exc with
   |true=>
    have hn:=wX (f:=Ex.unk c e) y6 (by rw[←herr,if_neg (by rw[b1,b2];decide)]);rw[b2] at hck;clear herr b2
    repeat' first|simp only[go_sem,zVH, *]|apply bc<;>intro hc|(refine zA.mono (hck _) ?_;rintro r h ⟨rfl,rfl⟩)
    rename Heap=>h5
    refine wO a3 ⟨fun j=>j=g.next∨j=g.next+2,fun j hj=> .inl (by simpa using hj),⟨by simp only[zt];omega,fun j hj hS=> ?_⟩, .inl ⟨rfl,fun j=>Iff.rfl,y2,by simp only[zt];omega,?_,?_,hn⟩⟩
    ·have n2:j≠g.next+2:=fun e=>hS (by first|exact(y1 j).2 (.inr e)|exact .inr e)
     rw[zE n2,a5 j hj n2]
    ·rw[zE (by omega)];exact a1
    ·rw[zC,hBL]
   |false=>
    have hw:Ex.unk c e i=7:=by rw[←herr,if_pos (by rw[b1,b2];rfl)]
    have hn:zDn (Ex.unk c e) e.size=7:=by rw[zCZ hi y6 (by rw[hw];decide),hw]
    rw[b2] at hck;clear herr b2 hw
    repeat' first|simp only[go_sem,zVH, *]|apply bc<;>intro hc|(refine zA.mono (hck _) ?_;rintro r h ⟨rfl,rfl⟩)
    rename Heap=>h5
    refine zJk (L:=B) (by rw[zE (by omega)];exact a3) ⟨fun j=>j=g.next∨j=g.next+2,fun j hj=> .inl (by simpa using hj),⟨by simp only[zt];omega,fun j hj hS=> ?_⟩, .inr ⟨rfl,fun j=>Iff.rfl,y2,by simp only[zt];omega,_,hn.symm,?_,?_⟩⟩
    ·have n1:j≠g.next:=fun e=>hS (by first|exact(y1 j).2 (.inl e)|exact .inl e)
     have n2:j≠g.next+2:=fun e=>hS (by first|exact(y1 j).2 (.inr e)|exact .inr e)
     rw[zE n2,zE n1,a5 j hj n2]
    ·rw[zE (by omega),zC]
    ·rw[zC,hBD]
 have hY0:ze3 (Ex.unk c e) e.size g.next (g.next+2) L 0 (fun j=>j=g.next∨j=g.next+2) (G.new (g.next+2) (.loop L)):=
  ⟨fun j=>Iff.rfl,by omega,by rw[zm _ (by omega)];omega,by rw[zG (by omega)];exact m1,zJ _ _ _,fun j hj=>absurd hj (Nat.not_lt_zero _)⟩
 have hnodes:=zK7 y hok (fun j x hx=>by
  have:e.pre.getD j e=x:=by rw[List.getD_eq_getElem?_getD,hx];rfl
  rw[this]) hY0 (v:=g.next+1) (by rw[zm _ (by omega)];omega) (by omega) (by rw[zG (by omega)];exact m2)
 refine hnodes.mono ?_;rintro r h ⟨S',s1,s2,s3⟩;have hE0:∀ (_:g.next+2<h.next) (_:∀j,S' j↔j=g.next∨j=g.next+2),Ext g (h.del (g.next+2)):=fun hn _=>by
  have hn2:(G.new (g.next+2) (.loop L)).next=g.next+3:=zm _ (by omega) _;refine Ext.del ⟨by omega,fun i hi=> ?_⟩ (by omega);rw[s2.2 i (by omega) (by omega),zG (by omega),mE.2 i hi]
 rcases s3 with⟨y1,y2,y3,y4,y5,y6⟩ | ⟨y1,y2,y3,v,y4,y5,y6⟩
 ·have hLs:L.st≠ .busy:=by rw[←hL];intro q;cases q
  have hLp:L.pending=none:=by rw[←hL]
  refine⟨L,y5,hLs,?_⟩;rw[hLp,zB9];have hrow:(h.del (g.next+2)).at' g.next=some (.row [.int .i64 0]):=by rw[yv (by omega)];exact y4
  have hE:=hE0 y3 y1;have hst:zU Tryz.prog 36 (.ptr g.next 0) (.int .i64 0) (h.del (g.next+2))=some ((h.del (g.next+2)).set g.next (.row [.int .i64 0])):=by rw[za hrow zJb (by simp) rfl rfl];rfl
  have hE2:=hE.set (id:=g.next) (Nat.le_refl _) (.row [.int .i64 0]);rw[yr y6] at hR;subst hR;clear hnodes y hY0 s1 s2 hL hLs hLp y1 y4 y5 y6 hE0
  repeat' first|simp only[go_sem,zVH,zC, *]|apply bc<;>intro hc
 ·refine⟨_,y6,?_,?_⟩
  ·intro q;cases q
  simp only[zMU];have hrow:(h.del (g.next+2)).at' g.next=some (.row [.int .i64 v]):=by rw[yv (by omega)];exact y5
  have hE:=hE0 y3 y1;rw[←y4] at hR;subst hR;clear hnodes y hY0 s1 s2 hL y1 y4 y5 y6 hE0
  repeat' first|simp only[go_sem,zVH, *]|apply bc<;>intro hc
structure Fac where
 kind:Int
 comp:List UInt8
 out:List UInt8
 rel:Int
 way:Int
 duty:Int
 chg:Bool
 e:Ex
 list:List (List UInt8)
 d:D
def Fac.cells (f:Fac):List D:=[.int .i64 f.kind, .str f.comp, .str f.out, .int .i64 f.rel, .int .i64 f.way, .int .i64 f.duty, .bool f.chg, .int .i64 f.e.kind, .str f.e.name, .str f.e.exc,f.e.d,f.d]
structure Fac.Ok (f:Fac):Prop where
 e:f.e.Ok
 es:f.e.size≤1048576
 list:zX 1 (yP f.list) f.d
 ll:f.list.length≤1048576
 comp:f.comp.length≤1048576
 out:f.out.length≤1048576
structure Use where
 comp:Bool
 out:Bool
 rel:Bool
 chg:Bool
 e:Bool
 way:Bool
 list:Bool
 duty:Bool
def Use.cells (u:Use):List D:=[.bool u.comp, .bool u.out, .bool u.rel, .bool u.chg, .bool u.e, .bool u.way, .bool u.list, .bool u.duty]
def zFC (k:Int):Use×Bool:=
 if(k==0)=true then(⟨true,true,true,true,false,false,false,false⟩,true)
 else if(k==1)=true then(⟨true,false,false,false,true,false,false,false⟩,true)
 else if(k==2)=true then(⟨false,true,false,false,false,true,false,false⟩,true)
 else if(k==3)=true then(⟨false,true,false,false,false,false,true,false⟩,true)
 else if(k==4)=true then(⟨true,false,false,false,false,false,false,true⟩,true)
 else(⟨false,false,false,false,false,false,false,false⟩,false)
theorem ze4 (k:Int) (g:Heap):zA Tryz.prog 115 [.int .i64 k] g fun r h'=>h'=g∧r= .tuple [.agg (zFC k).1.cells, .bool (zFC k).2]:=by
 refine zA.pure (by kernel_rfl) fun hok=> ?_;have b1:yG Tryz.prog 197 [(0, .bool true),(1, .bool true),(2, .bool true),(3, .bool true)]=some (.agg [.bool true, .bool true, .bool true, .bool true, .bool false, .bool false, .bool false, .bool false]):=by simp[yG,zAR,zB7,qZ,yW,D.notTuple,D.cells]
 have b2:yG Tryz.prog 197 [(0, .bool true),(4, .bool true)]=some (.agg [.bool true, .bool false, .bool false, .bool false, .bool true, .bool false, .bool false, .bool false]):=by simp[yG,zAR,zB7,qZ,yW,D.notTuple,D.cells]
 have b3:yG Tryz.prog 197 [(1, .bool true),(5, .bool true)]=some (.agg [.bool false, .bool true, .bool false, .bool false, .bool false, .bool true, .bool false, .bool false]):=by simp[yG,zAR,zB7,qZ,yW,D.notTuple,D.cells]
 have b4:yG Tryz.prog 197 [(1, .bool true),(6, .bool true)]=some (.agg [.bool false, .bool true, .bool false, .bool false, .bool false, .bool false, .bool true, .bool false]):=by simp[yG,zAR,zB7,qZ,yW,D.notTuple,D.cells]
 have b5:yG Tryz.prog 197 [(0, .bool true),(7, .bool true)]=some (.agg [.bool true, .bool false, .bool false, .bool false, .bool false, .bool false, .bool false, .bool true]):=by simp[yG,zAR,zB7,qZ,yW,D.notTuple,D.cells]
 have b6:yG Tryz.prog 197 []=some (.agg [.bool false, .bool false, .bool false, .bool false, .bool false, .bool false, .bool false, .bool false]):=by simp[yG,zAR,zB7,qZ,yW,D.notTuple,D.cells]
 have hst:∀a b c e f i j k:Bool,zU Tryz.prog 197 (.ptr g.next 0) (.agg [.bool a, .bool b, .bool c, .bool e, .bool f, .bool i, .bool j, .bool k]) (g.new g.next (.row [.bool false, .bool false, .bool false, .bool false, .bool false, .bool false, .bool false, .bool false]))=some (g.new g.next (.row [.bool a, .bool b, .bool c, .bool e, .bool f, .bool i, .bool j, .bool k])):=fun a b c e f i j k=>zj zSp (by omega) rfl rfl rfl;have hE:∀o,Ext g (g.new g.next o):=fun o=>(Ext.refl g).new (Nat.le_refl _) o
 have hv8:∀a b c e f i j k:D,zR true 8 [a,b,c,e,f,i,j,k] 0=some (.agg [a,b,c,e,f,i,j,k]):=fun a b c e f i j k=>zB rfl (by omega);have hbel:∀a b c e f i j k x:Bool,below g.next (.tuple [.agg [.bool a, .bool b, .bool c, .bool e, .bool f, .bool i, .bool j, .bool k], .bool x]):=fun a b c e f i j k x=>by simp[below,zb]
 unfold zFC Use.cells;refine zA.of_fn (g:=zPv) mix Tryz.func115 zd4 rfl rfl ?_;simp only[Tryz.f115,gJ]
 repeat' first|simp only[go_sem,ziB,zJ, *]|apply bc<;>intro hc
theorem zaN (x:Ex) (g:Heap) (hok:x.Ok):zA Tryz.prog 164 [.agg x.cells] g fun r h'=>h'=g∧r= .bool ((x.kind==0)&&(x.name== [])&&(x.exc== [])&&((x.kids.length:Int)==0)):=by
 obtain⟨kd,nm,xc,l,d⟩:=x;simp only[Ex.Ok] at hok;have hlen:=zDD hok.1;have hv4:∀a b c e:D,zR true 4 [a,b,c,e] 0=some (.agg [a,b,c,e]):=fun a b c e=>zB rfl (by omega);refine zA.of_fn (g:=zPo) mix Tryz.func164 zds rfl rfl ?_;simp only[Tryz.f164,gJ];simp only[Ex.cells,Ex.kind,Ex.name,Ex.exc,Ex.d,Ex.kids]
 repeat' first|simp only[go_sem,zhz, *]|apply bc<;>intro hc
def zYW (x:Ex):Bool:=(x.kind==0)&&(x.name== [])&&(x.exc== [])&&((x.kids.length:Int)==0)
def zFD (f:Fac) (u:Use):Bool:=
 (!u.comp&& !(f.comp== []))||(!u.out&& !(f.out== []))||(!u.rel&& !(f.rel==0))||(!u.chg&&f.chg)||(!u.e&& !zYW f.e)||(!u.way&& !(f.way==0))||(!u.list&&decide ((f.list.length:Int)>0))||(!u.duty&& !(f.duty==0))
theorem zK8 (a b c d e f g h i j k l:D):zR true 12 [a,b,c,d,e,f,g,h,i,j,k,l] 0=some (.agg [a,b,c,d,e,f,g,h,i,j,k,l]):=zB rfl (by omega)
theorem zG4 (a b c d e f g h i j k l:D):zR true 4 [a,b,c,d,e,f,g,h,i,j,k,l] 7=some (.agg [h,i,j,k]):=by simp[zR]
set_option maxHeartbeats 4000000 in
theorem zaO {f:Fac} (hok:f.Ok) {k:Int} (hk:(zFC k).2=true) (g:Heap):zA Tryz.prog 116 [.agg f.cells, .agg (zFC k).1.cells] g fun r h'=>h'=g∧r= .bool (zFD f (zFC k).1):=by
 have hp:=fun h=>zaN f.e h hok.e;have hps:((f.e.kind==0)&&(f.e.name== [])&&(f.e.exc== [])&&((f.e.kids.length:Int)==0))=zYW f.e:=rfl;rw[hps] at hp;have hll:=yz hok.list;have h12:=zK8;have h47:=zG4;simp only[Ex.cells] at hp;clear hps;refine zA.of_fn (g:=zP2) mix Tryz.func116 zeM rfl rfl ?_;simp only[Tryz.f116,gJ];unfold zFC at hk⊢;cases k0:(k==0) with
 |true=>
  simp only[if_true,Use.cells,Fac.cells,zFD];clear hk
  repeat' first|simp only[go_sem,zTk, *]|apply bc<;>intro hc|(refine zA.mono (hp _) ?_;rintro r h ⟨rfl,rfl⟩)
 |false=>
 cases k1:(k==1) with
 |true=>
  simp only[Bool.false_eq_true,if_true,if_false,Use.cells,Fac.cells,zFD];clear hk
  repeat' first|simp only[go_sem,zTk, *]|apply bc<;>intro hc|(refine zA.mono (hp _) ?_;rintro r h ⟨rfl,rfl⟩)
 |false=>
 cases k2:(k==2) with
 |true=>
  simp only[Bool.false_eq_true,if_true,if_false,Use.cells,Fac.cells,zFD];clear hk
  repeat' first|simp only[go_sem,zTk, *]|apply bc<;>intro hc|(refine zA.mono (hp _) ?_;rintro r h ⟨rfl,rfl⟩)
 |false=>
 cases k3:(k==3) with
 |true=>
  simp only[Bool.false_eq_true,if_true,if_false,Use.cells,Fac.cells,zFD];clear hk
  repeat' first|simp only[go_sem,zTk, *]|apply bc<;>intro hc|(refine zA.mono (hp _) ?_;rintro r h ⟨rfl,rfl⟩)
 |false=>
 cases k4:(k==4) with
 |true=>
  simp only[Bool.false_eq_true,if_true,if_false,Use.cells,Fac.cells,zFD];clear hk
  repeat' first|simp only[go_sem,zTk, *]|apply bc<;>intro hc|(refine zA.mono (hp _) ?_;rintro r h ⟨rfl,rfl⟩)
 |false=>
 rw[k0,k1,k2,k3,k4] at hk;cases hk
def zQO (c:Cat) (f:Fac) (u:Use):Int:=
 if((u.comp&& !(zOP f.comp==0))||(u.out&& !(zOP f.out==0)))=true then 2
 else if(decide (f.rel<0)||decide (f.rel>2)||decide (f.way<0)||decide (f.way>2)||decide (f.duty<0)||decide (f.duty>3))=true then 3
 else if u.e=true then zAZ c f.e
 else if(f.list.any fun s=> !(zBt c s).isSome)=true then 7
 else if(!zH9 f.list)=true then 5 else 0
def zDF (c:Cat) (f:Fac):Int:=
 if(!(zFC f.kind).2||zFD f (zFC f.kind).1)=true then 1 else zQO c f (zFC f.kind).1
theorem ze5 (u:Use) (h:Heap) (id:Nat):zU Tryz.prog 197 (.ptr id 0) (.agg u.cells) (h.new id (.row [.bool false, .bool false, .bool false, .bool false, .bool false, .bool false, .bool false, .bool false]))=some (h.new id (.row u.cells)):=zj zSp (by omega) rfl rfl rfl
set_option maxHeartbeats 8000000 in
theorem zOZ {c:Cat} {d:D} (hc:qX c d) (hs:c.Sm) {f:Fac} (hok:f.Ok) (g:Heap):zA Tryz.prog 77 [d, .agg f.cells] g fun r h'=>h'=g∧r= .int .i64 (zDF c f):=by
 refine zA.pure (by kernel_rfl) fun hh=> ?_;have hbel:∀k:Int,below g.next (.int .i64 k):=fun k=>trivial;have hu:=ze4 f.kind;have hp1:=zJp hok.comp;have hp2:=zJp hok.out;have hex:=fun h=>zIG hc hs hok.e hok.es h;have hfi:=fun k h=>zUF hc hs k h;have hll:=yz hok.list;have h12:=zK8;have h47:=zG4;obtain⟨ca,cb,ce,cp,rfl,_,_,_,_⟩:=hc;have hv4:∀a b c e:D,zR true 4 [a,b,c,e] 0=some (.agg [a,b,c,e]):=fun a b c e=>zB rfl (by omega);have hv8:∀a b c e f i j k:D,zR true 8 [a,b,c,e,f,i,j,k] 0=some (.agg [a,b,c,e,f,i,j,k]):=fun a b c e f i j k=>zB rfl (by omega)
 have hxe:∀hk:(zFC f.kind).2=true,∀h,zA Tryz.prog 116 [.agg f.cells, .agg (zFC f.kind).1.cells] h fun r h'=>h'=h∧r= .bool (zFD f (zFC f.kind).1):=fun hk h=>zaO hok hk h;obtain⟨R,hR⟩:∃R,zDF c f=R:=⟨_,rfl⟩;rw[hR];unfold zDF at hR;generalize hU:zFC f.kind=U at *
 obtain⟨u,ub⟩:=U;simp only at hR hxe hu;have hst:=ze5 u g g.next;obtain⟨G,hG,r0,E0,n0⟩:∃G,g.new g.next (.row u.cells)=G∧G.at' g.next=some (.row u.cells)∧Ext g G∧G.next=g.next+1:=⟨_,rfl,zJ _ _ _,(Ext.refl g).new (Nat.le_refl _) _,zD _ _⟩;rw[hG] at hst;obtain⟨u1,u2,u3,u4,u5,u6,u7,u8⟩:=u;simp only[Use.cells] at hst r0 hu hxe;simp only[Ex.cells] at hex;refine zA.of_fn (g:=zV3) mix Tryz.func77 zjw rfl rfl ?_;simp only[Tryz.f77,gJ];simp only[Fac.cells] at hxe⊢;cases ub with
 |false=>
  rw[if_pos (by simp)] at hR;subst hR;clear hxe hU
  repeat' first|simp only[go_sem,zQ9, *]|apply bc<;>intro hc|(refine zA.mono (hu _) ?_;rintro r h ⟨hq,rfl⟩)
 |true=>
 have hxe:=hxe rfl;cases hx:zFD f ⟨u1,u2,u3,u4,u5,u6,u7,u8⟩ with
 |true=>
  rw[if_pos (by rw[hx];rfl)] at hR;subst hR;clear hU;rw[hx] at hxe
  repeat' first|simp only[go_sem,zQ9, *]|apply bc<;>intro hc|(refine zA.mono (hu _) ?_;rintro r h ⟨hq,rfl⟩)|(refine zA.mono (hxe _) ?_;rintro r h ⟨rfl,rfl⟩)
 |false=>
 rw[if_neg (by rw[hx];decide)] at hR;rw[hx] at hxe;clear hU hx;unfold zQO at hR;obtain⟨L,hL⟩:∃L,(f.list.any fun s=> !(zBt c s).isSome)=L:=⟨_,rfl⟩;obtain⟨W,hW⟩:∃W,zH9 f.list=W:=⟨_,rfl⟩;simp only[hL,hW] at hR;subst hR;clear hG
 repeat' first|simp only[go_sem,zQ9, *]|apply bc<;>intro hc|(refine zA.mono (hu _) ?_;rintro r h ⟨hq,rfl⟩)|(refine zA.mono (hxe _) ?_;rintro r h ⟨rfl,rfl⟩)|(refine zA.mono (hp1 _) ?_;rintro r h ⟨rfl,rfl⟩)|(refine zA.mono (hp2 _) ?_;rintro r h ⟨rfl,rfl⟩)|(refine zA.mono (hex _) ?_;rintro r h ⟨rfl,rfl⟩)
 all_goals
  rename Heap=>G
  clear hxe hex hp1 hp2 hu hst;refine zF (fun k fr h=>fr 2= .iptr [ca,cb,ce,cp] 0∧fr 3= .iptr [.int .i64 f.kind, .str f.comp, .str f.out, .int .i64 f.rel, .int .i64 f.way, .int .i64 f.duty, .bool f.chg, .int .i64 f.e.kind, .str f.e.name, .str f.e.exc,f.e.d,f.d] 0∧fr 78=f.d∧fr 79= .int .i64 (f.list.length:Int)∧fr 80= .int .i64 (k:Int)∧Ext g h∧∀j (hj:j<f.list.length),j<k→(!(zBt c f.list[j]).isSome)=false) f.list.length (by have:=hok.ll;omega) ?_ ?_ ?_
  ·simp only[go_sem,zQ9,true_and,and_true,Int.ofNat_zero];exact⟨E0,fun j hj h0=>absurd h0 (Nat.not_lt_zero _)⟩
  ·clear E0 r0 n0;rintro k fr h hlt ec ew ⟨f2,f3,f78,f79,f80,hE,hj⟩;have a1:=zAW hok.list hlt;have hfd:=hfi f.list[k];have hstL:=fun x:Lic=>zC8 x h h.next;cases hf:zBt c f.list[k] with
   |none=>
    have hd:zDB c f.list[k]= .tuple [.agg zFQ, .bool false]:=by unfold zDB;rw[hf]
    have hL1:L=true:=by rw[←hL];exact zH5 (p:=fun s=> !(zBt c s).isSome) hlt (by simp only[hf];rfl)
    have hs0:=hstL ⟨[],[],0,[]⟩;have hE2:=hE.new hE.1 (.row zFQ);rw[hd] at hfd;subst hL1;clear hj hfi hd hL hf hstL
    repeat' first|simp only[go_sem,zQ9, *]|apply bc<;>intro hc|(refine zA.mono (hfd _) ?_;rintro r h ⟨rfl,rfl⟩)
   |some x=>
    have hd:zDB c f.list[k]= .tuple [.agg [.str x.name, .str x.fam, .int .i64 x.ver, .str x.text], .bool true]:=by unfold zDB;rw[hf]
    have hn:=yk (p:=fun s=> !(zBt c s).isSome) hlt hj (by simp only[hf];rfl);have hs0:=hstL x;have hE2:=hE.new hE.1 (.row [.str x.name, .str x.fam, .int .i64 x.ver, .str x.text]);rw[hd] at hfd;clear hj hfi hd hf hstL
    repeat' first|simp only[go_sem,zQ9, *]|apply bc<;>intro hc|(refine zA.mono (hfd _) ?_;rintro r h ⟨rfl,rfl⟩)
    exact hn
  ·clear E0 r0 n0 hfi;rintro fr h ec ⟨f2,f3,f78,f79,f80,hE,hj⟩;have hL1:L=false:=by rw[←hL];exact zD2 fun j hj' _=>hj j hj' hj'
   subst hL1;clear hj hL;simp only[go_sem,zQ9,f2,f3,f78,f79,f80,ec];refine z7 (fun i fr k=>fr 3= .iptr [.int .i64 f.kind, .str f.comp, .str f.out, .int .i64 f.rel, .int .i64 f.way, .int .i64 f.duty, .bool f.chg, .int .i64 f.e.kind, .str f.e.name, .str f.e.exc,f.e.d,f.d] 0∧fr 11= .int .i64 ((i+1:Nat):Int)∧Ext g k∧∀j,j<i→j<f.list.length-1→leB (f.list.getD (j+1) []) (f.list.getD j [])=false) f.list.length ?_ ?_
   ·simp only[go_sem,zQ9,true_and,and_true,Int.ofNat_zero];exact⟨f3,rfl,hE,fun j hj=>absurd hj (Nat.not_lt_zero _)⟩
   clear hE f2 f3 f78 f79 f80 ec;rintro i fr h hi ⟨f3,f11,hE,hj⟩;have hll2:=hok.ll;by_cases hlt:i+1<f.list.length
   ·have e1:decide (((i+1:Nat):Int)<(f.list.length:Int))=true:=decide_eq_true (by omega);have ew:IntKind.i64.wrap (((i+1:Nat):Int)+1)=((i+2:Nat):Int):=ze (by unfold lim;omega);have ew2:IntKind.i64.wrap (((i+1:Nat):Int)-1)=((i:Nat):Int):=by rw[zV (by omega) (by omega)];omega
    have a1:=zAW hok.list hlt;have a2:=zAW hok.list (show i<f.list.length by omega);have a3:=zE8 f.list[i+1] f.list[i];cases hb:leB f.list[i+1] f.list[i] with
    |true=>
     have hr0:zH9 f.list=false:=decide_eq_false fun q=>by
      have:=q i (by omega);rw[zMd hlt,zMd (by omega),hb] at this;cases this
     have hr:W=false:=by rw[←hW];exact hr0
     clear hr0;subst hr;clear hj hW
     repeat' first|simp only[go_sem,zQ9, *]|apply bc<;>intro hc
     refine zQ (by kernel_rfl) ?_
     repeat' first|simp only[go_sem,zQ9, *]|apply bc<;>intro hc
    |false=>
     have hn:∀j,j<i+1→j<f.list.length-1→leB (f.list.getD (j+1) []) (f.list.getD j [])=false:=fun j h1 h2=>by
      rcases Nat.lt_succ_iff_lt_or_eq.1 h1 with q|rfl
      ·exact hj j q h2
      ·rw[zMd hlt,zMd (by omega),hb]
     clear hj
     repeat' first|simp only[go_sem,zQ9, *]|apply bc<;>intro hc
     refine zQ (by kernel_rfl) ?_
     repeat' first|simp only[go_sem,zQ9, *]|apply bc<;>intro hc
     exact⟨by omega,hn⟩
   ·have e1:decide (((i+1:Nat):Int)<(f.list.length:Int))=false:=decide_eq_false (by omega);have hr:W=true:=by rw[←hW];exact decide_eq_true fun j h=>hj j (by omega) h
    subst hr;clear hj hW
    repeat' first|simp only[go_sem,zQ9, *]|apply bc<;>intro hc
def zIH (l:List Fac):List (List D):=l.map Fac.cells
theorem zOa (l:List Fac):(zIH l).length=l.length:=List.length_map ..
theorem zWj {l:List Fac} {i:Nat} (h:i<l.length):(zIH l)[i]? =some l[i].cells:=by simp[zIH,h]
theorem zCb {l:List Fac} {d:D} (hd:zX 12 (zIH l) d) (h:Heap):zCF Tryz.prog 29 d h=some (.int .i64 l.length):=by rw[yY hd Tryz.underlying29,zOa]
theorem qf {l:List Fac} {d:D} (hd:zX 12 (zIH l) d) {i:Nat} (hi:i<l.length):zS Tryz.prog 29 d (.int .i64 (i:Int))=some (.iptr l[i].cells 0):=zY hd zVg zSl (zWj hi)
abbrev zlO:List D:=[.int .i64 0, .str [], .str [], .int .i64 0, .int .i64 0, .int .i64 0, .bool false, .int .i64 0, .str [], .str [], .nilsl, .nilsl]
theorem zMm {f:Fac} (hok:f.Ok) (h:Heap) (id:Nat):zU Tryz.prog 87 (.ptr id 0) (.agg f.cells) (h.new id (.row zlO))=some (h.new id (.row f.cells)):=zj zSl (by omega) rfl rfl (by show(true&&(true&&(true&&(true&&(true&&(true&&(true&&(true&&(true&&(true&&(f.e.d.flat&&(f.d.flat&&true))))))))))))=true;rw[Ex.flat hok.e,zBs hok.list];rfl)
def zCA (c:Cat) (l:List Fac) (i:Nat):Int:=match l[i]? with
 |some f=>zDF c f
 |none=>0
def zWk (f:Nat→Int):Nat→Option (Nat×Int)
 |0=>none
 |n+1=>match zWk f n with
  |some p=>some p
  |none=>if(f n==0)=true then none else some (n,f n)
theorem zII {f:Nat→Int} :∀ {n:Nat},(∀j,j<n→f j=0)→zWk f n=none
 |0,_=>rfl
 |n+1,h=>by simp[zWk,zII (n:=n) fun j hj=>h j (by omega),h n (by omega)]
theorem zUN {f:Nat→Int} :∀ {n i:Nat},i<n→(∀j,j<i→f j=0)→f i≠0→zWk f n=some (i,f i)
 |n+1,i,hi,hj,h0=>by
  rcases Nat.lt_succ_iff_lt_or_eq.1 hi with q|rfl
  ·simp[zWk,zUN q hj h0]
  ·simp[zWk,zII hj,h0]
def wH (c:Cat) (l:List Fac):Int×Int:=
 if(!(zCj c==0))=true then(-1,1)
 else if decide ((l.length:Int)>256)=true then(-1,10)
 else match zWk (zCA c l) l.length with
  |some p=>((p.1:Int),p.2)
  |none=>(0,0)
set_option maxHeartbeats 4000000 in
theorem zOb {c:Cat} {d x:D} (hc:qX c d) (hs:c.Sm) {l:List Fac} (hx:zX 12 (zIH l) x) (hl:l.length≤1048576) (hok:∀f∈l,f.Ok) (g:Heap):zA Tryz.prog 47 [d,x] g fun r h'=>h'=g∧r= .tuple [.int .i64 (wH c l).1, .int .i64 (wH c l).2]:=by
 refine zA.pure (by kernel_rfl) fun hh=> ?_;have hbel:∀k m:Int,below g.next (.tuple [.int .i64 k, .int .i64 m]):=fun k m=>by simp[below,zb]
 have hck:=zDe hc hs;have hcf:=fun f (hf:f∈l) h=>zOZ hc hs (hok f hf) h;have hll:=zCb hx;have h12:=zK8;have hE0:=Ext.refl g;obtain⟨ca,cb,ce,cp,rfl,_,_,_,_⟩:=hc;have hv4:∀a b c e:D,zR true 4 [a,b,c,e] 0=some (.agg [a,b,c,e]):=fun a b c e=>zB rfl (by omega);refine zA.of_fn (g:=zV1) mix Tryz.func47 zjt rfl rfl ?_;simp only[Tryz.f47,gJ];cases q1:(zCj c==0) with
 |false=>
  have hR:wH c l=(-1,1):=if_pos (by rw[q1];rfl);clear hcf
  repeat' first|simp only[go_sem,zZk, *]|apply bc<;>intro hc|(refine zA.mono (hck _) ?_;rintro r h ⟨hq,rfl⟩)
 |true=>
 cases q2:decide ((l.length:Int)>256) with
 |true=>
  have hR:wH c l=(-1,10):=by unfold wH;rw[if_neg (by rw[q1];decide),if_pos q2]
  clear hcf
  repeat' first|simp only[go_sem,zZk, *]|apply bc<;>intro hc|(refine zA.mono (hck _) ?_;rintro r h ⟨hq,rfl⟩)
 |false=>
 have hR:wH c l=match zWk (zCA c l) l.length with
  |some p=>((p.1:Int),p.2)
  |none=>(0,0):=by unfold wH;rw[if_neg (by rw[q1];decide),if_neg (by rw[q2];exact Bool.false_ne_true)]
 obtain⟨R,eR⟩:∃R,wH c l=R:=⟨_,rfl⟩;rw[eR] at hR⊢;have hR2:=hR.symm;clear hR eR
 repeat' first|simp only[go_sem,zZk, *]|apply bc<;>intro hc|(refine zA.mono (hck _) ?_;rintro r h ⟨hq,rfl⟩)
 refine zF (fun k fr h=>fr 2= .iptr [ca,cb,ce,cp] 0∧fr 15=x∧fr 16= .int .i64 (l.length:Int)∧fr 17= .int .i64 (k:Int)∧Ext g h∧∀j,j<k→zCA c l j=0) l.length (by omega) ?_ ?_ ?_
 ·simp only[go_sem,zZk,true_and,and_true,Int.ofNat_zero];exact⟨hE0,fun j hj=>absurd hj (Nat.not_lt_zero _)⟩
 ·rintro k fr h hlt ec ew ⟨f2,f15,f16,f17,hE,hj⟩;have a1:=qf hx hlt;have hf:=hcf l[k] (List.getElem_mem hlt);have hst:=zMm (hok l[k] (List.getElem_mem hlt)) h h.next;have hE2:=hE.new hE.1 (.row l[k].cells);have hat:zCA c l k=zDF c l[k]:=by simp[zCA,hlt]
  generalize l[k]=f at *
  simp only[Fac.cells] at a1 hf hst hE2;cases hv:(zDF c f==0) with
  |true=>
   have hn:=wX hj (by rw[hat];simpa using hv);clear hj hcf hat hR2
   repeat' first|simp only[go_sem,zZk,zJ, *]|apply bc<;>intro hc|(refine zA.mono (hf _) ?_;rintro r h ⟨hq,rfl⟩)
   exact hn
  |false=>
   have hx1:zWk (zCA c l) l.length=some (k,zDF c f):=by rw[zUN hlt hj (by rw[hat];simpa using hv),hat]
   rw[hx1] at hR2;simp only at hR2;have r1:R.1=(k:Int):=by rw[←hR2]
   have r2:R.2=zDF c f:=by rw[←hR2]
   clear hj hcf hat hR2 hx1
   repeat' first|simp only[go_sem,zZk,zJ, *]|apply bc<;>intro hc|(refine zA.mono (hf _) ?_;rintro r h ⟨hq,rfl⟩)
 ·rintro fr h ec ⟨f2,f15,f16,f17,hE,hj⟩;rw[zII hj] at hR2;simp only at hR2;have r1:R.1=0:=by rw[←hR2]
  have r2:R.2=0:=by rw[←hR2]
  clear hj hcf hR2
  repeat' first|simp only[go_sem,zZk, *]|apply bc<;>intro hc
end Go.V
