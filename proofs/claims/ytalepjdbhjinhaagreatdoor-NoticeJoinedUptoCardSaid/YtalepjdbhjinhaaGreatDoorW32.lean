/- Rules of the machine of abstract values, part 6. No condition. -/
import Derived.Test.YtalepjdbhjinhaaGreatDoorW31
import Derived.Test.YtalepjdbhjinhaaGreatDoorW21
import Derived.Test.YtalepjdbhjinhaaGreatDoorW30
import Derived.Test.YtalepjdbhjinhaaGreatDoorW22
set_option linter.all false
namespace Go.V
attribute [go_sem_proc] Nat.reduceEqDiff Int.reduceBEq Int.reduceLT Int.reduceLE Int.reduceGT Int.reduceGE Nat.reduceAdd Nat.reduceBEq
attribute [go_sem_proc ↓] reduceIte
attribute [go_sem] Nat.zero_add List.contains_cons zC zo decide_true decide_false bne Bool.or_self Bool.false_and Bool.true_and Bool.and_false Bool.and_true Bool.and_self Bool.not_not zI D.notTuple D.cells
section
variable {b:Bool} {x y:Prop}
@[go_sem] theorem ze6 (w:HidP x y):zVT (b==true) x y w=zUG (.bool b) x y w:=by cases b<;>rfl
@[go_sem] theorem ze7 (w:HidP x y):zVT (b==false) x y w=zUG (.bool b) y x ⟨⟩:=by cases b<;>rfl
@[go_sem] theorem ze8 (w:HidP x y):zUG (.bool (!b)) x y w=zUG (.bool b) y x ⟨⟩:=by cases b<;>rfl
theorem bc {w:HidP x y} (h1:b=true→x) (h2:b=false→y):zUG (.bool b) x y w:=yf h1 h2
end
open Go.Proofs
set_option maxRecDepth 100000
theorem zHg (b:UInt8) (r:List UInt8):ye (b::r)=(!(decide (((b::r).length:Int)>32)||decide ((b.toNat:Int)<97)||decide ((b.toNat:Int)>122)||((b::r:List UInt8)== [97,110,100])||((b::r:List UInt8)== [111,114])||((b::r:List UInt8)== [119,105,116,104]))&&(Lib.trimS (b::r) zDl== [])):=by
 have e:decide (((b::r).length:Int)>32)=decide ((b::r).length>32):=zZk _ 32;rw[e];rfl
theorem zHh {s:List UInt8} (hl:s.length≤1048576) (g:Heap):zA Tryz.prog 140 [.str s] g fun r h'=>h'=g∧r= .bool (ye s):=by
 have ht:∀h,zA Tryz.prog 105 [.str s, .str [97,98,99,100,101,102,103,104,105,106,107,108,109,110,111,112,113,114,115,116,117,118,119,120,121,122,48,49,50,51,52,53,54,55,56,57,45,46]] h fun r h'=>h'=h∧r= .str (Lib.trimS s zDl):=fun h=>zO2 hl (c:=zDl) (by decide) (by decide) h;refine zA.of_fn (g:=zOX) mix Tryz.func140 zcL rfl rfl ?_;simp only[Tryz.f140,gJ];cases s with
 |nil=>
  have e1:decide ((([]:List UInt8).length:Int)<1)=true:=rfl;clear ht
  repeat' first|simp only[go_sem,zcK, *]|apply bc<;>intro hc
  rfl
 |cons b r=>
  have e1:decide (((b::r).length:Int)<1)=false:=decide_eq_false (by simp only[List.length_cons];omega);have hi:zA2 Tryz.prog 9 (.str (b::r)) (.int .i64 0)=some (.int .u8 b.toNat):=wj (n:=0) Tryz.underlying9 rfl;have hn:=zHg b r;generalize hs:b::r=s at *
  repeat' first|simp only[go_sem,zcK, *]|apply bc<;>intro hc|(refine zA.mono (ht _) ?_;rintro r h ⟨rfl,rfl⟩)
theorem zQC {s:List UInt8} (hl:s.length≤1048576) (g:Heap):zA Tryz.prog 141 [.str s] g fun r h'=>h'=g∧Fin 1 (zt (yK s)) r:=by
 have hsp:=zNP hl 10;refine zA.of_fn (g:=zOa) mix Tryz.func141 zcY rfl rfl ?_;simp only[Tryz.f141,gJ];cases h1:(s== []) with
 |true=>
  have:s= []:=by simpa using h1
  subst this;clear hsp
  repeat' first|simp only[go_sem,zcX, *]|apply bc<;>intro hc
  exact .inl ⟨rfl,rfl⟩
 |false=>
  have h2:s≠[]:=by simpa using h1
  have h3:yK s=zm 10 s:=by rw[yK,if_neg h2]
  clear h2
  repeat' first|simp only[go_sem,zcX, *]|apply bc<;>intro hc|(refine zA.mono (hsp _) ?_;rintro r h ⟨rfl,rfl⟩)
  exact .inr rfl
theorem zPA (n:Int) (g:Heap):zA Tryz.prog 144 [.int .i64 n] g fun r h'=>h'=g∧r= .bool (decide (n≥0)&&decide (n≤5)):=by
 refine zA.of_fn (g:=zOq) mix Tryz.func144 zc7 rfl rfl ?_;simp only[Tryz.f144,gJ]
 repeat' first|simp only[go_sem,zgo, *]|apply bc<;>intro hc
def leB (a b:List UInt8):Bool:=zIB a b||a==b
theorem zEf (a b:List UInt8):zF3 .leq a b=some (.bool (leB a b)):=rfl
def zHi (l:List (List UInt8)):Bool:=decide (∀i,i<l.length-1→leB (l.getD (i+1) []) (l.getD i [])=false)
def zPB (l:List Int):Bool:=decide (∀i,i<l.length-1→l.getD i 0<l.getD (i+1) 0)
theorem zL4 {l:List (List UInt8)} {i:Nat} (h:i<l.length):l.getD i []=l[i]:=by simp[h]
theorem zVe {l:List Int} {i:Nat} (h:i<l.length):l.getD i 0=l[i]:=by simp[h]
theorem zDE {l:List Int} {d:D} (hd:zX 1 (zKO l) d) (h:Heap):zAd Tryz.prog 137 d h=some (.int .i64 l.length):=by rw[zP hd Tryz.underlying137,zHW]
theorem zHj {l:List Int} {d:D} (hd:zX 1 (zKO l) d) {i:Nat} (hi:i<l.length):zR Tryz.prog 137 d (.int .i64 (i:Int))=some (.iptr [.int .i64 l[i]] 0):=zE hd zER zM8 (zO3 hi)
theorem zL5 {l:List (List UInt8)} {d:D} (hd:zX 1 (zt l) d) (hl:l.length≤1048576) (g:Heap):zA Tryz.prog 146 [d] g fun r h'=>h'=g∧r= .bool (zHi l):=by
 have hlen:=yA hd;refine zA.of_fn (g:=zOY) mix Tryz.func146 zcM rfl rfl ?_;simp only[Tryz.f146,gJ]
 repeat' first|simp only[go_sem,zNC, *]|apply bc<;>intro hc
 refine yG (fun i fr h=>fr 0=d∧fr 3= .int .i64 ((i+1:Nat):Int)∧h=g∧∀j,j<i→j<l.length-1→leB (l.getD (j+1) []) (l.getD j [])=false) l.length ?_ ?_
 ·simp only[go_sem,zNC,true_and,and_true,Int.ofNat_zero];exact⟨rfl,fun j hj=>by omega⟩
 rintro i fr h hi ⟨f0,f3,rfl,hj⟩;by_cases hlt:i+1<l.length
 ·have e1:decide (((i+1:Nat):Int)<(l.length:Int))=true:=decide_eq_true (by omega);have ew:IntKind.i64.wrap (((i+1:Nat):Int)+1)=((i+2:Nat):Int):=zf (by unfold lim;omega);have ew2:IntKind.i64.wrap (((i+1:Nat):Int)-1)=((i:Nat):Int):=by rw[zx (by omega) (by omega)];omega
  have a1:=yz hd hlt;have a2:=yz hd (show i<l.length by omega);have a3:=zEf l[i+1] l[i];cases hb:leB l[i+1] l[i] with
  |true=>
   have hr:zHi l=false:=decide_eq_false fun q=>by
    have:=q i (by omega);rw[zL4 hlt,zL4 (by omega),hb] at this;cases this
   clear hj
   repeat' first|simp only[go_sem,zNC, *]|apply bc<;>intro hc
   refine zi (by kernel_rfl) ?_
   repeat' first|simp only[go_sem,zNC, *]|apply bc<;>intro hc
  |false=>
   have hn:∀j,j<i+1→j<l.length-1→leB (l.getD (j+1) []) (l.getD j [])=false:=fun j h1 h2=>by
    rcases Nat.lt_succ_iff_lt_or_eq.1 h1 with q|rfl
    ·exact hj j q h2
    ·rw[zL4 hlt,zL4 (by omega),hb]
   clear hj
   repeat' first|simp only[go_sem,zNC, *]|apply bc<;>intro hc
   refine zi (by kernel_rfl) ?_
   repeat' first|simp only[go_sem,zNC, *]|apply bc<;>intro hc
   exact⟨by omega,hn⟩
 ·have e1:decide (((i+1:Nat):Int)<(l.length:Int))=false:=decide_eq_false (by omega);have hr:zHi l=true:=decide_eq_true fun j h=>hj j (by omega) h;clear hj
  repeat' first|simp only[go_sem,zNC, *]|apply bc<;>intro hc
theorem zL6 {l:List Int} {d:D} (hd:zX 1 (zKO l) d) (hl:l.length≤1048576) (g:Heap):zA Tryz.prog 145 [d] g fun r h'=>h'=g∧r= .bool (zPB l):=by
 have hlen:=zDE hd;refine zA.of_fn (g:=zSg) mix Tryz.func145 zg5 rfl rfl ?_;simp only[Tryz.f145,gJ]
 repeat' first|simp only[go_sem,zNG, *]|apply bc<;>intro hc
 refine yG (fun i fr h=>fr 0=d∧fr 3= .int .i64 ((i+1:Nat):Int)∧h=g∧∀j,j<i→j<l.length-1→l.getD j 0<l.getD (j+1) 0) l.length ?_ ?_
 ·simp only[go_sem,zNG,true_and,and_true,Int.ofNat_zero];exact⟨rfl,fun j hj=>by omega⟩
 rintro i fr h hi ⟨f0,f3,rfl,hj⟩;by_cases hlt:i+1<l.length
 ·have e1:decide (((i+1:Nat):Int)<(l.length:Int))=true:=decide_eq_true (by omega);have ew:IntKind.i64.wrap (((i+1:Nat):Int)+1)=((i+2:Nat):Int):=zf (by unfold lim;omega);have ew2:IntKind.i64.wrap (((i+1:Nat):Int)-1)=((i:Nat):Int):=by rw[zx (by omega) (by omega)];omega
  have a1:=zHj hd hlt;have a2:=zHj hd (show i<l.length by omega);cases hb:decide (l[i+1]≤l[i]) with
  |true=>
   have hr:zPB l=false:=decide_eq_false fun q=>by
    have:=q i (by omega);rw[zVe hlt,zVe (by omega)] at this;have:=of_decide_eq_true hb;omega
   clear hj
   repeat' first|simp only[go_sem,zNG, *]|apply bc<;>intro hc
   refine zi (by kernel_rfl) ?_
   repeat' first|simp only[go_sem,zNG, *]|apply bc<;>intro hc
  |false=>
   have hn:∀j,j<i+1→j<l.length-1→l.getD j 0<l.getD (j+1) 0:=fun j h1 h2=>by
    rcases Nat.lt_succ_iff_lt_or_eq.1 h1 with q|rfl
    ·exact hj j q h2
    ·rw[zVe hlt,zVe (by omega)];have:=of_decide_eq_false hb;omega
   clear hj
   repeat' first|simp only[go_sem,zNG, *]|apply bc<;>intro hc
   refine zi (by kernel_rfl) ?_
   repeat' first|simp only[go_sem,zNG, *]|apply bc<;>intro hc
   exact⟨by omega,hn⟩
 ·have e1:decide (((i+1:Nat):Int)<(l.length:Int))=false:=decide_eq_false (by omega);have hr:zPB l=true:=decide_eq_true fun j h=>hj j (by omega) h;clear hj
  repeat' first|simp only[go_sem,zNG, *]|apply bc<;>intro hc
def zDI (a b:List UInt8):Int:=if zIB a b=true then -1 else if a==b then 0 else 1
theorem zPC (a:List UInt8) (g:Heap):zA Tryz.prog 118 [.str a] g fun r h'=>h'=g∧r= .bool false:=by
 have ha:(a==a)=true:=by simp
 refine zA.of_fn (g:=zOd) mix Tryz.func118 zcg rfl rfl ?_;simp only[Tryz.f118,gJ]
 repeat' first|simp only[go_sem,zgA, *]|apply bc<;>intro hc
theorem zL7 (a b:List UInt8) (g:Heap):zA Tryz.prog 67 [.str a, .str b] g fun r h'=>h'=g∧r= .int .i64 (zDI a b):=by
 have ca:=zPC a;have cb:=zPC b;refine zA.of_fn (g:=zUo) mix Tryz.func67 ziV rfl rfl ?_;simp only[Tryz.f67,gJ];cases h1:zIB a b with
 |true=>
  have e:zDI a b= -1:=if_pos h1
  repeat' first|simp only[go_sem,zfq, *]|apply bc<;>intro hc|(refine zA.mono (ca _) ?_;rintro r h ⟨rfl,rfl⟩)|(refine zA.mono (cb _) ?_;rintro r h ⟨rfl,rfl⟩)
 |false=>
  cases h2:(a==b) with
  |true=>
   have e:zDI a b=0:=by rw[zDI,if_neg (by rw[h1];exact Bool.false_ne_true),if_pos h2]
   repeat' first|simp only[go_sem,zfq, *]|apply bc<;>intro hc|(refine zA.mono (ca _) ?_;rintro r h ⟨rfl,rfl⟩)|(refine zA.mono (cb _) ?_;rintro r h ⟨rfl,rfl⟩)
  |false=>
   have e:zDI a b=1:=by rw[zDI,if_neg (by rw[h1];exact Bool.false_ne_true),if_neg (by rw[h2];exact Bool.false_ne_true)]
   repeat' first|simp only[go_sem,zfq, *]|apply bc<;>intro hc|(refine zA.mono (ca _) ?_;rintro r h ⟨rfl,rfl⟩)|(refine zA.mono (cb _) ?_;rintro r h ⟨rfl,rfl⟩)
abbrev KN:=List (List UInt8×Int)
def knD (m:KN):List (D×D):=m.map fun p=>(.str p.1, .int .i64 p.2)
def zDJ (k:List UInt8):KN→Option Int
 | []=>none
 |(k',v)::m=>if k==k' then some v else zDJ k m
def zIR (k:List UInt8) (v:Int):KN→KN
 | []=>[(k,v)]
 |(k',v')::m=>if k==k' then(k,v)::m else(k',v')::zIR k v m
theorem zGd (p:List UInt8×Int) (m:KN):knD (p::m)=(.str p.1, .int .i64 p.2)::knD m:=rfl
theorem zKW (k:List UInt8):∀m:KN,zBX [.s] (.str k) (knD m)=some ((zDJ k m).map (D.int .i64))
 | []=>rfl
 |(k',v)::m=>by
  have ih:=zKW k m;rw[zGd,zBX,zCo];cases h:(k==k') with
  |true=>simp[zDJ,h]
  |false=>simp only[zDJ,h,ih];rfl
theorem zTK (k:List UInt8) (v:Int):∀m:KN,zN4 [.s] (.str k) (.int .i64 v) (knD m)=some (knD (zIR k v m))
 | []=>rfl
 |(k',v')::m=>by
  have ih:=zTK k v m;rw[zGd,zN4,zCo];cases h:(k==k') with
  |true=>simp[zIR,h,zGd]
  |false=>simp[zIR,h,zGd,ih]
theorem zL8 (m:KN):(knD m).all (fun x=>zT false x.1)=true:=by
 rw[List.all_eq_true];intro x hx;obtain⟨p,_,rfl⟩:=List.mem_map.1 hx;rfl
theorem zL9 (k k':List UInt8) (v:Int):∀m:KN,zDJ k (zIR k' v m)=if k==k' then some v else zDJ k m
 | []=>by simp[zIR,zDJ]
 |(k2,v2)::m=>by
  have ih:=zL9 k k' v m;simp only[zIR];by_cases h:k'=k2
  ·subst h;simp only[beq_self_eq_true,if_true,zDJ];by_cases g:k=k'
   ·subst g;simp
   ·simp[g]
  ·have hb:(k'==k2)=false:=by simp[h]
   simp only[hb,Bool.false_eq_true,if_false,zDJ,ih];by_cases g:k=k2
   ·subst g
    have:(k==k')=false:=by simp;exact fun e=>h e.symm
    simp[this]
   ·simp[g]
section
variable {P:Program} {t kt e:TypeId} {id:Nat} {h:Heap} {m:KN}
theorem zJG (hi:h.at' id=some (.map (knD m))) (hm:zN5 P t=some (kt,e)) (hk:zN6 P kt=some (false,[.s])) (hz:qS P e=some (.int .i64 0)) (k:List UInt8) (ok:Bool):
  wB P t (.map id) (.str k) ok h=some (zCO ok (.int .i64 0) ((zDJ k m).map (D.int .i64))):=by
 simp only[wB,hm,hk,hz,zID,hi,zCX,zL8,zCo,zKW,show zT false (.str k)=true from rfl,Option.isSome_some,Bool.and_self,if_true]
theorem zKX (hi:h.at' id=some (.map (knD m))) (hm:zN5 P t=some (kt,e)) (hk:zN6 P kt=some (false,[.s])) (k:List UInt8) (v:Int):
  yU P t (.map id) (.str k) (.int .i64 v) h=some (h.set id (.map (knD (zIR k v m)))):=by
 simp only[yU,hm,hk,hi,zL8,zCo,zKW,zTK,show zT false (.str k)=true from rfl,Option.isSome_some,Bool.and_self,if_true]
end
structure Lic where
 name:List UInt8
 fam:List UInt8
 ver:Int
 text:List UInt8
def Lic.cells (l:Lic):List D:=[.str l.name, .str l.fam, .int .i64 l.ver, .str l.text]
def zCS (l:List Lic):List (List D):=l.map Lic.cells
theorem zBK (l:List Lic):(zCS l).length=l.length:=List.length_map ..
theorem zPD {l:List Lic} {i:Nat} (h:i<l.length):(zCS l)[i]? =some l[i].cells:=by simp[zCS,h]
def Lic.Sm (l:Lic):Prop:=l.name.length≤1048576∧l.fam.length≤1048576∧l.text.length≤1048576
theorem zAV {l:List Lic} {d:D} (hd:zX 4 (zCS l) d) (h:Heap):zAd Tryz.prog 22 d h=some (.int .i64 l.length):=by rw[zP hd Tryz.underlying22,zBK]
theorem wx {l:List Lic} {d:D} (hd:zX 4 (zCS l) d) {i:Nat} (hi:i<l.length):zR Tryz.prog 22 d (.int .i64 (i:Int))=some (.iptr l[i].cells 0):=zE hd zEQ zDS (zPD hi)
abbrev zEg:List D:=[.str [], .str [], .int .i64 0, .str []]
theorem zCT (x:Lic) (h:Heap) (id:Nat):zW Tryz.prog 56 (.ptr id 0) (.agg [.str x.name, .str x.fam, .int .i64 x.ver, .str x.text]) (h.new id (.row zEg))=some (h.new id (.row [.str x.name, .str x.fam, .int .i64 x.ver, .str x.text])):=zg zDS (by omega) rfl rfl rfl
theorem zZo {l:List Lic} {d:D} (hd:zX 4 (zCS l) d) {i:Nat} (hi:i<l.length):∃d',(∀h,yZ Tryz.prog 22 d none (some (.int .i64 (i:Int))) none h=some d')∧zX 4 (zCS (l.take i)) d':=by
 rcases hd with⟨rfl,hs⟩ | ⟨tk,rfl⟩
 ·have hl:l= []:=List.map_eq_nil_iff.1 hs;subst hl;simp at hi
 ·refine⟨.sl 4 ((zCS l).take i) (zMj i (zCS l).length tk),fun h=> ?_,?_⟩
  ·simp[yZ,zYG,zCN,zEQ,zDS,qj,zIC,zJa,zBK,Nat.le_of_lt hi]
  ·have:(zCS l).take i=zCS (l.take i):=by simp[zCS,List.map_take]
   rw[this];exact zX.mk _
def zGe (l:List Lic) (i:Nat) (x:Lic):Bool:=(l.take i).any fun y=>y.fam==x.fam&&y.ver==x.ver
def zFx (l:List Lic) (i:Nat) (x:Lic):Int:=
 if(!ye x.name|| !ye x.fam)=true then 2
 else if x.ver<0∨x.ver>999 then 3
 else if x.text.length>4096∨(yK x.text).length>999 then 10
 else if x.text.any qI=true then 4
 else if 0<i∧leB x.name ((l.map Lic.name).getD (i-1) [])=true then 5
 else if zGe l i x=true then 6 else 0
set_option maxHeartbeats 4000000 in
theorem zIS {l:List Lic} {d:D} (hd:zX 4 (zCS l) d) (hl:l.length≤1048576) (hs:∀x∈l,x.Sm) {i:Nat} (hi:i<l.length) (g:Heap):
  zA Tryz.prog 95 [d, .int .i64 (i:Int)] g fun r h'=>h'=g∧r= .int .i64 (zFx l i l[i]):=by
 refine zA.pure (by kernel_rfl) fun hok=> ?_;have hsm:=hs _ (List.getElem_mem hi);have hat:=wx hd hi;have hlen:=zAV hd;have hbel:∀k:Int,below g.next (.int .i64 k):=fun k=>trivial;have hv4:∀a b c e:D,ze true 4 [a,b,c,e] 0=some (.agg [a,b,c,e]):=fun a b c e=>zB rfl (by omega);generalize hx:l[i]=x at *
 obtain⟨nm,fm,vr,tx⟩:=x;have hst:=zCT ⟨nm,fm,vr,tx⟩;simp only[Lic.cells] at hat hst;have hE:=(Ext.refl g).new (Nat.le_refl _) (.row [.str nm, .str fm, .int .i64 vr, .str tx]);have hc1:=zHh (s:=nm) hsm.1;have hc2:=zHh (s:=fm) hsm.2.1;have hc3:=zQC (s:=tx) hsm.2.2;refine zA.of_fn (g:=zVD) mix Tryz.func95 zi4 rfl rfl ?_;simp only[Tryz.f95,gJ];obtain⟨R,hR⟩:∃R,zFx l i ⟨nm,fm,vr,tx⟩ =R:=⟨_,rfl⟩;rw[hR];unfold zFx at hR;simp only at hR;cases n1:ye nm with
 |false=>
  rw[if_pos (by rw[n1];rfl)] at hR;subst hR
  repeat' first|simp only[go_sem,zD2,zQ, *]|apply bc<;>intro hc|(refine zA.mono (hc1 _) ?_;rintro r h ⟨rfl,rfl⟩)|(refine zA.mono (hc2 _) ?_;rintro r h ⟨rfl,rfl⟩)
 |true=>
 cases n2:ye fm with
 |false=>
  rw[if_pos (by rw[n1,n2];rfl)] at hR;subst hR
  repeat' first|simp only[go_sem,zD2,zQ, *]|apply bc<;>intro hc|(refine zA.mono (hc1 _) ?_;rintro r h ⟨rfl,rfl⟩)|(refine zA.mono (hc2 _) ?_;rintro r h ⟨rfl,rfl⟩)
 |true=>
 rw[if_neg (by rw[n1,n2];decide)] at hR;cases v1:decide (vr<0) with
 |true=>
  rw[if_pos (.inl (of_decide_eq_true v1))] at hR;subst hR
  repeat' first|simp only[go_sem,zD2,zQ, *]|apply bc<;>intro hc|(refine zA.mono (hc1 _) ?_;rintro r h ⟨rfl,rfl⟩)|(refine zA.mono (hc2 _) ?_;rintro r h ⟨rfl,rfl⟩)
 |false=>
 cases v2:decide (vr>999) with
 |true=>
  rw[if_pos (.inr (of_decide_eq_true v2))] at hR;subst hR
  repeat' first|simp only[go_sem,zD2,zQ, *]|apply bc<;>intro hc|(refine zA.mono (hc1 _) ?_;rintro r h ⟨rfl,rfl⟩)|(refine zA.mono (hc2 _) ?_;rintro r h ⟨rfl,rfl⟩)
 |false=>
 rw[if_neg (fun q=>q.elim (of_decide_eq_false v1) (of_decide_eq_false v2))] at hR;cases t1:decide ((tx.length:Int)>4096) with
 |true=>
  have t1':=of_decide_eq_true t1;rw[if_pos (.inl (by omega))] at hR;subst hR;clear t1'
  repeat' first|simp only[go_sem,zD2,zQ, *]|apply bc<;>intro hc|(refine zA.mono (hc1 _) ?_;rintro r h ⟨rfl,rfl⟩)|(refine zA.mono (hc2 _) ?_;rintro r h ⟨rfl,rfl⟩)
 |false=>
 have t1':=of_decide_eq_false t1;cases t2:decide (((yK tx).length:Int)>999) with
 |true=>
  have t2':=of_decide_eq_true t2;rw[if_pos (.inr (by omega))] at hR;subst hR;clear t1' t2'
  repeat' first|simp only[go_sem,zD2,zQ,yA hr.isSl, *]|simp only[go_sem,zD2,zQ, *]|apply bc<;>intro hc|(refine zA.mono (hc1 _) ?_;rintro r h ⟨rfl,rfl⟩)|(refine zA.mono (hc2 _) ?_;rintro r h ⟨rfl,rfl⟩)|(refine zA.mono (hc3 _) ?_;rintro r h ⟨rfl,hr⟩)
 |false=>
 have t2':=of_decide_eq_false t2;rw[if_neg (by omega)] at hR;clear t1' t2';have hcv:=zFL tx;have hbl:∀h,zAd Tryz.prog 113 (.sl 1 (zBv tx) .no) h=some (.int .i64 tx.length):=fun h=>by rw[zP (zX.mk .no) Tryz.underlying113,zCG]
 repeat' first|simp only[go_sem,zD2,zQ,yA hr.isSl, *]|simp only[go_sem,zD2,zQ, *]|apply bc<;>intro hc|(refine zA.mono (hc1 _) ?_;rintro r h ⟨rfl,rfl⟩)|(refine zA.mono (hc2 _) ?_;rintro r h ⟨rfl,rfl⟩)|(refine zA.mono (hc3 _) ?_;rintro r h ⟨rfl,hr⟩)
 rename Fin 1 (zt (yK tx)) _=>hr
 clear hr hc1 hc2 hc3 hst n1 n2 v1 v2 t1 t2;obtain⟨H,hH,hrow,hE',hnx⟩:∃H,g.new g.next (.row [.str nm, .str fm, .int .i64 vr, .str tx])=H∧H.at' g.next=some (.row [.str nm, .str fm, .int .i64 vr, .str tx])∧Ext g H∧H.next=g.next+1:=⟨_,rfl,zQ _ _ _,hE,zK _ _⟩;rw[hH];clear hH hE;have htl:=hsm.2.2;simp only at htl;have bad:∀k (hk:k<tx.length),qI tx[k]=true→R=4:=fun k hk hb=>by
  rw[if_pos (List.any_eq_true.2 ⟨_,List.getElem_mem hk,hb⟩)] at hR;exact hR.symm
 refine zD (fun k fr h=>fr 0=d∧fr 1= .int .i64 (i:Int)∧fr 5= .ptr g.next 0∧fr 48= .sl 1 (zBv tx) .no∧fr 49= .int .i64 (tx.length:Int)∧fr 50= .int .i64 (k:Int)∧h=H∧∀j (hj:j<tx.length),j<k→qI tx[j]=false) tx.length (by omega) ?_ ?_ ?_
 ·simp only[go_sem,zD2,true_and,and_true,Int.ofNat_zero];exact fun j hj h0=>by omega
 ·rintro k fr h hlt e1 ew ⟨f0,f1,f5,f48,f49,f50,rfl,hj⟩;have a1:zR Tryz.prog 113 (.sl 1 (zBv tx) .no) (.int .i64 (k:Int))=some (.iptr [.int .u8 (tx[k].toNat:Int)] 0):=zE (zX.mk .no) wq zIN (zAy hlt);have tb:qI tx[k]=(!((tx[k].toNat:Int)==10)&&(decide ((tx[k].toNat:Int)<32)||decide ((tx[k].toNat:Int)>126))):=rfl;have hbad:=bad k hlt;have hnext:=fun hb=>ql (p:=qI) (l:=tx) hlt hj hb;clear hj bad hR hcv;generalize(tx[k].toNat:Int)=y at *
  generalize qI tx[k]=tbk at *
  cases b1:(y==10) with
  |true=>
   have hn:=hnext (by rw[tb,b1];rfl);clear hnext hbad tb
   repeat' first|simp only[go_sem,zD2, *]|apply bc<;>intro hc
   exact hn
  |false=>
   cases b2:decide (y<32) with
   |true=>
    have hn:=hbad (by rw[tb,b1,b2];rfl);clear hnext hbad tb;subst hn
    repeat' first|simp only[go_sem,zD2, *]|apply bc<;>intro hc
   |false=>
    cases b3:decide (y>126) with
    |true=>
     have hn:=hbad (by rw[tb,b1,b2,b3];rfl);clear hnext hbad tb;subst hn
     repeat' first|simp only[go_sem,zD2, *]|apply bc<;>intro hc
    |false=>
     have hn:=hnext (by rw[tb,b1,b2,b3];rfl);clear hnext hbad tb
     repeat' first|simp only[go_sem,zD2, *]|apply bc<;>intro hc
     exact hn
 ·rintro fr h e1 ⟨f0,f1,f5,f48,f49,f50,rfl,hj⟩;have hany:¬tx.any qI=true:=by
   rw[zJA fun j hj' _=>hj j hj' hj'];exact Bool.false_ne_true
  rw[if_neg hany] at hR;clear hj bad hany hcv hbl;have hil:i≤l.length:=by omega
  obtain⟨d',hsl,hd'⟩:=zZo hd hi;have hlen':=zAV hd';rw[List.length_take,Nat.min_eq_left hil] at hlen';have ord:(0<i∧leB nm ((l.map Lic.name).getD (i-1) [])=true→R=5)∧(¬(0<i∧leB nm ((l.map Lic.name).getD (i-1) [])=true)→R=if zGe l i ⟨nm,fm,vr,tx⟩ =true then 6 else 0):=by
   refine⟨fun q=> ?_,fun q=> ?_⟩
   ·rw[if_pos q] at hR;exact hR.symm
   ·rw[if_neg q] at hR;exact hR.symm
  clear hR;have hn0:¬(0<i∧leB nm ((l.map Lic.name).getD (i-1) [])=true)→R=if(l.take i).any (fun y=>y.fam==fm&&y.ver==vr)=true then 6 else 0:=ord.2
  have fin:∀ {fr:Frm} {k:Heap},R=(if zGe l i ⟨nm,fm,vr,tx⟩ =true then 6 else 0)→True:=fun _=>trivial
  clear fin;have tw:∀L:List Lic,L=l.take i→zGe l i ⟨nm,fm,vr,tx⟩ =L.any fun y=>y.fam==fm&&y.ver==vr:=fun L e=>by rw[e];rfl
  by_cases h0:0<i
  ·have e0:decide ((i:Int)>0)=true:=decide_eq_true (by omega);have ew:IntKind.i64.wrap ((i:Int)-1)=((i-1:Nat):Int):=by rw[zx (by omega) (by omega)];omega
   have a2:=wx hd (show i-1<l.length by omega);simp only[Lic.cells] at a2;have gn:(l.map Lic.name).getD (i-1) []=(l[i-1]'(by omega)).name:=by simp[show i-1<l.length by omega]
   have a3:=zEf nm (l[i-1]'(by omega)).name;rw[gn] at ord;by_cases hb:leB nm (l[i-1]'(by omega)).name=true
   ·have hn:=ord.1 ⟨h0,hb⟩;subst hn;clear ord hsl hlen' hd' tw hn0
    repeat' first|simp only[go_sem,zD2, *]|apply bc<;>intro hc
    refine zi (by kernel_rfl) ?_
    repeat' first|simp only[go_sem,zD2, *]|apply bc<;>intro hc
   have hb:leB nm (l[i-1]'(by omega)).name=false:=by simpa using hb
   have hn1:=(hn0 (fun q=>by rw[gn,hb] at q;exact Bool.false_ne_true q.2)).symm;clear ord gn tw hn0
   repeat' first|simp only[go_sem,zD2, *]|apply bc<;>intro hc
   refine zi (by kernel_rfl) ?_
   repeat' first|simp only[go_sem,zD2, *]|apply bc<;>intro hc
   clear a2 a3 hb e0 ew;clear hsl hsm hlen hat;generalize hL:l.take i=L at *
   have hLl:L.length=i:=by rw[←hL,List.length_take,Nat.min_eq_left hil]
   clear hL hd hs;refine zD (fun j fr h=>fr 5= .ptr g.next 0∧fr 80=d'∧fr 81= .int .i64 (i:Int)∧fr 82= .int .i64 (j:Int)∧h.at' g.next=some (.row [.str nm, .str fm, .int .i64 vr, .str tx])∧Ext g h∧g.next<h.next∧∀m (hm:m<L.length),m<j→(L[m].fam==fm&&L[m].ver==vr)=false) i (by omega) ?_ ?_ ?_
   ·simp only[go_sem,zD2,true_and,and_true,Int.ofNat_zero];exact⟨f5,hrow,hE',by omega,fun m hm h0=>by omega⟩
   ·clear f0 f1 f5 f48 f49 f50 hrow hE' hnx e1;rintro j fr h hlt e1 ew ⟨f5,f80,f81,f82,hrow,hE,hnx,hj⟩;have hjL:j<L.length:=by omega
    have a1:=wx hd' hjL;have hst:=zCT L[j] h h.next;have hk:(h.new h.next (.row [.str L[j].name, .str L[j].fam, .int .i64 L[j].ver, .str L[j].text])).at' g.next=some (.row [.str nm, .str fm, .int .i64 vr, .str tx]):=by rw[zM (by omega)];exact hrow
    have hE2:=hE.new hE.1 (.row [.str L[j].name, .str L[j].fam, .int .i64 L[j].ver, .str L[j].text]);have hn2:g.next<(h.new h.next (.row [.str L[j].name, .str L[j].fam, .int .i64 L[j].ver, .str L[j].text])).next:=by rw[zK];omega
    have hnext:=fun hb=>ql (p:=fun y:Lic=>y.fam==fm&&y.ver==vr) (l:=L) hjL hj hb;have hbad:(L[j].fam==fm&&L[j].ver==vr)=true→R=6:=fun hb=>by
     rw[if_pos (List.any_eq_true.2 ⟨_,List.getElem_mem hjL,hb⟩)] at hn1;exact hn1.symm
    simp only[Lic.cells] at a1;clear hj hn1 hrow;cases b1:(L[j].fam==fm) with
    |false=>
     have hn:=hnext (by simp only[b1,Bool.false_and]);clear hnext hbad
     repeat' first|simp only[go_sem,zD2,zQ, *]|apply bc<;>intro hc
     exact fun m hm h=>hn m (by omega) h
    |true=>
     cases b2:(L[j].ver==vr) with
     |false=>
      have hn:=hnext (by simp only[b1,b2,Bool.and_false]);clear hnext hbad
      repeat' first|simp only[go_sem,zD2,zQ, *]|apply bc<;>intro hc
      exact fun m hm h=>hn m (by omega) h
     |true=>
      have hn:=hbad (by simp only[b1,b2,Bool.and_self]);clear hnext hbad;subst hn
      repeat' first|simp only[go_sem,zD2,zQ, *]|apply bc<;>intro hc
   ·clear f0 f1 f5 f48 f49 f50 hrow hE' hnx e1;rintro fr h e1 ⟨f5,f80,f81,f82,hrow,hE,hnx,hj⟩;have hany:¬(L.any fun y=>y.fam==fm&&y.ver==vr)=true:=by
     rw[zJA fun j hj' _=>hj j hj' (by omega)];exact Bool.false_ne_true
    rw[if_neg hany] at hn1;subst hn1;clear hj hany
    repeat' first|simp only[go_sem,zD2, *]|apply bc<;>intro hc
  ·have e0:decide ((i:Int)>0)=false:=decide_eq_false (by omega);have hn1:=(hn0 (fun q=>h0 q.1)).symm;clear ord tw hn0
   repeat' first|simp only[go_sem,zD2, *]|apply bc<;>intro hc
   refine zi (by kernel_rfl) ?_
   repeat' first|simp only[go_sem,zD2, *]|apply bc<;>intro hc
   clear e0;clear hsl hsm hlen hat;generalize hL:l.take i=L at *
   have hLl:L.length=i:=by rw[←hL,List.length_take,Nat.min_eq_left hil]
   clear hL hd hs;refine zD (fun j fr h=>fr 5= .ptr g.next 0∧fr 80=d'∧fr 81= .int .i64 (i:Int)∧fr 82= .int .i64 (j:Int)∧h.at' g.next=some (.row [.str nm, .str fm, .int .i64 vr, .str tx])∧Ext g h∧g.next<h.next∧∀m (hm:m<L.length),m<j→(L[m].fam==fm&&L[m].ver==vr)=false) i (by omega) ?_ ?_ ?_
   ·simp only[go_sem,zD2,true_and,and_true,Int.ofNat_zero];exact⟨f5,hrow,hE',by omega,fun m hm h0=>by omega⟩
   ·clear f0 f1 f5 f48 f49 f50 hrow hE' hnx e1;rintro j fr h hlt e1 ew ⟨f5,f80,f81,f82,hrow,hE,hnx,hj⟩;have hjL:j<L.length:=by omega
    have a1:=wx hd' hjL;have hst:=zCT L[j] h h.next;have hk:(h.new h.next (.row [.str L[j].name, .str L[j].fam, .int .i64 L[j].ver, .str L[j].text])).at' g.next=some (.row [.str nm, .str fm, .int .i64 vr, .str tx]):=by rw[zM (by omega)];exact hrow
    have hE2:=hE.new hE.1 (.row [.str L[j].name, .str L[j].fam, .int .i64 L[j].ver, .str L[j].text]);have hn2:g.next<(h.new h.next (.row [.str L[j].name, .str L[j].fam, .int .i64 L[j].ver, .str L[j].text])).next:=by rw[zK];omega
    have hnext:=fun hb=>ql (p:=fun y:Lic=>y.fam==fm&&y.ver==vr) (l:=L) hjL hj hb;have hbad:(L[j].fam==fm&&L[j].ver==vr)=true→R=6:=fun hb=>by
     rw[if_pos (List.any_eq_true.2 ⟨_,List.getElem_mem hjL,hb⟩)] at hn1;exact hn1.symm
    simp only[Lic.cells] at a1;clear hj hn1 hrow;cases b1:(L[j].fam==fm) with
    |false=>
     have hn:=hnext (by simp only[b1,Bool.false_and]);clear hnext hbad
     repeat' first|simp only[go_sem,zD2,zQ, *]|apply bc<;>intro hc
     exact fun m hm h=>hn m (by omega) h
    |true=>
     cases b2:(L[j].ver==vr) with
     |false=>
      have hn:=hnext (by simp only[b1,b2,Bool.and_false]);clear hnext hbad
      repeat' first|simp only[go_sem,zD2,zQ, *]|apply bc<;>intro hc
      exact fun m hm h=>hn m (by omega) h
     |true=>
      have hn:=hbad (by simp only[b1,b2,Bool.and_self]);clear hnext hbad;subst hn
      repeat' first|simp only[go_sem,zD2,zQ, *]|apply bc<;>intro hc
   ·clear f0 f1 f5 f48 f49 f50 hrow hE' hnx e1;rintro fr h e1 ⟨f5,f80,f81,f82,hrow,hE,hnx,hj⟩;have hany:¬(L.any fun y=>y.fam==fm&&y.ver==vr)=true:=by
     rw[zJA fun j hj' _=>hj j hj' (by omega)];exact Bool.false_ne_true
    rw[if_neg hany] at hn1;subst hn1;clear hj hany
    repeat' first|simp only[go_sem,zD2, *]|apply bc<;>intro hc
def zIT {α:Type} (p:α→Bool) (l:List α):Int:=match l.findIdx? p with
 |some i=>(i:Int)
 |none=> -1
theorem zFS {α:Type} {l:List α} {p:α→Bool} :decide (zIT p l≥0)=l.any p:=by
 rw[←zDD];rfl
theorem zCr {α:Type} {l:List α} {p:α→Bool} {i:Nat} (hi:i<l.length) (hj:∀j (hj:j<l.length),j<i→p l[j]=false) (hp:p l[i]=true):zIT p l=(i:Int):=by
 have:l.findIdx? p=some i:=by
  rw[List.findIdx?_eq_some_iff_getElem];exact⟨hi,hp,fun j hji=>by rw[hj j (by omega) hji];exact Bool.false_ne_true⟩
 simp only[zIT,this]
theorem zCs {α:Type} {l:List α} {p:α→Bool} (hj:∀j (hj:j<l.length),p l[j]=false):zIT p l= -1:=by
 have:l.findIdx? p=none:=by
  rw[List.findIdx?_eq_none_iff];intro n hn;obtain⟨j,hjl,rfl⟩:=List.mem_iff_getElem.1 hn;exact hj j hjl
 simp only[zIT,this]
theorem zMA {l:List Int} {d:D} (hd:zX 1 (zKO l) d) (hl:l.length≤1048576) {f:FuncId} {cap:List D} {p:Int→Bool} (hp:∀s∈l,∀h,zA Tryz.prog f ([]++ [.int .i64 s]++cap) h fun r h'=>h'=h∧r= .bool (p s)) (g:Heap):
  zA Tryz.prog 198 [d, .fn (.func f) [] cap] g fun r h'=>h'=g∧r= .int .i64 (zIT p l):=by
 have hlen:=zDE hd;refine zA.of_fn (g:=zR4) mix Tryz.func198 zgH rfl rfl ?_;simp only[Tryz.f198,gJ]
 repeat' first|simp only[go_sem,zR5, *]|apply bc<;>intro hc
 refine zD (fun i fr h=>fr 1= .fn (.func f) [] cap∧fr 0=d∧fr 6=d∧fr 7= .int .i64 (l.length:Int)∧fr 8= .int .i64 (i:Int)∧h=g∧∀j (hj:j<l.length),j<i→p l[j]=false) l.length (by omega) ?_ ?_ ?_
 ·simp only[go_sem,zR5,true_and,and_true,Int.ofNat_zero];exact fun j hj h0=>by omega
 ·rintro i fr h hlt e1 ew ⟨f1,f0,f6,f7,f8,rfl,hj⟩;have a1:=zHj hd hlt;have hq:=hp _ (List.getElem_mem hlt);simp only[List.nil_append,List.cons_append] at hq;cases hb:p l[i] with
  |true=>
   have hx:=zCr hlt hj hb;rw[hb] at hq;clear hj hp hd
   repeat' first|simp only[go_sem,zR5, *]|apply bc<;>intro hc|(refine zA.mono (hq _) ?_;rintro r h ⟨rfl,rfl⟩)
  |false=>
   have hn:=ql (p:=p) hlt hj hb;rw[hb] at hq;clear hj hp hd
   repeat' first|simp only[go_sem,zR5, *]|apply bc<;>intro hc|(refine zA.mono (hq _) ?_;rintro r h ⟨rfl,rfl⟩)
   exact hn
 ·rintro fr h e1 ⟨f1,f0,f6,f7,f8,rfl,hj⟩;have hx:=zCs (p:=p) fun j hj'=>hj j hj' hj';clear hj hp hd
  repeat' first|simp only[go_sem,zR5, *]|apply bc<;>intro hc
theorem zHk {l:List Int} {d:D} (hd:zX 1 (zKO l) d) (hl:l.length≤1048576) {f:FuncId} {cap:List D} {p:Int→Bool} (hp:∀s∈l,∀h,zA Tryz.prog f ([]++ [.int .i64 s]++cap) h fun r h'=>h'=h∧r= .bool (p s)) (g:Heap):
  zA Tryz.prog 142 [d, .fn (.func f) [] cap] g fun r h'=>h'=g∧r= .bool (l.any p):=by
 have hix:=zMA hd hl hp;have hge:=zFS (l:=l) (p:=p);refine zA.of_fn (g:=zR3) mix Tryz.func142 zgD rfl rfl ?_;simp only[Tryz.f142,gJ]
 repeat' first|simp only[go_sem,zgC, *]|apply bc<;>intro hc|(refine zA.mono (hix _) ?_;rintro r h ⟨rfl,rfl⟩)
theorem zdr (n:Int) (g:Heap):zA Tryz.prog 143 [.int .i64 n] g fun r h'=>h'=g∧r= .bool (!(decide (n≥0)&&decide (n≤5))):=by
 have hd:=zPA n;refine zA.of_fn (g:=zSK) mix Tryz.func143 zgY rfl rfl ?_;simp only[Tryz.f143,gJ]
 repeat' first|simp only[go_sem,zgX, *]|apply bc<;>intro hc|(refine zA.mono (hd _) ?_;rintro r h ⟨rfl,rfl⟩)
def zMB (l:List Lic):Nat→KN
 |0=>[]
 |i+1=>zIR ((l.map Lic.name).getD i []) (i:Int) (zMB l i)
theorem zJH {l:List Lic} {d e1 e2 e3:D} (hd:zX 4 (zCS l) d) (hl:l.length≤1048576) (g:Heap):
  zA Tryz.prog 43 [.agg [d,e1,e2,e3]] g fun r h'=>∃id,r= .map id∧g.next≤id∧id<h'.next∧h'.at' id=some (.map (knD (zMB l l.length)))∧Ext g h':=by
 have hlen:=zAV hd;have hv4:∀a b c e:D,ze true 4 [a,b,c,e] 0=some (.agg [a,b,c,e]):=fun a b c e=>zB rfl (by omega);refine zA.of_fn (g:=zU2) mix Tryz.func43 zis rfl rfl ?_;simp only[Tryz.f43,gJ]
 repeat' first|simp only[go_sem,zek, *]|apply bc<;>intro hc
 obtain⟨H,hH,hm0,hE0,hn0⟩:∃H,g.new g.next (.map [])=H∧H.at' g.next=some (.map (knD (zMB l 0)))∧Ext g H∧g.next<H.next:=⟨_,rfl,zQ _ _ _,(Ext.refl g).new (Nat.le_refl _) _,by rw[zK];omega⟩;rw[hH];clear hH;refine zD (fun i fr h=>fr 3= .map g.next∧fr 8=d∧fr 9= .int .i64 (l.length:Int)∧fr 10= .int .i64 (i:Int)∧h.at' g.next=some (.map (knD (zMB l i)))∧Ext g h∧g.next<h.next) l.length (by omega) ?_ ?_ ?_
 ·simp only[go_sem,zek,true_and,and_true,Int.ofNat_zero];exact⟨hm0,hE0,hn0⟩
 ·clear hm0 hE0 hn0;rintro i fr h hlt e1 ew ⟨f3,f8,f9,f10,hm,hE,hn⟩;have a1:=wx hd hlt;have hst:=zCT l[i] h h.next;have hnm:(l.map Lic.name).getD i []=l[i].name:=by simp[hlt]
  simp only[Lic.cells] at a1;obtain⟨H2,hH2,m2,r2,E2,n2⟩:∃H2,h.new h.next (.row [.str l[i].name, .str l[i].fam, .int .i64 l[i].ver, .str l[i].text])=H2∧H2.at' g.next=some (.map (knD (zMB l i)))∧H2.at' h.next=some (.row [.str l[i].name, .str l[i].fam, .int .i64 l[i].ver, .str l[i].text])∧Ext g H2∧g.next<H2.next:=
   ⟨_,rfl,by rw[zM (by omega)];exact hm,zQ _ _ _,hE.new hE.1 _,by rw[zK];omega⟩
  rw[hH2] at hst;have hup:=zKX (P:=Tryz.prog) (t:=103) m2 zKD zIy l[i].name (i:Int);have hnx:zIR l[i].name (i:Int) (zMB l i)=zMB l (i+1):=by rw[zMB,hnm]
  rw[hnx] at hup;have m3:=zF H2 g.next (.map (knD (zMB l (i+1))));have E3:=E2.set (id:=g.next) (Nat.le_refl _) (.map (knD (zMB l (i+1))));have n3:g.next<(H2.set g.next (.map (knD (zMB l (i+1))))).next:=n2;clear hm hE hnm hnx hd E2
  repeat' first|simp only[go_sem,zek, *]|apply bc<;>intro hc
 ·clear hm0 hE0 hn0;rintro fr h e1 ⟨f3,f8,f9,f10,hm,hE,hn⟩;have hfin:∃id,D.map g.next= .map id∧g.next≤id∧id<h.next∧h.at' id=some (.map (knD (zMB l l.length)))∧Ext g h:=⟨_,rfl,Nat.le_refl _,hn,hm,hE⟩;clear hm hE hn hd
  repeat' first|simp only[go_sem,zek, *]|apply bc<;>intro hc
structure Exc where
 name:List UInt8
 lic:List UInt8
 lifts:List Int
 d:D
def Exc.cells (l:Exc):List D:=[.str l.name, .str l.lic,l.d]
def Exc.Ok (l:Exc):Prop:=zX 1 (zKO l.lifts) l.d∧l.lifts.length≤1048576∧l.name.length≤1048576
def zZp (l:List Exc):List (List D):=l.map Exc.cells
theorem zNZ (l:List Exc):(zZp l).length=l.length:=List.length_map ..
theorem zVf {l:List Exc} {i:Nat} (h:i<l.length):(zZp l)[i]? =some l[i].cells:=by simp[zZp,h]
theorem zEh {l:List Exc} {d:D} (hd:zX 3 (zZp l) d) (h:Heap):zAd Tryz.prog 23 d h=some (.int .i64 l.length):=by rw[zP hd Tryz.underlying23,zNZ]
theorem zFT {l:List Exc} {d:D} (hd:zX 3 (zZp l) d) {i:Nat} (hi:i<l.length):zR Tryz.prog 23 d (.int .i64 (i:Int))=some (.iptr l[i].cells 0):=zE hd zUZ zHK (zVf hi)
structure Cla where
 lic:List UInt8
 way:Int
 rel:Int
 duty:Int
 list:List (List UInt8)
 d:D
def Cla.cells (l:Cla):List D:=[.str l.lic, .int .i64 l.way, .int .i64 l.rel, .int .i64 l.duty,l.d]
def Cla.Ok (l:Cla):Prop:=zX 1 (zt l.list) l.d∧l.list.length≤1048576
def zMC (l:List Cla):List (List D):=l.map Cla.cells
theorem zDq (l:List Cla):(zMC l).length=l.length:=List.length_map ..
theorem zVg {l:List Cla} {i:Nat} (h:i<l.length):(zMC l)[i]? =some l[i].cells:=by simp[zMC,h]
theorem zDF {l:List Cla} {d:D} (hd:zX 5 (zMC l) d) (h:Heap):zAd Tryz.prog 24 d h=some (.int .i64 l.length):=by rw[zP hd Tryz.underlying24,zDq]
theorem zDr {l:List Cla} {d:D} (hd:zX 5 (zMC l) d) {i:Nat} (hi:i<l.length):zR Tryz.prog 24 d (.int .i64 (i:Int))=some (.iptr l[i].cells 0):=zE hd zKB zCi (zVg hi)
structure Apt where
 a:List UInt8
 b:List UInt8
def Apt.cells (l:Apt):List D:=[.str l.a, .str l.b]
def zZq (l:List Apt):List (List D):=l.map Apt.cells
theorem zNa (l:List Apt):(zZq l).length=l.length:=List.length_map ..
theorem zVh {l:List Apt} {i:Nat} (h:i<l.length):(zZq l)[i]? =some l[i].cells:=by simp[zZq,h]
theorem zGf {l:List Apt} {d:D} (hd:zX 2 (zZq l) d) (h:Heap):zAd Tryz.prog 25 d h=some (.int .i64 l.length):=by rw[zP hd Tryz.underlying25,zNa]
theorem zHl {l:List Apt} {d:D} (hd:zX 2 (zZq l) d) {i:Nat} (hi:i<l.length):zR Tryz.prog 25 d (.int .i64 (i:Int))=some (.iptr l[i].cells 0):=zE hd zUa zKF (zVh hi)
def zTL (a b:Cla):Int:=orL [zDI a.lic b.lic,zFM a.way b.way,zFM a.rel b.rel,zFM a.duty b.duty]
def zTM (a b:Apt):Int:=orL [zDI a.a b.a,zDI a.b b.b]
theorem zhO (a b:Int) (nid:Nat) (h:Heap):zS Tryz.prog false nid 137 2 [(0, .int .i64 a),(1, .int .i64 b)] h=some (.sl 1 (zKO [a,b]) .full,h):=by
 simp[zS,zER,zKA,zM8,zBW,D.notTuple,D.cells,yT,wl,y8,zKO]
theorem zj0 (a b c e:Int) (nid:Nat) (h:Heap):zS Tryz.prog false nid 137 4 [(0, .int .i64 a),(1, .int .i64 b),(2, .int .i64 c),(3, .int .i64 e)] h=some (.sl 1 (zKO [a,b,c,e]) .full,h):=by
 simp[zS,zER,zKA,zM8,zBW,D.notTuple,D.cells,yT,wl,y8,zKO]
theorem zIU (a b:Apt) (g:Heap):zA Tryz.prog 73 [.agg a.cells, .agg b.cells] g fun r h'=>h'=g∧r= .int .i64 (zTM a b):=by
 have h1:=zL7 a.a b.a;have h2:=zL7 a.b b.b;have h3:=zew (l:=[zDI a.a b.a,zDI a.b b.b]) (zX.mk .full) (by simp);have hr:=fun nid=>zhO (zDI a.a b.a) (zDI a.b b.b) nid;have hc:orL [zDI a.a b.a,zDI a.b b.b]=zTM a b:=rfl;rw[hc] at h3;have hle0:∀h:Heap,HLe Heap.emp h:=fun h i ob e=>by cases e
 refine zA.of_fn (g:=zY9) mix Tryz.func73 zjX rfl rfl ?_;simp only[Tryz.f73,gJ];simp only[Apt.cells]
 repeat' first|simp only[go_sem,ziW, *]|apply bc<;>intro hc
 refine qG Heap.emp [(0, .no,true),(1, .no,true),(2, .no,true),(3, .no,true),(5, .no,true),(6, .st,true),(7, .no,true),(8, .st,true),(4, .no,true),(9, .no,true),(10, .no,true),(11, .no,true),(12, .no,true)] (by kernel_rfl) (by kernel_rfl) (fun i ob e=>by cases e) ?_
 repeat' first|simp only[go_sem,ziW, *]|apply bc<;>intro hc|(refine zA.mono (h1 _) ?_;rintro r h ⟨rfl,rfl⟩)|(refine zA.mono (h2 _) ?_;rintro r h ⟨rfl,rfl⟩)|(refine zA.mono (h3 _) ?_;rintro r h ⟨rfl,rfl⟩)
theorem zGF (a b:Cla) (g:Heap):zA Tryz.prog 71 [.agg a.cells, .agg b.cells] g fun r h'=>h'=g∧r= .int .i64 (zTL a b):=by
 have h1:=zL7 a.lic b.lic;have h2:=zLy a.way b.way;have h4:=zLy a.rel b.rel;have h5:=zLy a.duty b.duty;have h3:=zew (l:=[zDI a.lic b.lic,zFM a.way b.way,zFM a.rel b.rel,zFM a.duty b.duty]) (zX.mk .full) (by simp);have hr:=fun nid=>zj0 (zDI a.lic b.lic) (zFM a.way b.way) (zFM a.rel b.rel) (zFM a.duty b.duty) nid;have hc:orL [zDI a.lic b.lic,zFM a.way b.way,zFM a.rel b.rel,zFM a.duty b.duty]=zTL a b:=rfl;rw[hc] at h3;have hle0:∀h:Heap,HLe Heap.emp h:=fun h i ob e=>by cases e
 refine zA.of_fn (g:=zVA) mix Tryz.func71 zi1 rfl rfl ?_;simp only[Tryz.f71,gJ];simp only[Cla.cells]
 repeat' first|simp only[go_sem,zi0, *]|apply bc<;>intro hc
 refine qG Heap.emp [(0, .no,true),(1, .no,true),(2, .no,true),(3, .no,true),(5, .no,true),(6, .st,true),(7, .no,true),(8, .st,true),(10, .no,true),(11, .st,true),(12, .no,true),(13, .st,true),(15, .no,true),(16, .st,true),(17, .no,true),(18, .st,true),(4, .no,true),(9, .no,true),(14, .no,true),(19, .no,true),(20, .no,true),(21, .no,true),(22, .no,true)] (by kernel_rfl) (by kernel_rfl) (fun i ob e=>by cases e) ?_
 repeat' first|simp only[go_sem,zi0, *]|apply bc<;>intro hc|(refine zA.mono (h1 _) ?_;rintro r h ⟨rfl,rfl⟩)|(refine zA.mono (h2 _) ?_;rintro r h ⟨rfl,rfl⟩)|(refine zA.mono (h3 _) ?_;rintro r h ⟨rfl,rfl⟩)|(refine zA.mono (h4 _) ?_;rintro r h ⟨rfl,rfl⟩)|(refine zA.mono (h5 _) ?_;rintro r h ⟨rfl,rfl⟩)
theorem zBd {sz:Nat} {xs:List (List D)} {d:D} (hd:zX sz xs d):d.flat=true:=by rcases hd with⟨rfl,_⟩ | ⟨tk,rfl⟩ <;>rfl
def zBe (m:KN) (k:List UInt8):Bool:=(zDJ k m).isSome
theorem zKY {m:KN} {id:Nat} {h:Heap} (hm:h.at' id=some (.map (knD m))) (k:List UInt8):∃v,wB Tryz.prog 103 (.map id) (.str k) true h=some (.tuple [.int .i64 v, .bool (zBe m k)]):=by
 have:=zJG (P:=Tryz.prog) (t:=103) hm zKD zIy zKA k true;rw[this];unfold zBe;cases zDJ k m with
 |none=>exact⟨0,rfl⟩
 |some v=>exact⟨v,rfl⟩
def zFy (m:KN) (l:List Exc) (i:Nat) (x:Exc):Int:=
 if(!ye x.name)=true then 2
 else if(!zBe m x.lic)=true then 7
 else if(x.lifts.any fun n=> !(decide (n≥0)&&decide (n≤5)))=true then 3
 else if(((x.lifts.length:Int)==0)||(!zPB x.lifts||(decide ((i:Int)>0)&&leB x.name ((l.map Exc.name).getD (i-1) []))))=true then 5 else 0
set_option maxHeartbeats 2000000 in
theorem zGG {l:List Exc} {d:D} (hd:zX 3 (zZp l) d) (hl:l.length≤1048576) (hs:∀x∈l,x.Ok) {i:Nat} (hi:i<l.length) {m:KN} {id:Nat} {g:Heap} (hm:g.at' id=some (.map (knD m))):
  zA Tryz.prog 96 [d, .int .i64 (i:Int), .map id] g fun r h'=>h'=g∧r= .int .i64 (zFy m l i l[i]):=by
 refine zA.pure (by kernel_rfl) fun hok=> ?_;have hlt:id<g.next:=by
  by_cases h:id<g.next
  ·exact h
  ·rw[hok id (by omega)] at hm;cases hm
 obtain⟨o1,o2,o3⟩:=hs _ (List.getElem_mem hi);have hat:=zFT hd hi;have hbel:∀k:Int,below g.next (.int .i64 k):=fun k=>trivial;have hv3:∀a b c:D,ze true 3 [a,b,c] 0=some (.agg [a,b,c]):=fun a b c=>zB rfl (by omega);have c1:=zHh o3;have c2:=zHk o1 o2 (f:=143) (cap:=[]) fun n _ h=>zdr n h;have c3:=zL6 o1 o2;have hll:=zDE o1;have hi1:i-1<l.length:=by omega
 obtain⟨R,hR⟩:∃R,zFy m l i l[i]=R:=⟨_,rfl⟩;rw[hR];unfold zFy at hR;have hpn:(l.map Exc.name).getD (i-1) []=(l[i-1]'hi1).name:=by simp[hi1]
 have ha2:=zFT hd hi1;have hle:=zEf l[i].name (l[i-1]'hi1).name;rw[hpn] at hR;clear hpn;generalize l[i]=x at *
 simp only[Exc.cells] at hat ha2;have hst:zW Tryz.prog 139 (.ptr g.next 0) (.agg [.str x.name, .str x.lic,x.d]) (g.new g.next (.row [.str [], .str [], .nilsl]))=some (g.new g.next (.row [.str x.name, .str x.lic,x.d])):=zg zHK (by omega) rfl rfl (by show(true&&(true&&(x.d.flat&&true)))=true;rw[zBd o1];rfl);obtain⟨H,hH,hrow,hE',hm'⟩:∃H,g.new g.next (.row [.str x.name, .str x.lic,x.d])=H∧H.at' g.next=some (.row [.str x.name, .str x.lic,x.d])∧Ext g H∧H.at' id=some (.map (knD m)):=⟨_,rfl,zQ _ _ _,(Ext.refl g).new (Nat.le_refl _) _,by rw[zM (by omega)];exact hm⟩;rw[hH] at hst
 obtain⟨v,hlk⟩:=zKY hm' x.lic;clear hH hm hm' hs;refine zA.of_fn (g:=zY6) mix Tryz.func96 zjT rfl rfl ?_;simp only[Tryz.f96,gJ];by_cases h0:0<i
 ·have e0:decide ((i:Int)>0)=true:=decide_eq_true (by omega);have ew:IntKind.i64.wrap ((i:Int)-1)=((i-1:Nat):Int):=by rw[zx (by omega) (by omega)];omega
  subst hR;generalize l[i-1]=y at *
  repeat' first|simp only[go_sem,zei, *]|apply bc<;>intro hc|(refine zA.mono (c1 _) ?_;rintro r h ⟨rfl,rfl⟩)|(refine zA.mono (c2 _) ?_;rintro r h ⟨rfl,rfl⟩)|(refine zA.mono (c3 _) ?_;rintro r h ⟨rfl,rfl⟩)
  all_goals
   refine zi (by kernel_rfl) ?_
   repeat' first|simp only[go_sem,zei, *]|apply bc<;>intro hc|(refine zA.mono (c3 _) ?_;rintro r h ⟨rfl,rfl⟩)
 ·have e0:decide ((i:Int)>0)=false:=decide_eq_false (by omega);clear ha2 hle;subst hR
  repeat' first|simp only[go_sem,zei, *]|apply bc<;>intro hc|(refine zA.mono (c1 _) ?_;rintro r h ⟨rfl,rfl⟩)|(refine zA.mono (c2 _) ?_;rintro r h ⟨rfl,rfl⟩)|(refine zA.mono (c3 _) ?_;rintro r h ⟨rfl,rfl⟩)
  all_goals
   refine zi (by kernel_rfl) ?_
   repeat' first|simp only[go_sem,zei, *]|apply bc<;>intro hc|(refine zA.mono (c3 _) ?_;rintro r h ⟨rfl,rfl⟩)
theorem zVi (p q c:Bool):zD1 Tryz.prog .neq 4 c (.bool p) (.bool q)=some (.bool (p !=q)):=by cases p<;>cases q<;>simp[zD1,zWJ,zAk,veq,Tryz.underlying4]
def zEi (m:KN) (l:List Cla) (i:Nat) (x:Cla):Int:=
 if(!zBe m x.lic)=true then 7
 else if(decide (x.way<0)||decide (x.way>2)||decide (x.rel<0)||decide (x.rel>2)|| !(decide (x.duty≥0)&&decide (x.duty≤5)))=true then 3
 else if(!(decide ((x.list.length:Int)>0)==(x.duty==4)))=true then 1
 else if(x.list.any fun s=> !zBe m s)=true then 7
 else if(!zHi x.list||(decide ((i:Int)>0)&&decide (zTL (l.getD (i-1) x) x≥0)))=true then 5 else 0
set_option maxHeartbeats 4000000 in
theorem zKZ {l:List Cla} {d:D} (hd:zX 5 (zMC l) d) (hl:l.length≤1048576) (hs:∀x∈l,x.Ok) {i:Nat} (hi:i<l.length) {m:KN} {id:Nat} {g:Heap} (hm:g.at' id=some (.map (knD m))):
  zA Tryz.prog 97 [d, .int .i64 (i:Int), .map id] g fun r h'=>h'=g∧r= .int .i64 (zEi m l i l[i]):=by
 refine zA.pure (by kernel_rfl) fun hok=> ?_;have hlt:id<g.next:=by
  by_cases h:id<g.next
  ·exact h
  ·rw[hok id (by omega)] at hm;cases hm
 obtain⟨o1,o2⟩:=hs _ (List.getElem_mem hi);have hat:=zDr hd hi;have hbel:∀k:Int,below g.next (.int .i64 k):=fun k=>trivial;have hv5:∀a b c e f:D,ze true 5 [a,b,c,e,f] 0=some (.agg [a,b,c,e,f]):=fun a b c e f=>zB rfl (by omega);have hi1:i-1<l.length:=by omega
 have c3:=zL5 o1 o2;have hll:=yA o1;have hne:=zVi;obtain⟨R,hR⟩:∃R,zEi m l i l[i]=R:=⟨_,rfl⟩;rw[hR];unfold zEi at hR;have hpn:∀x,l.getD (i-1) x=l[i-1]'hi1:=fun x=>by simp[hi1]
 have ha2:=zDr hd hi1;have c4:=zGF (l[i-1]'hi1) l[i];rw[hpn] at hR;clear hpn;generalize l[i]=x at *
 have c5:=zPA x.duty;simp only[Cla.cells] at hat ha2 c4;have hst:zW Tryz.prog 143 (.ptr g.next 0) (.agg [.str x.lic, .int .i64 x.way, .int .i64 x.rel, .int .i64 x.duty,x.d]) (g.new g.next (.row [.str [], .int .i64 0, .int .i64 0, .int .i64 0, .nilsl]))=some (g.new g.next (.row [.str x.lic, .int .i64 x.way, .int .i64 x.rel, .int .i64 x.duty,x.d])):=zg zCi (by omega) rfl rfl (by show(true&&(true&&(true&&(true&&(x.d.flat&&true)))))=true;rw[zBd o1];rfl)
 obtain⟨H,hH,hrow,hE',hm'⟩:∃H,g.new g.next (.row [.str x.lic, .int .i64 x.way, .int .i64 x.rel, .int .i64 x.duty,x.d])=H∧H.at' g.next=some (.row [.str x.lic, .int .i64 x.way, .int .i64 x.rel, .int .i64 x.duty,x.d])∧Ext g H∧H.at' id=some (.map (knD m)):=⟨_,rfl,zQ _ _ _,(Ext.refl g).new (Nat.le_refl _) _,by rw[zM (by omega)];exact hm⟩;rw[hH] at hst;have zJ5:=fun k=>zKY hm' k;obtain⟨v,hlk⟩:=zJ5 x.lic;clear hH hm hm' hs;refine zA.of_fn (g:=zUq) mix Tryz.func97 ziZ rfl rfl ?_;simp only[Tryz.f97,gJ];obtain⟨L,hL⟩:∃L,(x.list.any fun s=> !zBe m s)=L:=⟨_,rfl⟩;rw[hL] at hR;subst hR
 repeat' first|simp only[go_sem,zW0, *]|apply bc<;>intro hc|(refine zA.mono (c5 _) ?_;rintro r h ⟨rfl,rfl⟩)
 all_goals
  rename Heap=>H
  refine zD (fun k fr h=>fr 0=d∧fr 1= .int .i64 (i:Int)∧fr 2= .map id∧fr 7= .ptr g.next 0∧fr 62=x.d∧fr 63= .int .i64 (x.list.length:Int)∧fr 64= .int .i64 (k:Int)∧h=H∧∀j (hj:j<x.list.length),j<k→(!zBe m x.list[j])=false) x.list.length (by omega) ?_ ?_ ?_
  ·simp only[go_sem,zW0,true_and,and_true,Int.ofNat_zero];exact fun j hj h0=>by omega
  ·rintro k fr h hlt e1 ew ⟨f0,f1,f2,f7,f62,f63,f64,rfl,hj⟩;have a1:=yz o1 hlt;obtain⟨w,hw⟩:=zJ5 x.list[k];cases hb:zBe m x.list[k] with
   |false=>
    have hL1:L=true:=by rw[←hL];exact zTB (p:=fun s=> !zBe m s) hlt (by simp only[hb];rfl)
    subst hL1;clear hj hL zJ5 o1
    repeat' first|simp only[go_sem,zW0, *]|apply bc<;>intro hc
   |true=>
    have hn:=ql (p:=fun s=> !zBe m s) hlt hj (by simp only[hb];rfl);clear hj hL zJ5 o1
    repeat' first|simp only[go_sem,zW0, *]|apply bc<;>intro hc
    exact hn
  ·rintro fr h e1 ⟨f0,f1,f2,f7,f62,f63,f64,rfl,hj⟩;have hL1:L=false:=by rw[←hL];exact zJA fun j hj' _=>hj j hj' hj'
   subst hL1;clear hj hL zJ5 o1;by_cases h0:0<i
   ·have e0:decide ((i:Int)>0)=true:=decide_eq_true (by omega);have ew:IntKind.i64.wrap ((i:Int)-1)=((i-1:Nat):Int):=by rw[zx (by omega) (by omega)];omega
    generalize l[i-1]=y at *
    repeat' first|simp only[go_sem,zW0, *]|apply bc<;>intro hc
    refine qG Heap.emp [(0, .no,false),(1, .no,false),(2, .no,false),(3, .no,false),(4, .no,false),(5, .no,false),(6, .no,false),(7, .no,false),(13, .no,false),(8, .no,false),(9, .no,false),(10, .no,false),(11, .no,false),(12, .no,false),(14, .no,false),(15, .no,false),(16, .no,false),(17, .no,false)] (by kernel_rfl) (by kernel_rfl) (fun i ob e=>by cases e) ?_
    repeat' first|simp only[go_sem,zW0, *]|apply bc<;>intro hc|(refine zA.mono (c3 _) ?_;rintro r h ⟨rfl,rfl⟩)|(refine zA.mono (c4 _) ?_;rintro r h ⟨rfl,rfl⟩)
   ·have e0:decide ((i:Int)>0)=false:=decide_eq_false (by omega);clear ha2 c4
    repeat' first|simp only[go_sem,zW0, *]|apply bc<;>intro hc
    refine qG Heap.emp [(0, .no,false),(1, .no,false),(2, .no,false),(3, .no,false),(4, .no,false),(5, .no,false),(6, .no,false),(7, .no,false),(13, .no,false),(8, .no,false),(9, .no,false),(10, .no,false),(11, .no,false),(12, .no,false),(14, .no,false),(15, .no,false),(16, .no,false),(17, .no,false)] (by kernel_rfl) (by kernel_rfl) (fun i ob e=>by cases e) ?_
    repeat' first|simp only[go_sem,zW0, *]|apply bc<;>intro hc|(refine zA.mono (c3 _) ?_;rintro r h ⟨rfl,rfl⟩)
def zFz (m:KN) (l:List Apt) (i:Nat) (x:Apt):Int:=
 if([x.a,x.b].any fun s=> !zBe m s)=true then 7
 else if(!zIB x.a x.b||(decide ((i:Int)>0)&&decide (zTM (l.getD (i-1) x) x≥0)))=true then 5 else 0
theorem zjC (a b:List UInt8) (nid:Nat) (h:Heap):zS Tryz.prog false nid 31 2 [(0, .str a),(1, .str b)] h=some (.sl 1 (zt [a,b]) .full,h):=by
 simp[zS,zd,zCA,yu,zBW,D.notTuple,D.cells,yT,wl,y8,zt]
set_option maxHeartbeats 4000000 in
theorem zNb {l:List Apt} {d:D} (hd:zX 2 (zZq l) d) (hl:l.length≤1048576) {i:Nat} (hi:i<l.length) {m:KN} {id:Nat} {g:Heap} (hm:g.at' id=some (.map (knD m))):
  zA Tryz.prog 98 [d, .int .i64 (i:Int), .map id] g fun r h'=>h'=g∧r= .int .i64 (zFz m l i l[i]):=by
 refine zA.pure (by kernel_rfl) fun hok=> ?_;have hlt:id<g.next:=by
  by_cases h:id<g.next
  ·exact h
  ·rw[hok id (by omega)] at hm;cases hm
 have hat:=zHl hd hi;have hbel:∀k:Int,below g.next (.int .i64 k):=fun k=>trivial;have hv2:∀a b:D,ze true 2 [a,b] 0=some (.agg [a,b]):=fun a b=>zB rfl (by omega);have hi1:i-1<l.length:=by omega
 obtain⟨R,hR⟩:∃R,zFz m l i l[i]=R:=⟨_,rfl⟩;rw[hR];unfold zFz at hR;have hpn:∀x,l.getD (i-1) x=l[i-1]'hi1:=fun x=>by simp[hi1]
 have ha2:=zHl hd hi1;have c4:=zIU (l[i-1]'hi1) l[i];rw[hpn] at hR;clear hpn;generalize l[i]=x at *
 simp only[Apt.cells] at hat ha2 c4;have hst:zW Tryz.prog 147 (.ptr g.next 0) (.agg [.str x.a, .str x.b]) (g.new g.next (.row [.str [], .str []]))=some (g.new g.next (.row [.str x.a, .str x.b])):=zg zKF (by omega) rfl rfl rfl;obtain⟨H,hH,hrow,hE',hm'⟩:∃H,g.new g.next (.row [.str x.a, .str x.b])=H∧H.at' g.next=some (.row [.str x.a, .str x.b])∧Ext g H∧H.at' id=some (.map (knD m)):=⟨_,rfl,zQ _ _ _,(Ext.refl g).new (Nat.le_refl _) _,by rw[zM (by omega)];exact hm⟩;rw[hH] at hst;have zJ5:=fun k=>zKY hm' k;have hb2:=zjC x.a x.b;obtain⟨lst,hlst⟩:∃lst,[x.a,x.b]=lst:=⟨_,rfl⟩
 have hll:lst.length=2:=by rw[←hlst];rfl
 have o1:zX 1 (zt lst) (.sl 1 (zt lst) .full):=zX.mk _;have hlen:=yA o1;rw[hll] at hlen;rw[hlst] at hb2 hR;clear hH hm hm';refine zA.of_fn (g:=zZF) mix Tryz.func98 zjg rfl rfl ?_;simp only[Tryz.f98,gJ];obtain⟨L,hL⟩:∃L,(lst.any fun s=> !zBe m s)=L:=⟨_,rfl⟩;rw[hL] at hR;subst hR;clear hlst
 repeat' first|simp only[go_sem,zXA, *]|apply bc<;>intro hc
 refine zD (fun k fr h=>fr 0=d∧fr 1= .int .i64 (i:Int)∧fr 2= .map id∧fr 7= .ptr g.next 0∧fr 20= .sl 1 (zt lst) .full∧fr 21= .int .i64 ((2:Nat):Int)∧fr 22= .int .i64 (k:Int)∧h=H∧∀j (hj:j<lst.length),j<k→(!zBe m lst[j])=false) 2 (by omega) ?_ ?_ ?_
 ·simp only[go_sem,zXA,true_and,and_true,Int.ofNat_zero];exact fun j hj h0=>by omega
 ·rintro k fr h hlt e1 ew ⟨f0,f1,f2,f7,f20,f21,f22,rfl,hj⟩;have hk:k<lst.length:=by omega
  have a1:=yz o1 hk;obtain⟨w,hw⟩:=zJ5 lst[k];cases hb:zBe m lst[k] with
  |false=>
   have hL1:L=true:=by rw[←hL];exact zTB (p:=fun s=> !zBe m s) hk (by simp only[hb];rfl)
   subst hL1;clear hj hL zJ5 o1 hll
   repeat' first|simp only[go_sem,zXA, *]|apply bc<;>intro hc
  |true=>
   have hn:=ql (p:=fun s=> !zBe m s) hk hj (by simp only[hb];rfl);clear hj hL zJ5 o1 hll
   repeat' first|simp only[go_sem,zXA, *]|apply bc<;>intro hc
   exact hn
 ·rintro fr h e1 ⟨f0,f1,f2,f7,f20,f21,f22,rfl,hj⟩;have hL1:L=false:=by rw[←hL];exact zJA fun j hj' _=>hj j hj' (by omega)
  subst hL1;clear hj hL zJ5 o1 hll;by_cases h0:0<i
  ·have e0:decide ((i:Int)>0)=true:=decide_eq_true (by omega);have ew:IntKind.i64.wrap ((i:Int)-1)=((i-1:Nat):Int):=by rw[zx (by omega) (by omega)];omega
   generalize l[i-1]=y at *
   repeat' first|simp only[go_sem,zXA, *]|apply bc<;>intro hc
   refine qG Heap.emp [(0, .no,false),(1, .no,false),(2, .no,false),(3, .no,false),(4, .no,false),(5, .no,false),(6, .no,false),(7, .no,false),(8, .no,false),(14, .no,false),(9, .no,false),(10, .no,false),(11, .no,false),(12, .no,false),(13, .no,false),(15, .no,false),(16, .no,false),(17, .no,false),(18, .no,false)] (by kernel_rfl) (by kernel_rfl) (fun i ob e=>by cases e) ?_
   repeat' first|simp only[go_sem,zXA, *]|apply bc<;>intro hc|(refine zA.mono (c4 _) ?_;rintro r h ⟨rfl,rfl⟩)
  ·have e0:decide ((i:Int)>0)=false:=decide_eq_false (by omega);clear ha2 c4
   repeat' first|simp only[go_sem,zXA, *]|apply bc<;>intro hc
   refine qG Heap.emp [(0, .no,false),(1, .no,false),(2, .no,false),(3, .no,false),(4, .no,false),(5, .no,false),(6, .no,false),(7, .no,false),(8, .no,false),(14, .no,false),(9, .no,false),(10, .no,false),(11, .no,false),(12, .no,false),(13, .no,false),(15, .no,false),(16, .no,false),(17, .no,false),(18, .no,false)] (by kernel_rfl) (by kernel_rfl) (fun i ob e=>by cases e) ?_
   repeat' first|simp only[go_sem,zXA, *]|apply bc<;>intro hc
structure Cat where
 ls:List Lic
 es:List Exc
 cs:List Cla
 ps:List Apt
structure Cat.Sm (c:Cat):Prop where
 ls:c.ls.length≤1048576∧∀x∈c.ls,x.Sm
 es:c.es.length≤1048576∧∀x∈c.es,x.Ok
 cs:c.cs.length≤1048576∧∀x∈c.cs,x.Ok
 ps:c.ps.length≤1048576
def wR (c:Cat) (d:D):Prop:=∃a b e p,d= .agg [a,b,e,p]∧zX 4 (zCS c.ls) a∧zX 3 (zZp c.es) b∧zX 5 (zMC c.cs) e∧zX 2 (zZq c.ps) p
def zEy (f:Nat→Int):Nat→Int
 |0=>0
 |n+1=>if(zEy f n==0)=true then f n else zEy f n
theorem wW {f:Nat→Int} :∀ {n:Nat},(∀i,i<n→f i=0)→zEy f n=0
 |0,_=>rfl
 |n+1,h=>by
  have ih:=wW (n:=n) fun i hi=>h i (by omega);simp[zEy,ih,h n (by omega)]
theorem zCI {f:Nat→Int} :∀ {n i:Nat},i<n→(∀j,j<i→f j=0)→f i≠0→zEy f n=f i
 |n+1,i,hi,hj,h0=>by
  rcases Nat.lt_succ_iff_lt_or_eq.1 hi with q|rfl
  ·have ih:=zCI q hj h0;simp only[zEy,ih];rw[if_neg (by simpa using h0)]
  ·simp[zEy,wW hj]
theorem wX {f:Nat→Int} {i:Nat} (hj:∀j,j<i→f j=0) (h:f i=0):∀j,j<i+1→f j=0:=fun j hji=>by
 rcases Nat.lt_succ_iff_lt_or_eq.1 hji with q|rfl
 ·exact hj j q
 ·exact h
def atE {α:Type} (f:Nat→α→Int) (l:List α) (i:Nat):Int:=match l[i]? with
 |some x=>f i x
 |none=>0
theorem zMD {α:Type} {f:Nat→α→Int} {l:List α} {i:Nat} (h:i<l.length):atE f l i=f i l[i]:=by simp[atE,h]
def Cat.m (c:Cat):KN:=zMB c.ls c.ls.length
def Cat.big (c:Cat):Bool:=decide ((c.ls.length:Int)>32)||decide ((c.es.length:Int)>16)||decide ((c.cs.length:Int)>128)||decide ((c.ps.length:Int)>64)
def Cat.e1 (c:Cat):Int:=zEy (atE (zFx c.ls) c.ls) c.ls.length
def Cat.e2 (c:Cat):Int:=zEy (atE (zFy c.m c.es) c.es) c.es.length
def Cat.e3 (c:Cat):Int:=zEy (atE (zEi c.m c.cs) c.cs) c.cs.length
def Cat.e4 (c:Cat):Int:=zEy (atE (zFz c.m c.ps) c.ps) c.ps.length
def wk (c:Cat):Int:=
 if c.big=true then 10
 else if(!(c.e1==0))=true then c.e1
 else if(!(c.e2==0))=true then c.e2
 else if(!(c.e3==0))=true then c.e3
 else c.e4
set_option maxHeartbeats 4000000 in
theorem zFU {c:Cat} {d:D} (hc:wR c d) (hs:c.Sm) (g:Heap):zA Tryz.prog 42 [d] g fun r h'=>h'=g∧r= .int .i64 (wk c):=by
 refine zA.pure (by kernel_rfl) fun hok=> ?_;obtain⟨a,b,e,p,rfl,ha,hb,he,hp⟩:=hc;have la:=zAV ha;have lb:=zEh hb;have le:=zDF he;have lp:=zGf hp;have s1:=hs.ls.1;have s2:=hs.es.1;have s3:=hs.cs.1;have s4:=hs.ps;have hbel:∀k:Int,below g.next (.int .i64 k):=fun k=>trivial;have hv4:∀a b c e:D,ze true 4 [a,b,c,e] 0=some (.agg [a,b,c,e]):=fun a b c e=>zB rfl (by omega);have hE0:Ext g g:=Ext.refl g;refine zA.of_fn (g:=zUz) mix Tryz.func42 zii rfl rfl ?_;simp only[Tryz.f42,gJ];cases hbig:c.big with
 |true=>
  have hR:wk c=10:=if_pos hbig;unfold Cat.big at hbig
  repeat' first|simp only[go_sem,zKK, *]|apply bc<;>intro hc
  all_goals(simp only[decide_true,decide_false,bne,Bool.or_false,Bool.or_true,Bool.false_or,Bool.true_or,Bool.or_self,Bool.false_and,Bool.true_and,Bool.and_false,Bool.and_true,Bool.and_self,Bool.not_true,Bool.not_false,Bool.not_not,Bool.true_eq_false,Bool.false_eq_true, *] at hbig;done)
 |false=>
 have hR:wk c=if(!(c.e1==0))=true then c.e1 else if(!(c.e2==0))=true then c.e2 else if(!(c.e3==0))=true then c.e3 else c.e4:=if_neg (by rw[hbig];exact Bool.false_ne_true)
 obtain⟨R,eR⟩:∃R,wk c=R:=⟨_,rfl⟩;rw[eR] at hR⊢;have hR':=hR.symm;clear hR;have hR:=hR';clear hR';clear eR;unfold Cat.big at hbig;simp only[Bool.or_eq_false_iff] at hbig;obtain⟨⟨⟨q1,q2⟩,q3⟩,q4⟩:=hbig
 repeat' first|simp only[go_sem,zKK, *]|apply bc<;>intro hc
 refine zD (fun k fr h=>fr 1= .iptr [a,b,e,p] 0∧fr 36= .int .i64 (c.ls.length:Int)∧fr 37= .int .i64 (k:Int)∧h=g∧∀j,j<k→atE (zFx c.ls) c.ls j=0) c.ls.length (by omega) ?_ ?_ ?_
 ·simp only[go_sem,zKK,true_and,and_true,Int.ofNat_zero];exact fun j hj=>absurd hj (Nat.not_lt_zero _)
 ·rintro k fr h hlt ec ew ⟨f1,fl,fk,rfl,hj⟩;have hck:=zIS ha (by omega) hs.ls.2 hlt;have hat:=zMD (f:=zFx c.ls) hlt;generalize zFx c.ls k c.ls[k]=v at *
  cases hv:(v==0) with
  |false=>
   have hx:zEy (atE (zFx c.ls) c.ls) c.ls.length=v:=by rw[zCI hlt hj (by rw[hat];simpa using hv),hat]
   have hx:c.e1=v:=hx;rw[hx,if_pos (by rw[hv];rfl)] at hR;subst hR;clear hj hat hx
   repeat' first|simp only[go_sem,zKK, *]|apply bc<;>intro hc|(refine zA.mono (hck _) ?_;rintro r h ⟨rfl,rfl⟩)
  |true=>
   have hn:=wX hj (by rw[hat];simpa using hv);clear hj hat
   repeat' first|simp only[go_sem,zKK, *]|apply bc<;>intro hc|(refine zA.mono (hck _) ?_;rintro r h ⟨rfl,rfl⟩)
   exact hn
 rintro fr h ec ⟨f1,fl,fk,rfl,hj⟩;have hx:c.e1=0:=wW hj;rw[hx,if_neg (by decide)] at hR;clear hj hx q1
 rename Heap=>g
 simp only[go_sem,zKK,f1,fl,fk,ec];refine(zJH ha (by omega) _).mono ?_;rintro r H ⟨id,rfl,i1,i2,hm,hE⟩
 repeat' first|simp only[go_sem,zKK, *]|apply bc<;>intro hc
 refine zD (fun k fr h=>fr 1= .iptr [a,b,e,p] 0∧fr 5= .map id∧fr 52= .int .i64 (c.es.length:Int)∧fr 53= .int .i64 (k:Int)∧h=H∧∀j,j<k→atE (zFy c.m c.es) c.es j=0) c.es.length (by omega) ?_ ?_ ?_
 ·simp only[go_sem,zKK,true_and,and_true,Int.ofNat_zero];exact⟨f1,fun j hj=>absurd hj (Nat.not_lt_zero _)⟩
 ·rintro k fr h hlt ec ew ⟨f1,f5,fl,fk,rfl,hj⟩;have hck:=zGG hb (by omega) hs.es.2 hlt (m:=c.m) hm;have hat:=zMD (f:=zFy c.m c.es) hlt;generalize zFy c.m c.es k c.es[k]=v at *
  cases hv:(v==0) with
  |false=>
   have hx:zEy (atE (zFy c.m c.es) c.es) c.es.length=v:=by rw[zCI hlt hj (by rw[hat];simpa using hv),hat]
   have hx:c.e2=v:=hx;rw[hx,if_pos (by rw[hv];rfl)] at hR;subst hR;clear hj hat hx
   repeat' first|simp only[go_sem,zKK, *]|apply bc<;>intro hc|(refine zA.mono hck ?_;rintro r h ⟨rfl,rfl⟩)
  |true=>
   have hn:=wX hj (by rw[hat];simpa using hv);clear hj hat
   repeat' first|simp only[go_sem,zKK, *]|apply bc<;>intro hc|(refine zA.mono hck ?_;rintro r h ⟨rfl,rfl⟩)
   exact hn
 rintro fr h ec ⟨f1,f5,fl,fk,rfl,hj⟩;have hx:c.e2=0:=wW hj;rw[hx,if_neg (by decide)] at hR;clear hj hx
 rename Heap=>H
 simp only[go_sem,zKK,f1,f5,fl,fk,ec,le,lp];refine zD (fun k fr h=>fr 1= .iptr [a,b,e,p] 0∧fr 5= .map id∧fr 67= .int .i64 (c.cs.length:Int)∧fr 68= .int .i64 (k:Int)∧h=H∧∀j,j<k→atE (zEi c.m c.cs) c.cs j=0) c.cs.length (by omega) ?_ ?_ ?_
 ·simp only[go_sem,zKK,true_and,and_true,Int.ofNat_zero];exact⟨f1,f5,fun j hj=>absurd hj (Nat.not_lt_zero _)⟩
 ·rintro k fr h hlt ec ew ⟨f1,f5,fl,fk,rfl,hj⟩;have hck:=zKZ he (by omega) hs.cs.2 hlt (m:=c.m) hm;have hat:=zMD (f:=zEi c.m c.cs) hlt;generalize zEi c.m c.cs k c.cs[k]=v at *
  cases hv:(v==0) with
  |false=>
   have hx:zEy (atE (zEi c.m c.cs) c.cs) c.cs.length=v:=by rw[zCI hlt hj (by rw[hat];simpa using hv),hat]
   have hx:c.e3=v:=hx;rw[hx,if_pos (by rw[hv];rfl)] at hR;subst hR;clear hj hat hx
   repeat' first|simp only[go_sem,zKK, *]|apply bc<;>intro hc|(refine zA.mono hck ?_;rintro r h ⟨rfl,rfl⟩)
  |true=>
   have hn:=wX hj (by rw[hat];simpa using hv);clear hj hat
   repeat' first|simp only[go_sem,zKK, *]|apply bc<;>intro hc|(refine zA.mono hck ?_;rintro r h ⟨rfl,rfl⟩)
   exact hn
 rintro fr h ec ⟨f1,f5,fl,fk,rfl,hj⟩;have hx:c.e3=0:=wW hj;rw[hx,if_neg (by decide)] at hR;clear hj hx
 rename Heap=>H
 simp only[go_sem,zKK,f1,f5,fl,fk,ec,le,lp];refine zD (fun k fr h=>fr 1= .iptr [a,b,e,p] 0∧fr 5= .map id∧fr 82= .int .i64 (c.ps.length:Int)∧fr 83= .int .i64 (k:Int)∧h=H∧∀j,j<k→atE (zFz c.m c.ps) c.ps j=0) c.ps.length (by omega) ?_ ?_ ?_
 ·simp only[go_sem,zKK,true_and,and_true,Int.ofNat_zero];exact⟨f1,f5,fun j hj=>absurd hj (Nat.not_lt_zero _)⟩
 ·rintro k fr h hlt ec ew ⟨f1,f5,fl,fk,rfl,hj⟩;have hck:=zNb hp (by omega) hlt (m:=c.m) hm;have hat:=zMD (f:=zFz c.m c.ps) hlt;generalize zFz c.m c.ps k c.ps[k]=v at *
  cases hv:(v==0) with
  |false=>
   have hx:zEy (atE (zFz c.m c.ps) c.ps) c.ps.length=v:=by rw[zCI hlt hj (by rw[hat];simpa using hv),hat]
   have hx:c.e4=v:=hx;rw[hx] at hR;subst hR;clear hj hat hx
   repeat' first|simp only[go_sem,zKK, *]|apply bc<;>intro hc|(refine zA.mono hck ?_;rintro r h ⟨rfl,rfl⟩)
  |true=>
   have hn:=wX hj (by rw[hat];simpa using hv);clear hj hat
   repeat' first|simp only[go_sem,zKK, *]|apply bc<;>intro hc|(refine zA.mono hck ?_;rintro r h ⟨rfl,rfl⟩)
   exact hn
 rintro fr h ec ⟨f1,f5,fl,fk,rfl,hj⟩;have hx:c.e4=0:=wW hj;rw[hx] at hR;subst hR;clear hj hx
 repeat' first|simp only[go_sem,zKK, *]|apply bc<;>intro hc
theorem zKa {l:List Lic} {k:List UInt8} {v:Int} :∀ {i:Nat},zDJ k (zMB l i)=some v→∃j:Nat,j<i∧v=(j:Int)∧(l.map Lic.name).getD j []=k
 |0,h=>by cases h
 |i+1,h=>by
  rw[zMB,zL9] at h;split at h
  ·rename_i q;have q:k=(l.map Lic.name).getD i []:=by simpa using q
   exact⟨i,by omega,(Option.some.inj h).symm,q.symm⟩
  ·obtain⟨j,h1,h2,h3⟩:=zKa h;exact⟨j,by omega,h2,h3⟩
def w7 (c:Cat) (k:List UInt8):Option Lic:=if(!(wk c==0))=true then none else match zDJ k c.m with
 |some v=>c.ls[v.toNat]?
 |none=>none
def zBx (c:Cat) (k:List UInt8):D:=match w7 c k with
 |some x=> .tuple [.agg [.str x.name, .str x.fam, .int .i64 x.ver, .str x.text], .bool true]
 |none=> .tuple [.agg zEg, .bool false]
theorem zME {c:Cat} {d:D} (hc:wR c d) (hs:c.Sm) (k:List UInt8) (g:Heap):zA Tryz.prog 14 [d, .str k] g fun r h'=>h'=g∧r=zBx c k:=by
 refine zA.pure (by kernel_rfl) fun hok=> ?_;have hck:=zFU hc hs;obtain⟨a,b,e,p,rfl,ha,hb,he,hp⟩:=hc;have s1:=hs.ls.1;have hix:=fun h=>zJH (e1:=b) (e2:=e) (e3:=p) ha s1 h;have hv4:∀a b c e:D,ze true 4 [a,b,c,e] 0=some (.agg [a,b,c,e]):=fun a b c e=>zB rfl (by omega);have hb0:yn Tryz.prog 56 []=some (.agg zEg):=by simp[yn,zI0,zKC,wl,D.notTuple,D.cells]
 have hst:∀ (x:Lic) (H:Heap),H.at' g.next=some (.row zEg)→zW Tryz.prog 56 (.ptr g.next 0) (.agg [.str x.name, .str x.fam, .int .i64 x.ver, .str x.text]) H=some (H.set g.next (.row [.str x.name, .str x.fam, .int .i64 x.ver, .str x.text])):=fun x H h=>qQ h zDS rfl (by simp) rfl;have hst0:∀H:Heap,H.at' g.next=some (.row zEg)→zW Tryz.prog 56 (.ptr g.next 0) (.agg zEg) H=some (H.set g.next (.row zEg)):=fun H h=>hst ⟨[],[],0,[]⟩ H h
 obtain⟨G,hG,r0,E0,n0⟩:∃G,g.new g.next (.row zEg)=G∧G.at' g.next=some (.row zEg)∧Ext g G∧g.next<G.next:=⟨_,rfl,zQ _ _ _,(Ext.refl g).new (Nat.le_refl _) _,by rw[zK];omega⟩;have z0:=hst0 G r0;have E1:=E0.set (id:=g.next) (Nat.le_refl _) (.row zEg);have hbel:∀ (x:Lic) (b:Bool),below g.next (.tuple [.agg [.str x.name, .str x.fam, .int .i64 x.ver, .str x.text], .bool b]):=fun x b=>by simp[below,yB]
 have hbz:below g.next (.tuple [.agg zEg, .bool false]):=hbel ⟨[],[],0,[]⟩ false;refine zA.of_fn (g:=zU7) mix Tryz.func14 zix rfl rfl ?_;simp only[Tryz.f14,gJ];cases q0:(wk c==0) with
 |false=>
  have hR:zBx c k= .tuple [.agg zEg, .bool false]:=by unfold zBx w7;rw[if_pos (by rw[q0];rfl)]
  clear hix hst hst0
  repeat' first|simp only[go_sem,zen,zF, *]|apply bc<;>intro hc|(refine zA.mono (hck _) ?_;rintro r h ⟨rfl,rfl⟩)
 |true=>
 have hf:w7 c k=(match zDJ k c.m with
  |some v=>c.ls[v.toNat]?
  |none=>none):=if_neg (by rw[q0];decide)
 clear hbz
 repeat' first|simp only[go_sem,zen, *]|apply bc<;>intro hc|(refine zA.mono (hck _) ?_;rintro r h ⟨rfl,rfl⟩)
 rename Heap=>G
 refine(hix _).mono ?_;rintro r H ⟨id,rfl,i1,i2,hm,hE⟩;have hrow:H.at' g.next=some (.row zEg):=by rw[hE.2 _ n0];exact r0
 have EH:=E0.trans hE;obtain⟨v,hlk⟩:=zKY hm k;have hbz:below g.next (.tuple [.agg zEg, .bool false]):=hbel ⟨[],[],0,[]⟩ false;have E2:=EH.set (id:=g.next) (Nat.le_refl _) (.row zEg);have z2:=hst0 H hrow;cases hk:zDJ k (zMB c.ls c.ls.length) with
 |none=>
  have hR:zBx c k= .tuple [.agg zEg, .bool false]:=by
   unfold zBx;rw[hf];unfold Cat.m;rw[hk]
  have hh:zBe (zMB c.ls c.ls.length) k=false:=by unfold zBe;rw[hk];rfl
  clear hf hst hst0 hix hck hE EH E1 z0 r0 E0
  repeat' first|simp only[go_sem,zen,zF, *]|apply bc<;>intro hc
 |some w=>
  obtain⟨j,hj,rfl,hjn⟩:=zKa hk;have hlk0:=zJG (P:=Tryz.prog) (t:=103) hm zKD zIy zKA k true;rw[hk] at hlk0;have hlk2:wB Tryz.prog 103 (.map id) (.str k) true H=some (.tuple [.int .i64 (j:Int), .bool true]):=hlk0;clear hlk0;have hat:=wx ha hj;simp only[Lic.cells] at hat;have hR:zBx c k= .tuple [.agg [.str c.ls[j].name, .str c.ls[j].fam, .int .i64 c.ls[j].ver, .str c.ls[j].text], .bool true]:=by
   unfold zBx;rw[hf];unfold Cat.m;rw[hk];simp only[Int.toNat_natCast,List.getElem?_eq_getElem hj]
  have s2:=hst c.ls[j] H hrow;have E3:=EH.set (id:=g.next) (Nat.le_refl _) (.row [.str c.ls[j].name, .str c.ls[j].fam, .int .i64 c.ls[j].ver, .str c.ls[j].text]);clear hf hst hst0 hix hck hE EH E1 z0 r0 E0 hlk z2 E2
  repeat' first|simp only[go_sem,zen,zF, *]|apply bc<;>intro hc
def zKb (c:Cat) (lic exc:List UInt8):Option Exc:=c.es.find? fun x=>x.name==exc&&x.lic==lic
def zEj (c:Cat) (lic exc:List UInt8):D:=
 if(w7 c lic).isSome=false then .tuple [.nilsl, .bool false]
 else if(exc== [])=true then .tuple [.nilsl, .bool true]
 else match zKb c lic exc with
  |some x=> .tuple [x.d, .bool true]
  |none=> .tuple [.nilsl, .bool false]
theorem zZr {α:Type} {p:α→Bool} {l:List α} {i:Nat} (hi:i<l.length) (hj:∀j (hj:j<l.length),j<i→p l[j]=false) (hp:p l[i]=true):l.find? p=some l[i]:=by
 rw[List.find?_eq_some_iff_getElem];exact⟨hp,i,hi,rfl,fun j hji=>by rw[hj j (by omega) hji];rfl⟩
theorem zTN {α:Type} {p:α→Bool} {l:List α} (hj:∀j (hj:j<l.length),p l[j]=false):l.find? p=none:=by
 rw[List.find?_eq_none];intro x hx;obtain⟨j,hjl,rfl⟩:=List.mem_iff_getElem.1 hx;rw[hj j hjl];exact Bool.false_ne_true
set_option maxHeartbeats 2000000 in
theorem zTO {c:Cat} {d:D} (hc:wR c d) (hs:c.Sm) (lic exc:List UInt8) (g:Heap):zA Tryz.prog 139 [d, .agg [.str lic, .str exc]] g fun r h'=>Ext g h'∧r=zEj c lic exc:=by
 have hfi:=zME hc hs lic;obtain⟨a,b,e,p,rfl,ha,hb,he,hp⟩:=hc;have s2:=hs.es.1;have lb:=zEh hb;have hv4:∀a b c e:D,ze true 4 [a,b,c,e] 0=some (.agg [a,b,c,e]):=fun a b c e=>zB rfl (by omega);have hv3:∀a b c:D,ze true 3 [a,b,c] 0=some (.agg [a,b,c]):=fun a b c=>zB rfl (by omega);have hstL:∀ (x:Lic) (h:Heap),zW Tryz.prog 56 (.ptr h.next 0) (.agg [.str x.name, .str x.fam, .int .i64 x.ver, .str x.text]) (h.new h.next (.row zEg))=some (h.new h.next (.row [.str x.name, .str x.fam, .int .i64 x.ver, .str x.text])):=fun x h=>zCT x h h.next
 have hE0:∀o,Ext g (g.new g.next o):=fun o=>(Ext.refl g).new (Nat.le_refl _) o;refine zA.of_fn (g:=zOu) mix Tryz.func139 zdM rfl rfl ?_;simp only[Tryz.f139,gJ];cases hf:w7 c lic with
 |none=>
  have hfd:zBx c lic= .tuple [.agg zEg, .bool false]:=by unfold zBx;rw[hf]
  have hR:zEj c lic exc= .tuple [.nilsl, .bool false]:=by unfold zEj;rw[hf];rfl
  have hst:=fun h=>hstL ⟨[],[],0,[]⟩ h;clear hstL
  repeat' first|simp only[go_sem,zLi, *]|apply bc<;>intro hc|(refine zA.mono (hfi _) ?_;rintro r h ⟨rfl,rfl⟩)
 |some x=>
  have hfd:zBx c lic= .tuple [.agg [.str x.name, .str x.fam, .int .i64 x.ver, .str x.text], .bool true]:=by unfold zBx;rw[hf]
  have hst:=fun h=>hstL x h;clear hstL;cases q1:(exc== []) with
  |true=>
   have hR:zEj c lic exc= .tuple [.nilsl, .bool true]:=by unfold zEj;rw[hf,q1];rfl
   repeat' first|simp only[go_sem,zLi, *]|apply bc<;>intro hc|(refine zA.mono (hfi _) ?_;rintro r h ⟨rfl,rfl⟩)
  |false=>
  have hR0:zEj c lic exc=match zKb c lic exc with
   |some x=> .tuple [x.d, .bool true]
   |none=> .tuple [.nilsl, .bool false]:=by unfold zEj;rw[hf,q1];rfl
  obtain⟨R,eR⟩:∃R,zEj c lic exc=R:=⟨_,rfl⟩;rw[eR] at hR0⊢;have hR2:=hR0.symm;clear eR hR0
  repeat' first|simp only[go_sem,zLi, *]|apply bc<;>intro hc|(refine zA.mono (hfi _) ?_;rintro r h ⟨rfl,rfl⟩)
  rename Heap=>G
  obtain⟨H,hH,hE⟩:∃H,G.new G.next (.row [.str x.name, .str x.fam, .int .i64 x.ver, .str x.text])=H∧Ext G H:=⟨_,rfl,hE0 _⟩;rw[hH];clear hH hst hE0 hfi hfd;refine zD (fun k fr h=>fr 3= .iptr [.str lic, .str exc] 0∧fr 23=b∧fr 24= .int .i64 (c.es.length:Int)∧fr 25= .int .i64 (k:Int)∧Ext G h∧∀j (hj:j<c.es.length),j<k→(c.es[j].name==exc&&c.es[j].lic==lic)=false) c.es.length (by omega) ?_ ?_ ?_
  ·simp only[go_sem,zLi,true_and,and_true,Int.ofNat_zero];exact⟨hE,fun j hj h0=>absurd h0 (Nat.not_lt_zero _)⟩
  ·clear hE;rintro k fr h hlt ec ew ⟨f3,f23,f24,f25,hE,hj⟩;have a1:=zFT hb hlt;have ho:=(hs.es.2 _ (List.getElem_mem hlt)).1;have hnext:=fun q=>ql (p:=fun y:Exc=>y.name==exc&&y.lic==lic) (l:=c.es) hlt hj q;have hfound:=fun q=>zZr (p:=fun y:Exc=>y.name==exc&&y.lic==lic) (l:=c.es) hlt hj q;have hR1:zKb c lic exc=some c.es[k]→ .tuple [c.es[k].d, .bool true]=R:=fun q=>by rw[←hR2,q]
   generalize c.es[k]=y at *
   simp only[Exc.cells] at a1;have hst:zW Tryz.prog 139 (.ptr h.next 0) (.agg [.str y.name, .str y.lic,y.d]) (h.new h.next (.row [.str [], .str [], .nilsl]))=some (h.new h.next (.row [.str y.name, .str y.lic,y.d])):=zg zHK (by omega) rfl rfl (by show(true&&(true&&(y.d.flat&&true)))=true;rw[zBd ho];rfl);have hE2:=hE.new hE.1 (.row [.str y.name, .str y.lic,y.d]);clear hj hR2 ho;cases b1:(y.name==exc) with
   |false=>
    have hn:=hnext (by simp only[b1,Bool.false_and]);clear hnext hfound hR1
    repeat' first|simp only[go_sem,zLi,zQ, *]|apply bc<;>intro hc
    exact hn
   |true=>
    cases b2:(y.lic==lic) with
    |false=>
     have hn:=hnext (by simp only[b1,b2,Bool.and_false]);clear hnext hfound hR1
     repeat' first|simp only[go_sem,zLi,zQ, *]|apply bc<;>intro hc
     exact hn
    |true=>
     have hn:=hR1 (hfound (by simp only[b1,b2,Bool.and_self]));clear hnext hfound hR1
     repeat' first|simp only[go_sem,zLi,zQ, *]|apply bc<;>intro hc
  ·clear hE;rintro fr h ec ⟨f3,f23,f24,f25,hE,hj⟩;have hn:zKb c lic exc=none:=zTN fun j hj'=>hj j hj' hj';rw[hn] at hR2;have hR3: .tuple [.nilsl, .bool false]=R:=hR2;clear hj hn hR2
   repeat' first|simp only[go_sem,zLi, *]|apply bc<;>intro hc
def zIV (c:Cat) (lic exc:List UInt8):Bool:=(w7 c lic).isSome&&((exc== [])||(zKb c lic exc).isSome)
theorem zNc (c:Cat) (lic exc:List UInt8):∃q,zEj c lic exc= .tuple [q, .bool (zIV c lic exc)]:=by
 unfold zEj zIV;cases w7 c lic with
 |none=>exact⟨_,rfl⟩
 |some x=>
  cases h:(exc== []) with
  |true=>exact⟨_,rfl⟩
  |false=>
   cases zKb c lic exc with
   |none=>exact⟨_,rfl⟩
   |some y=>exact⟨_,rfl⟩
theorem zZs {c:Cat} {d:D} (hc:wR c d) (hs:c.Sm) (lic exc:List UInt8) (g:Heap):zA Tryz.prog 227 [d, .agg [.str lic, .str exc]] g fun r h'=>h'=g∧r= .bool (zIV c lic exc):=by
 refine zA.pure (by kernel_rfl) fun hok=> ?_;have hli:=zTO hc hs lic exc;obtain⟨q,hq⟩:=zNc c lic exc;rw[hq] at hli;obtain⟨a,b,e,p,rfl,ha,hb,he,hp⟩:=hc;have hv4:∀a b c e:D,ze true 4 [a,b,c,e] 0=some (.agg [a,b,c,e]):=fun a b c e=>zB rfl (by omega);have hv2:∀a b:D,ze true 2 [a,b] 0=some (.agg [a,b]):=fun a b=>zB rfl (by omega);have hbel:∀b:Bool,below g.next (.bool b):=fun b=>trivial;refine zA.of_fn (g:=zOg) mix Tryz.func227 zck rfl rfl ?_;simp only[Tryz.f227,gJ]
 repeat' first|simp only[go_sem,zcj, *]|apply bc<;>intro hc
 refine(hli _).mono ?_;rintro r h ⟨hE,rfl⟩
 repeat' first|simp only[go_sem,zcj, *]|apply bc<;>intro hc
theorem zVj {l:List Int} {d:D} (hd:zX 1 (zKO l) d) (hl:l.length≤1048576) (n:Int) (g:Heap):
  zA Tryz.prog 180 [d, .int .i64 n] g fun r h'=>h'=g∧r= .int .i64 (zIT (fun x=>x==n) l):=by
 have hlen:=zDE hd;obtain⟨p,hp⟩:∃p:Int→Bool,(fun x=>x==n)=p:=⟨_,rfl⟩;have hpe:∀x,p x=(n==x):=fun x=>by rw[←hp];exact Bool.beq_comm
 rw[hp];clear hp;refine zA.of_fn (g:=zOl) mix Tryz.func180 zcv rfl rfl ?_;simp only[Tryz.f180,gJ]
 repeat' first|simp only[go_sem,zSM, *]|apply bc<;>intro hc
 refine zD (fun i fr h=>fr 1= .int .i64 n∧fr 0=d∧fr 6=d∧fr 7= .int .i64 (l.length:Int)∧fr 8= .int .i64 (i:Int)∧h=g∧∀j (hj:j<l.length),j<i→p l[j]=false) l.length (by omega) ?_ ?_ ?_
 ·simp only[go_sem,zSM,true_and,and_true,Int.ofNat_zero];exact fun j hj h0=>absurd h0 (Nat.not_lt_zero _)
 ·rintro i fr h hlt e1 ew ⟨f1,f0,f6,f7,f8,rfl,hj⟩;have a1:=zHj hd hlt;cases hb:(n==l[i]) with
  |true=>
   have hx:=zCr (p:=p) hlt hj (by rw[hpe,hb]);clear hj hd hpe
   repeat' first|simp only[go_sem,zSM, *]|apply bc<;>intro hc
  |false=>
   have hn:=ql (p:=p) hlt hj (by rw[hpe,hb]);clear hj hd hpe
   repeat' first|simp only[go_sem,zSM, *]|apply bc<;>intro hc
   exact hn
 ·rintro fr h e1 ⟨f1,f0,f6,f7,f8,rfl,hj⟩;have hx:=zCs (p:=p) fun j hj'=>hj j hj' hj';clear hj hd hpe
  repeat' first|simp only[go_sem,zSM, *]|apply bc<;>intro hc
theorem zNd {l:List Int} {d:D} (hd:zX 1 (zKO l) d) (hl:l.length≤1048576) (n:Int) (g:Heap):
  zA Tryz.prog 125 [d, .int .i64 n] g fun r h'=>h'=g∧r= .bool (l.any fun x=>x==n):=by
 have hix:=zVj hd hl n;have hge:=zFS (l:=l) (p:=fun x=>x==n);refine zA.of_fn (g:=zOj) mix Tryz.func125 zcs rfl rfl ?_;simp only[Tryz.f125,gJ]
 repeat' first|simp only[go_sem,zgV, *]|apply bc<;>intro hc|(refine zA.mono (hix _) ?_;rintro r h ⟨rfl,rfl⟩)
noncomputable def zVk:Cfg:=⟨fun t=>List.contains (α:=Nat) [] t,fun i=>(zJ5 (α:=List (Nat×Fl)) [] i).getD []⟩
theorem zhP (t:Tmp):zVk.mu t=false:=(rfl)
theorem zjD:zj Tryz.prog zVk Tryz.f28=true:=by kernel_rfl
theorem zEk (l:List (List UInt8)):∀x∈zt l,x.length=1:=fun x hx=>by
 obtain⟨s,_,rfl⟩:=List.mem_map.1 hx;rfl
theorem zVl {l:List (List UInt8)} {d:D} (hd:zX 1 (zt l) d) (hl:l.length≤1048576) (g:Heap):
  zA Tryz.prog 28 [d] g fun r h'=>h'=g∧Fin 1 (zt l) r:=by
 refine zA.pure (by kernel_rfl) fun hok=>zA.strip ?_;have hE0:Ext g g:=Ext.refl g;rcases hd with⟨rfl,hs⟩ | ⟨tk,rfl⟩
 ·have h0:l= []:=List.map_eq_nil_iff.1 hs;subst h0;refine zA.of_fn (g:=zVk) mix Tryz.func28 zjD rfl rfl ?_;simp only[Tryz.f28,gJ];have hn:zD1 Tryz.prog .eql 31 true .nilsl .nilsl=some (.bool true):=by rw[zCD (sz:=1) zX.nil Tryz.underlying31];rfl
  have hfin:below g.next (yC .nilsl)∧Fin 1 (zt []) (yC .nilsl):=⟨trivial, .inl ⟨rfl,rfl⟩⟩;clear hl hs
  repeat' first|simp only[go_sem,zhP, *]|apply bc<;>intro hc
 ·refine zA.of_fn (g:=zVk) mix Tryz.func28 zjD rfl rfl ?_;simp only[Tryz.f28,gJ];have hn:zD1 Tryz.prog .eql 31 true (.sl 1 (zt l) tk) .nilsl=some (.bool false):=by rw[zCD (zX.mk tk) Tryz.underlying31];rfl
  have hz:=fun nid h=>zAg (P:=Tryz.prog) (nid:=nid) (h:=h) zd zCA yu rfl rfl (by omega:0<1);have hap:zZ Tryz.prog false g.next 31 (.sl 1 [] .full) (.sl 1 (zt l) tk) g=if(zt l).length=0 then some (.sl 1 [] .full,g) else some (.sl 1 (zt l) (.own g.next),g.new g.next .tok):=zLp zd zBq yu (by omega) (zEk l) (by rw[wO,zJ];unfold lim;omega) (by rw[zJ];unfold lim;omega)
  have hE1:=hE0.new (Nat.le_refl _) .tok;have hst:=yN (sz:=1) (xs:=zt l) yW;by_cases h0:l= []
  ·subst h0;rw[if_pos (by rw[zJ];rfl)] at hap;have hfin:below g.next (yC (.sl 1 [] .full))∧Fin 1 (zt []) (yC (.sl 1 [] .full)):=by
    have:=hst .full;exact⟨by rw[show([]:List (List D))=zt [] from rfl,this.1];exact zu (Nat.zero_le _) _ this.2, .inr this.1⟩
   clear hst hE1
   repeat' first|simp only[go_sem,zhP, *]|apply bc<;>intro hc
  ·rw[if_neg (by rw[zJ];exact fun q=>h0 (List.length_eq_zero_iff.1 q))] at hap;have hfin:below g.next (yC (.sl 1 (zt l) (.own g.next)))∧Fin 1 (zt l) (yC (.sl 1 (zt l) (.own g.next))):=by
    have:=hst (.own g.next);exact⟨by rw[this.1];exact zu (Nat.zero_le _) _ this.2, .inr this.1⟩
   clear hst h0
   repeat' first|simp only[go_sem,zhP, *]|apply bc<;>intro hc
def zQD (c:Cat) (lic exc:List UInt8):Option (List Int):=
 if(w7 c lic).isSome=false then none else if(exc== [])=true then some [] else(zKb c lic exc).map Exc.lifts
theorem zQE {c:Cat} {lic exc:List UInt8} (h:zQD c lic exc=none):zEj c lic exc= .tuple [.nilsl, .bool false]:=by
 unfold zQD at h;unfold zEj;split at h
 ·rename_i q;rw[if_pos q]
 rename_i q;rw[if_neg q];split at h
 ·cases h
 ·rename_i q2;rw[if_neg q2];cases he:zKb c lic exc with
  |none=>rfl
  |some x=>rw[he] at h;cases h
theorem zQF {c:Cat} (hs:c.Sm) {lic exc:List UInt8} {L:List Int} (h:zQD c lic exc=some L):∃q,zEj c lic exc= .tuple [q, .bool true]∧zX 1 (zKO L) q∧L.length≤1048576:=by
 unfold zQD at h;unfold zEj;split at h
 ·cases h
 rename_i q;rw[if_neg q];split at h
 ·rename_i q2;rw[if_pos q2];cases h;exact⟨_,rfl,zX.nil,by simp⟩
 ·rename_i q2;rw[if_neg q2];cases he:zKb c lic exc with
  |none=>rw[he] at h;cases h
  |some x=>
   rw[he] at h;cases h;have hm:=hs.es.2 x (List.mem_of_find?_eq_some he);exact⟨_,rfl,hm.1,hm.2.1⟩
def Cla.key (x:Cla):List UInt8×Int×Int×Int×List (List UInt8):=(x.lic,x.way,x.rel,x.duty,x.list)
def zPE (L:List Int) (lic:List UInt8) (way rel:Int) (x:Cla):Bool:=x.lic==lic&&x.way==way&&x.rel==rel&& !(L.any fun z=>z==x.duty)
def zBL (c:Cat) (lic exc:List UInt8) (way rel:Int):List Cla:=match zQD c lic exc with
 |none=>[]
 |some L=>c.cs.filter (zPE L lic way rel)
def Cla.Fine (x:Cla):Prop:=Fin 1 (zt x.list) x.d∧x.list.length≤1048576
theorem Cla.Fine.plain {x:Cla} (h:x.Fine):zCj x.cells:=by
 rcases h.1 with⟨e,_⟩ |e
 ·unfold Cla.cells;rw[e];exact⟨rfl,by simp[yB,below],by simp[yh,yC]⟩
 ·have:=yN (sz:=1) (xs:=zt x.list) yW .no;obtain⟨h1,h2⟩:=this;simp only[yC,D.sl.injEq,true_and,and_true] at h1;simp only[below] at h2;unfold Cla.cells;rw[e];exact⟨rfl,by simp[yB,below,h2],by simp[yh,yC,h1]⟩
def zhQ (S:List Cla) (r:D):Prop:=∃cs:List Cla,zX 5 (zMC cs) r∧(∀y∈cs,y.Fine)∧cs.map Cla.key=S.map Cla.key
theorem Own.setRow {h0 h:Heap} {sz:Nat} {xs:List (List D)} {d:D} (ho:Own h0 h sz xs d) {id:Nat} {o:Obj} (hi:h0.next≤id) (hr:h.at' id=some o) (hne:o≠ .tok) (o':Obj):Own h0 (h.set id o') sz xs d:=
 ⟨ho.1.set hi _,ho.2.1.loc (Nat.le_refl _) fun i ht=>zH fun e=>by subst e;have:=(ho.2.1.tok ht).2;rw[hr] at this;exact hne (Option.some.inj this),ho.2.2⟩
theorem zZt (x:Cla) (nid:Nat) (h:Heap):zS Tryz.prog false nid 24 1 [(0, .agg x.cells)] h=some (.sl 5 [x.cells] .full,h):=yR zKB zRd zCi rfl rfl (by omega) (by omega) rfl rfl
set_option maxHeartbeats 4000000 in
theorem zTP {c:Cat} {d:D} (hc:wR c d) (hs:c.Sm) (lic exc:List UInt8) (way rel:Int) (g:Heap):
  zA Tryz.prog 94 [d, .agg [.str lic, .str exc], .int .i64 way, .int .i64 rel] g fun r h'=>h'=g∧zhQ (zBL c lic exc way rel) r:=by
 refine zA.pure (by kernel_rfl) fun hok=>zA.strip ?_;have hli:=zTO hc hs lic exc;obtain⟨a,b,e,p,rfl,ha,hb,he,hp⟩:=hc;have s3:=hs.cs.1;have le:=zDF he;have hv4:∀a b c e:D,ze true 4 [a,b,c,e] 0=some (.agg [a,b,c,e]):=fun a b c e=>zB rfl (by omega);have hv2:∀a b:D,ze true 2 [a,b] 0=some (.agg [a,b]):=fun a b=>zB rfl (by omega);have hv5:∀a b c e f:D,ze true 5 [a,b,c,e,f] 0=some (.agg [a,b,c,e,f]):=fun a b c e f=>zB rfl (by omega);refine zA.of_fn (g:=zU6) mix Tryz.func94 ziw rfl rfl ?_;simp only[Tryz.f94,gJ];cases hL:zQD c lic exc with
 |none=>
  rw[zQE hL] at hli;have hR:zBL c lic exc way rel= []:=by unfold zBL;rw[hL]
  rw[hR]
  repeat' first|simp only[go_sem,zP1, *]|apply bc<;>intro hc
  refine(hli _).mono ?_;rintro r h ⟨hE,rfl⟩;have hfin:below g.next (yC .nilsl)∧zhQ [] (yC .nilsl):=⟨trivial,[], .inl ⟨rfl,rfl⟩,fun y hy=>absurd hy List.not_mem_nil,rfl⟩
  repeat' first|simp only[go_sem,zP1, *]|apply bc<;>intro hc
 |some L=>
  obtain⟨q,hq,hqi,hql⟩:=zQF hs hL;rw[hq] at hli;have hR:zBL c lic exc way rel=c.cs.filter (zPE L lic way rel):=by unfold zBL;rw[hL]
  rw[hR]
  repeat' first|simp only[go_sem,zP1, *]|apply bc<;>intro hc
  refine(hli _).mono ?_;rintro r h0 ⟨hE,rfl⟩
  repeat' first|simp only[go_sem,zP1, *]|apply bc<;>intro hc
  obtain⟨sel,hsel⟩:∃sel,zPE L lic way rel=sel:=⟨_,rfl⟩;rw[hsel];clear hli hL hq hR;refine zD (fun k fr h=>fr 2= .int .i64 way∧fr 3= .int .i64 rel∧fr 5= .iptr [.str lic, .str exc] 0∧fr 9=q∧fr 23=e∧fr 24= .int .i64 (c.cs.length:Int)∧fr 25= .int .i64 (k:Int)∧∃u out,fr 11=u∧Own g h 5 (zMC out) u∧out.length≤k∧(∀y∈out,y.Fine)∧out.map Cla.key=((c.cs.take k).filter sel).map Cla.key) c.cs.length (by omega) ?_ ?_ ?_
  ·simp only[go_sem,zP1,true_and,and_true,Int.ofNat_zero];exact⟨_,[],rfl,Own.start hE 5,by simp,fun y hy=>absurd hy List.not_mem_nil,by simp⟩
  ·clear hE;rintro k fr h hlt ec ew ⟨f2,f3,f5,f9,f23,f24,f25,u,out,f11,hO,hol,hfine,hkey⟩;have a1:=zDr he hlt;obtain⟨o1,o2⟩:=hs.cs.2 _ (List.getElem_mem hlt);have htk:(c.cs.take (k+1)).filter sel=(c.cs.take k).filter sel++ [c.cs[k]].filter sel:=by
    rw[List.take_succ_eq_append_getElem hlt,List.filter_append]
   have hsv:sel c.cs[k]=(c.cs[k].lic==lic&&c.cs[k].way==way&&c.cs[k].rel==rel&& !(L.any fun z=>z==c.cs[k].duty)):=by rw[←hsel];rfl
   generalize c.cs[k]=y at *
   have c1:=zNd hqi hql y.duty;have c2:=zVl o1 o2;simp only[Cla.cells] at a1;have hst:zW Tryz.prog 143 (.ptr h.next 0) (.agg [.str y.lic, .int .i64 y.way, .int .i64 y.rel, .int .i64 y.duty,y.d]) (h.new h.next (.row [.str [], .int .i64 0, .int .i64 0, .int .i64 0, .nilsl]))=some (h.new h.next (.row [.str y.lic, .int .i64 y.way, .int .i64 y.rel, .int .i64 y.duty,y.d])):=zg zCi (by omega) rfl rfl (by show(true&&(true&&(true&&(true&&(y.d.flat&&true)))))=true;rw[zBd o1];rfl)
   obtain⟨H,hH,hrow,hOH,hnx⟩:∃H,h.new h.next (.row [.str y.lic, .int .i64 y.way, .int .i64 y.rel, .int .i64 y.duty,y.d])=H∧H.at' h.next=some (.row [.str y.lic, .int .i64 y.way, .int .i64 y.rel, .int .i64 y.duty,y.d])∧Own g H 5 (zMC out) u∧h.next<H.next:=⟨_,rfl,zQ _ _ _,hO.ext ((Ext.refl h).new (Nat.le_refl _) _),by rw[zK];omega⟩;rw[hH] at hst;have hgn:g.next≤h.next:=hO.1.1;obtain⟨n0,hn0⟩:∃n0,h.next=n0:=⟨_,rfl⟩;rw[hn0] at hst hrow hnx hgn
   have no:sel y=false→∃u' out',u=u'∧Own g H 5 (zMC out') u'∧out'.length≤k+1∧(∀z∈out',z.Fine)∧out'.map Cla.key=((c.cs.take (k+1)).filter sel).map Cla.key:=fun q=>⟨u,out,rfl,hOH,by omega,hfine,by rw[htk,hkey];simp[q]⟩;clear hH hO;cases b1:(y.lic==lic) with
   |false=>
    have hn:=no (by rw[hsv,b1];rfl);clear no hsv hkey hfine htk hol hOH
    repeat' first|simp only[go_sem,zP1, *]|apply bc<;>intro hc
   |true=>
   cases b2:(y.way==way) with
   |false=>
    have hn:=no (by rw[hsv,b1,b2];rfl);clear no hsv hkey hfine htk hol hOH
    repeat' first|simp only[go_sem,zP1, *]|apply bc<;>intro hc
   |true=>
   cases b3:(y.rel==rel) with
   |false=>
    have hn:=no (by rw[hsv,b1,b2,b3];rfl);clear no hsv hkey hfine htk hol hOH
    repeat' first|simp only[go_sem,zP1, *]|apply bc<;>intro hc
   |true=>
   cases b4:(L.any fun z=>z==y.duty) with
   |true=>
    have hn:=no (by rw[hsv,b1,b2,b3,b4];rfl);rw[b4] at c1;clear no hsv hkey hfine htk hol hOH b4
    repeat' first|simp only[go_sem,zP1, *]|apply bc<;>intro hc|(refine zA.mono (c1 _) ?_;rintro r h ⟨rfl,rfl⟩)
   |false=>
    have hy:sel y=true:=by rw[hsv,b1,b2,b3,b4];rfl
    rw[b4] at c1;clear no hsv b4
    repeat' first|simp only[go_sem,zP1, *]|apply bc<;>intro hc|(refine zA.mono (c1 _) ?_;rintro r h ⟨rfl,rfl⟩)
    rename Heap=>H
    refine(c2 _).mono ?_;rintro z H' ⟨rfl,hz⟩;have hzf:=zBd hz.isSl;have hzc:z.cells= [z]:=by rcases hz with⟨rfl,_⟩ |rfl<;>rfl
    have hs2:zW Tryz.prog 31 (.ptr n0 4) z H'=some (H'.set n0 (.row [.str y.lic, .int .i64 y.way, .int .i64 y.rel, .int .i64 y.duty,z])):=by
     rw[zh hrow zCQ (by simp) hzc hzf];rfl
    obtain⟨H2,hH2,r2,O2⟩:∃H2,H'.set n0 (.row [.str y.lic, .int .i64 y.way, .int .i64 y.rel, .int .i64 y.duty,z])=H2∧H2.at' n0=some (.row [.str y.lic, .int .i64 y.way, .int .i64 y.rel, .int .i64 y.duty,z])∧Own g H2 5 (zMC out) u:=⟨_,rfl,zF _ _ _,hOH.setRow hgn hrow (by simp) _⟩;rw[hH2] at hs2;have hone:=zZt ⟨y.lic,y.way,y.rel,y.duty,y.list,z⟩;simp only[Cla.cells] at hone;clear hH2 hrow hst c1 c2 hOH a1
    repeat' first|simp only[go_sem,zP1, *]|apply bc<;>intro hc
    refine O2.appH zKB zUg zCi (by omega) (by simp) (by simp) (by simp only[zDq,zPy,List.length_cons,List.length_nil];unfold lim;omega) (by simp only[zDq,List.length_cons,List.length_nil];unfold lim;omega) fun d' h' o=> ?_;have hres:∃u' out',d'=u'∧Own g h' 5 (zMC out') u'∧out'.length≤k+1∧(∀z∈out',z.Fine)∧out'.map Cla.key=((c.cs.take (k+1)).filter sel).map Cla.key:=by
     refine⟨d',out++ [⟨y.lic,y.way,y.rel,y.duty,y.list,z⟩],rfl,?_,by simp;omega,fun w hw=> ?_,?_⟩
     ·have:zMC (out++ [⟨y.lic,y.way,y.rel,y.duty,y.list,z⟩])=zMC out++ [[.str y.lic, .int .i64 y.way, .int .i64 y.rel, .int .i64 y.duty,z]]:=by simp[zMC,Cla.cells]
      rw[this];exact o
     ·rcases List.mem_append.1 hw with hw|hw
      ·exact hfine w hw
      ·rw[List.mem_singleton.1 hw];exact⟨hz,o2⟩
     ·rw[htk,List.map_append,List.map_append,hkey];simp[hy,Cla.key]
    clear O2 o hkey hfine htk hz hs2 r2 hone
    repeat' first|simp only[go_sem,zP1, *]|apply bc<;>intro hc
  ·clear hE;rintro fr h ec ⟨f2,f3,f5,f9,f23,f24,f25,u,out,f11,hO,hol,hfine,hkey⟩;rw[List.take_length] at hkey;have hpl:∀x∈zMC out,zCj x:=fun x hx=>by
    obtain⟨y,hy,rfl⟩:=List.mem_map.1 hx;exact(hfine y hy).plain
   have hf:=hO.fin hpl;have hfin:Ext g h∧below g.next (yC u)∧zhQ (c.cs.filter sel) (yC u):=⟨hf.1,hf.2.1,out,hf.2.2.isSl,hfine,hkey⟩;clear hf hO hfine hkey hpl
   repeat' first|simp only[go_sem,zP1, *]|apply bc<;>intro hc
inductive Ex where
 |mk:Int→List UInt8→List UInt8→List Ex→D→Ex
def Ex.kind:Ex→Int
 | .mk k _ _ _ _=>k
def Ex.name:Ex→List UInt8
 | .mk _ n _ _ _=>n
def Ex.exc:Ex→List UInt8
 | .mk _ _ x _ _=>x
def Ex.kids:Ex→List Ex
 | .mk _ _ _ l _=>l
def Ex.d:Ex→D
 | .mk _ _ _ _ d=>d
def Ex.cells (e:Ex):List D:=[.int .i64 e.kind, .str e.name, .str e.exc,e.d]
def exs (l:List Ex):List (List D):=l.map Ex.cells
theorem zQG (l:List Ex):(exs l).length=l.length:=List.length_map ..
theorem zZu {l:List Ex} {i:Nat} (h:i<l.length):(exs l)[i]? =some l[i].cells:=by simp[exs,h]
mutual
def Ex.size:Ex→Nat
 | .mk _ _ _ l _=>yH l+1
def yH:List Ex→Nat
 | []=>0
 |e::l=>e.size+yH l
end
mutual
def Ex.depth:Ex→Nat
 | .mk _ _ _ l _=>zAc l+1
def zAc:List Ex→Nat
 | []=>0
 |e::l=>max e.depth (zAc l)
end
mutual
def Ex.Ok:Ex→Prop
 | .mk _ n x l d=>zX 4 (exs l) d∧l.length≤1048576∧n.length≤1048576∧x.length≤1048576∧okL l
def okL:List Ex→Prop
 | []=>True
 |e::l=>e.Ok∧okL l
end
theorem zDs:∀ {l:List Ex},okL l→∀e∈l,e.Ok
 |e::l,h,x,hx=>by
  simp only[okL] at h;rcases List.mem_cons.1 hx with rfl|hx
  ·exact h.1
  ·exact zDs h.2 x hx
theorem zBM:∀ {l:List Ex} {e:Ex},e∈l→e.size≤yH l
 |x::l,e,h=>by
  simp only[yH];rcases List.mem_cons.1 h with rfl|h
  ·omega
  ·have:=zBM h;omega
theorem zVm:∀n:Nat,(∀e:Ex,e.size≤n→e.depth≤e.size)∧∀l:List Ex,yH l≤n→zAc l≤yH l:=by
 intro n
 induction n with
 |zero=>
  refine⟨fun e h=> ?_,fun l h=> ?_⟩
  ·cases e;simp only[Ex.size] at h;omega
  ·cases l with
   |nil=>simp[zAc]
   |cons e l=>cases e;simp only[yH,Ex.size] at h;omega
 |succ n ih=>
  have key:∀e:Ex,e.size≤n+1→e.depth≤e.size:=fun e h=>by
   obtain⟨_,_,_,l,_⟩:=e;simp only[Ex.size,Ex.depth] at h⊢;have:=ih.2 l (by omega);omega
  refine⟨key,fun l h=> ?_⟩
  induction l with
  |nil=>simp[zAc]
  |cons e l ihl=>
   simp only[yH,zAc] at h⊢;have h1:=key e (by omega);have h2:=ihl (by omega);omega
theorem zHm (e:Ex):∀l:List Ex,zAc (l++ [e])=max (zAc l) e.depth
 | []=>by simp[zAc]
 |x::l=>by
  have:=zHm e l;simp only[List.cons_append,zAc,this];omega
theorem zDt {l:List Ex} {d:D} (hd:zX 4 (exs l) d) (h:Heap):zAd Tryz.prog 60 d h=some (.int .i64 l.length):=by rw[zP hd Tryz.underlying60,zQG]
theorem zMF {l:List Ex} {d:D} (hd:zX 4 (exs l) d) {i:Nat} (hi:i<l.length):zR Tryz.prog 60 d (.int .i64 (i:Int))=some (.iptr l[i].cells 0):=zE hd zUf zRa (zZu hi)
theorem zhR (a b:Nat):zQp (.int .i64 (a:Int)) (.int .i64 (b:Int))=some (.int .i64 ((max a b:Nat):Int)):=by
 simp only[zQp,if_true];by_cases q:(b:Int)>a
 ·rw[if_pos q,Nat.max_eq_right (by omega)]
 ·rw[if_neg q,Nat.max_eq_left (by omega)]
abbrev zEx:List D:=[.int .i64 0, .str [], .str [], .nilsl]
theorem zTQ (x:Ex) (hf:x.d.flat=true) (h:Heap) (id:Nat):zW Tryz.prog 62 (.ptr id 0) (.agg [.int .i64 x.kind, .str x.name, .str x.exc,x.d]) (h.new id (.row zEx))=some (h.new id (.row [.int .i64 x.kind, .str x.name, .str x.exc,x.d])):=zg zRa (by omega) rfl rfl (by show(true&&(true&&(true&&(x.d.flat&&true))))=true;rw[hf];rfl)
theorem Ex.flat {x:Ex} (h:x.Ok):x.d.flat=true:=by
 cases x;simp only[Ex.Ok] at h;exact zBd h.1
set_option maxHeartbeats 2000000 in
theorem zZv:∀ (n:Nat) {e:Ex},e.size≤n→e.Ok→e.size≤1048576→∀g:Heap,zA Tryz.prog 253 [.agg e.cells] g fun r h'=>h'=g∧r= .int .i64 (e.depth:Int):=by
 intro n
 induction n with
 |zero=>intro e h;cases e;simp only[Ex.size] at h;omega
 |succ n ih=>
 intro e hn hok hsz g;refine zA.pure (by kernel_rfl) fun hh=> ?_;obtain⟨k,nm,x,l,d⟩:=e;simp only[Ex.size,Ex.Ok] at hn hok hsz;obtain⟨hd,hl,_,_,hks⟩:=hok;have hlen:=zDt hd;have hdl:=(zVm (yH l)).2 l (Nat.le_refl _);have hbel:∀k:Int,below g.next (.int .i64 k):=fun k=>trivial;have hv4:∀a b c e:D,ze true 4 [a,b,c,e] 0=some (.agg [a,b,c,e]):=fun a b c e=>zB rfl (by omega);have hE0:=Ext.refl g;have hR:(Ex.mk k nm x l d).depth=zAc l+1:=by simp only[Ex.depth]
 rw[hR];clear hR;refine zA.of_fn (g:=zOc) mix Tryz.func253 zcb rfl rfl ?_;simp only[Tryz.f253,gJ];simp only[Ex.cells,Ex.kind,Ex.name,Ex.exc,Ex.d]
 repeat' first|simp only[go_sem,zUt, *]|apply bc<;>intro hc
 refine zD (fun i fr h=>fr 7=d∧fr 8= .int .i64 (l.length:Int)∧fr 9= .int .i64 (i:Int)∧fr 3= .int .i64 ((zAc (l.take i):Nat):Int)∧Ext g h) l.length (by omega) ?_ ?_ ?_
 ·simp only[go_sem,zUt,true_and,and_true,Int.ofNat_zero];exact⟨rfl,hE0⟩
 ·rintro i fr h hlt ec ew ⟨f7,f8,f9,f3,hE⟩;have a1:=zMF hd hlt;have hm:l[i]∈l:=List.getElem_mem hlt;have hq:=ih (e:=l[i]) (by have:=zBM hm;omega) (zDs hks _ hm) (by have:=zBM hm;omega);have hst:=zTQ l[i] (Ex.flat (zDs hks _ hm)) h h.next;have hE2:=hE.new hE.1 (.row [.int .i64 l[i].kind, .str l[i].name, .str l[i].exc,l[i].d]);have hmx:=zhR (zAc (l.take i)) l[i].depth;have htk:zAc (l.take (i+1))=max (zAc (l.take i)) l[i].depth:=by rw[List.take_succ_eq_append_getElem hlt,zHm]
  rw[←htk] at hmx;simp only[Ex.cells] at a1 hq;clear ih hd hm htk
  repeat' first|simp only[go_sem,zUt,zQ, *]|apply bc<;>intro hc|(refine zA.mono (hq _) ?_;rintro r h ⟨rfl,rfl⟩)
 ·rintro fr h ec ⟨f7,f8,f9,f3,hE⟩;rw[List.take_length] at f3;have hw:IntKind.i64.wrap ((zAc l:Int)+1)=((zAc l+1:Nat):Int):=zf (by unfold lim;omega);clear ih hd hks
  repeat' first|simp only[go_sem,zUt, *]|apply bc<;>intro hc
mutual
def Ex.pre:Ex→List Ex
 | .mk k n x l d=> .mk k n x l d::zGg l
def zGg:List Ex→List Ex
 | []=>[]
 |e::l=>e.pre++zGg l
end
theorem zhS:∀n:Nat,(∀e:Ex,e.size≤n→e.pre.length=e.size)∧∀l:List Ex,yH l≤n→(zGg l).length=yH l:=by
 intro n
 induction n with
 |zero=>
  refine⟨fun e h=> ?_,fun l h=> ?_⟩
  ·cases e;simp only[Ex.size] at h;omega
  ·cases l with
   |nil=>simp[zGg,yH]
   |cons e l=>cases e;simp only[yH,Ex.size] at h;omega
 |succ n ih=>
  have key:∀e:Ex,e.size≤n+1→e.pre.length=e.size:=fun e h=>by
   obtain⟨_,_,_,l,_⟩:=e;simp only[Ex.size,Ex.pre,List.length_cons] at h⊢;rw[ih.2 l (by omega)]
  refine⟨key,fun l h=> ?_⟩
  induction l with
  |nil=>simp[zGg,yH]
  |cons e l ihl=>
   simp only[yH,zGg,List.length_append] at h⊢;rw[key e (by omega),ihl (by omega)]
theorem Ex.pre_len (e:Ex):e.pre.length=e.size:=(V.zhS e.size).1 e (Nat.le_refl _)
theorem zPF (l:List Ex):(zGg l).length=yH l:=(V.zhS (yH l)).2 l (Nat.le_refl _)
theorem zPG:∀l m:List Ex,zGg (l++m)=zGg l++zGg m
 | [],m=>by simp[zGg]
 |e::l,m=>by simp[zGg,zPG l m]
theorem zHn:∀l m:List Ex,yH (l++m)=yH l+yH m
 | [],m=>by simp[yH]
 |e::l,m=>by simp[yH,zHn l m];omega
theorem zTR {l:List Ex} {i:Nat} (hi:i<l.length) {j:Nat} {x:Ex} (hx:l[i].pre[j]? =some x):(zGg l)[yH (l.take i)+j]? =some x:=by
 have h1:l=l.take i++(l[i]::l.drop (i+1)):=by rw[←List.drop_eq_getElem_cons hi,List.take_append_drop]
 have hj:j<l[i].pre.length:=(List.getElem?_eq_some_iff.1 hx).1;have h2:zGg l=zGg (l.take i)++(l[i].pre++zGg (l.drop (i+1))):=by
  have:=congrArg zGg h1;rw[zPG] at this;exact this
 rw[h2,List.getElem?_append_right (by rw[zPF];omega),zPF,show yH (l.take i)+j-yH (l.take i)=j by omega,List.getElem?_append_left hj,hx]
theorem zQH {l:List Ex} {i:Nat} (hi:i<l.length):yH (l.take (i+1))=yH (l.take i)+l[i].size:=by
 rw[List.take_succ_eq_append_getElem hi,zHn];simp[yH]
def ze9 (Y:Nat→(Nat→Prop)→Heap→Prop) (Z:(Nat→Prop)→Heap→Prop) (S:Nat→Prop) (g:Heap) (k:Nat) (r:D) (h':Heap):Prop:=
 ∃S',(∀i,S' i→S i∨g.next≤i)∧But S g h'∧((r= .bool true∧Y k S' h')∨(r= .bool false∧Z S' h'))
abbrev zAP (v:Nat):D:= .fn (.func 255) [] [.ptr v 0]
set_option maxHeartbeats 4000000 in
theorem zZw {id len:Nat} {el:Nat→List D} {Y:Nat→(Nat→Prop)→Heap→Prop} {Z:(Nat→Prop)→Heap→Prop} (y:Yld Tryz.prog id len el Y Z):∀ (n:Nat) {e:Ex},e.size≤n→e.Ok→∀ {k:Nat} {S:Nat→Prop} {g:Heap} {v:Nat},k+e.size≤len→(∀j x,e.pre[j]? =some x→el (k+j)= [.agg x.cells])→
  Y k S g→v<g.next→¬S v→g.at' v=some (.row [zAP v])→
  zA Tryz.prog 255 [.agg e.cells, .yld id, .ptr v 0] g (ze9 Y Z S g (k+e.size)):=by
 intro n
 induction n with
 |zero=>intro e h;cases e;simp only[Ex.size] at h;omega
 |succ n ih=>
 intro e hn hok k S g v hk hel hY hv hSv hrow;have hel0:=hel 0 e (by cases e;simp[Ex.pre]);rw[Nat.add_zero] at hel0;obtain⟨kd,nm,x,l,d⟩:=e;simp only[Ex.size,Ex.Ok] at hn hok hk;obtain⟨hd,hl,_,_,hks⟩:=hok;have helc:∀j x,(zGg l)[j]? =some x→el (k+1+j)= [.agg x.cells]:=fun j x hx=>by
  have:=hel (j+1) x (by simp only[Ex.pre,List.getElem?_cons_succ];exact hx);rw[←this];congr 1;omega
 clear hel;have hlen:=zDt hd;have hv4:∀a b c e:D,ze true 4 [a,b,c,e] 0=some (.agg [a,b,c,e]):=fun a b c e=>zB rfl (by omega);have hsz:(Ex.mk kd nm x l d).size=yH l+1:=by simp only[Ex.size]
 rw[hsz];have hgo:=y.go k S g (by omega) hY;rw[hel0] at hgo;simp only[Ex.cells,Ex.kind,Ex.name,Ex.exc,Ex.d] at hgo;clear hsz hel0;refine zA.of_fn (g:=zOm) mix Tryz.func255 zcw rfl rfl ?_;simp only[Tryz.f255,gJ];simp only[Ex.cells,Ex.kind,Ex.name,Ex.exc,Ex.d]
 repeat' first|simp only[go_sem,zLg, *]|apply bc<;>intro hc
 refine hgo.mono ?_;rintro r h ⟨S1,hS1,hb1,hr⟩;rcases hr with⟨rfl,hY1⟩ | ⟨rfl,hZ1⟩
 rotate_left
 ·have hres:ze9 Y Z S g (k+(yH l+1)) (.bool false) h:=⟨S1,hS1,hb1, .inr ⟨rfl,hZ1⟩⟩;clear hgo ih
  repeat' first|simp only[go_sem,zLg, *]|apply bc<;>intro hc
 clear hgo
 repeat' first|simp only[go_sem,zLg, *]|apply bc<;>intro hc
 refine zD (fun i fr h'=>fr 1= .yld id∧fr 2= .ptr v 0∧fr 13=d∧fr 14= .int .i64 (l.length:Int)∧fr 15= .int .i64 (i:Int)∧∃S',(∀j,S' j→S j∨g.next≤j)∧But S g h'∧Y (k+1+yH (l.take i)) S' h') l.length (by omega) ?_ ?_ ?_
 ·simp only[go_sem,zLg,true_and,and_true,Int.ofNat_zero];exact⟨S1,hS1,hb1,hY1⟩
 ·clear hS1 hb1 hY1;rintro i fr h hlt ec ew ⟨f1,f2,f13,f14,f15,S2,hS2,hb2,hY2⟩;have a1:=zMF hd hlt;have hm:l[i]∈l:=List.getElem_mem hlt;have hok:=zDs hks _ hm;have hsm:=zBM hm;have hrow2:h.at' v=some (.row [zAP v]):=by rw[hb2.2 v hv hSv];exact hrow
  have hvh:v<h.next:=Nat.lt_of_lt_of_le hv hb2.1;have hst:=zTQ l[i] (Ex.flat hok) h h.next;obtain⟨H,hH,hEH,r1,r2,hn1⟩:∃H,h.new h.next (.row [.int .i64 l[i].kind, .str l[i].name, .str l[i].exc,l[i].d])=H∧Ext h H∧H.at' h.next=some (.row [.int .i64 l[i].kind, .str l[i].name, .str l[i].exc,l[i].d])∧H.at' v=some (.row [zAP v])∧h.next<H.next:=⟨_,rfl,(Ext.refl h).new (Nat.le_refl _) _,zQ _ _ _,by rw[zM (by omega)];exact hrow2,by rw[zK];omega⟩;rw[hH] at hst;have htk:=zQH hlt;have hbnd:yH (l.take i)+l[i].size≤yH l:=by
   have h1:l=l.take (i+1)++l.drop (i+1):=(List.take_append_drop _ _).symm;have h2:=congrArg yH h1;rw[zHn,htk] at h2;omega
  have hSv2:¬S2 v:=fun q=>(hS2 v q).elim hSv (by omega);have hcall:=ih (e:=l[i]) (by omega) hok (k:=k+1+yH (l.take i)) (S:=S2) (g:=H) (v:=v) (by omega) (fun j x hx=>by
   have:=helc _ x (zTR hlt hx);rw[←this];congr 1;omega) (y.ext hY2 hEH) (by omega) hSv2 r2
  simp only[Ex.cells] at a1 hcall;clear ih hd hm hok hH hks
  repeat' first|simp only[go_sem,zLg, *]|apply bc<;>intro hc
  refine hcall.mono ?_;rintro r h3 ⟨S3,hS3,hb3,hr⟩;have hsub:∀j,S3 j→S j∨g.next≤j:=fun j hj=>by
   rcases hS3 j hj with q|q
   ·exact hS2 j q
   ·exact .inr (by have:=hb2.1;have:=hEH.1;omega)
  have hbut:But S g h3:=(hb2.trans (hEH.but S) fun i hi=> .inl hi).trans hb3 hS2;rcases hr with⟨rfl,hY3⟩ | ⟨rfl,hZ3⟩
  ·have hY4:Y (k+1+yH (l.take (i+1))) S3 h3:=by rw[htk,←Nat.add_assoc];exact hY3
   clear hcall hb2 hY2 hEH r1 r2 hst
   repeat' first|simp only[go_sem,zLg, *]|apply bc<;>intro hc
   rw[←htk];exact⟨S3,hsub,hY4⟩
  ·have hres:ze9 Y Z S g (k+(yH l+1)) (.bool false) h3:=⟨S3,hsub,hbut, .inr ⟨rfl,hZ3⟩⟩;clear hcall hb2 hY2 hEH r1 r2 hst htk
   repeat' first|simp only[go_sem,zLg, *]|apply bc<;>intro hc
 ·clear hS1 hb1 hY1;rintro fr h ec ⟨f1,f2,f13,f14,f15,S2,hS2,hb2,hY2⟩;rw[List.take_length] at hY2;have hres:ze9 Y Z S g (k+(yH l+1)) (.bool true) h:=⟨S2,hS2,hb2, .inl ⟨rfl,by rw[show k+(yH l+1)=k+1+yH l by omega];exact hY2⟩⟩;clear hb2 hY2 ih
  repeat' first|simp only[go_sem,zLg, *]|apply bc<;>intro hc
abbrev zZx (v:Nat) (e:Ex):D:= .fn (.func 256) [] [.ptr v 0, .iptr e.cells 0]
theorem zNe (e:Ex) (g:Heap):zA Tryz.prog 226 [.agg e.cells] g fun r h'=>r=zZx g.next e∧h'=g.new g.next (.row [zAP g.next]):=by
 have hal:∀ (t:TypeId) (nid:Nat) (h:Heap),zFp t nid h (some .nilfn)=some (.ptr nid 0,h.new nid (.row [.nilfn])):=fun _ _ _=>rfl;have hst:zW Tryz.prog 313 (.ptr g.next 0) (zAP g.next) (g.new g.next (.row [.nilfn]))=some (g.new g.next (.row [zAP g.next])):=zg zY0 (by omega) rfl rfl rfl;refine zA.of_fn (g:=zOb) mix Tryz.func226 zca rfl rfl ?_;simp only[Tryz.f226,gJ];simp only[Ex.cells]
 repeat' first|simp only[go_sem,zf0, *]|apply bc<;>intro hc
 rfl
theorem zKc {id:Nat} {el:Nat→List D} {Y:Nat→(Nat→Prop)→Heap→Prop} {Z:(Nat→Prop)→Heap→Prop} {e:Ex} (y:Yld Tryz.prog id e.size el Y Z) (hok:e.Ok) {S:Nat→Prop} {g:Heap} {v:Nat} (hel:∀j x,e.pre[j]? =some x→el j= [.agg x.cells])
  (hY:Y 0 S g) (hv:v<g.next) (hSv:¬S v) (hrow:g.at' v=some (.row [zAP v])):
  zA Tryz.prog 256 [.yld id, .ptr v 0, .iptr e.cells 0] g fun _ h'=>∃S',(∀i,S' i→S i∨g.next≤i)∧But S g h'∧(Y e.size S' h'∨Z S' h'):=by
 have hvis:=zZw y e.size (Nat.le_refl _) hok (k:=0) (by omega) (fun j x hx=>by rw[Nat.zero_add];exact hel j x hx) hY hv hSv hrow;have hv4:∀a b c e:D,ze true 4 [a,b,c,e] 0=some (.agg [a,b,c,e]):=fun a b c e=>zB rfl (by omega);refine zA.of_fn (g:=zOs) mix Tryz.func256 zdD rfl rfl ?_;simp only[Tryz.f256,gJ];simp only[Ex.cells] at hvis⊢
 repeat' first|simp only[go_sem,zdC, *]|apply bc<;>intro hc
 refine hvis.mono ?_;rintro r h ⟨S',h1,h2,h3⟩;rw[Nat.zero_add] at h3;have hres:∃S',(∀i,S' i→S i∨g.next≤i)∧But S g h∧(Y e.size S' h∨Z S' h):=⟨S',h1,h2,h3.imp And.right And.right⟩;clear h1 h2 h3 hvis
 repeat' first|simp only[go_sem,zdC, *]|apply bc<;>intro hc
def zds (c id:Nat) (L:LRec) (k:Nat) (S:Nat→Prop) (h:Heap):Prop:=
 (∀j,S j↔j=c∨j=id)∧c<id∧id<h.next∧h.at' c=some (.row [.int .i64 (k:Int)])∧h.at' id=some (.loop L)
set_option maxHeartbeats 2000000 in
theorem zdt {e:Ex} (hok:e.Ok) (hsz:e.size≤1048576) (g:Heap):zA Tryz.prog 252 [.agg e.cells] g fun r h'=>h'=g∧r= .int .i64 (e.size:Int):=by
 refine zA.pure (by kernel_rfl) fun hh=> ?_;have hbel:∀k:Int,below g.next (.int .i64 k):=fun k=>trivial;have hv4:∀a b c e:D,ze true 4 [a,b,c,e] 0=some (.agg [a,b,c,e]):=fun a b c e=>zB rfl (by omega);have hst0:zW Tryz.prog 3 (.ptr g.next 0) (.int .i64 0) (g.new g.next (.row [.int .i64 0]))=some (g.new g.next (.row [.int .i64 0])):=zg zM8 (by omega) rfl rfl rfl;have hnd:=fun h=>zNe e h;refine zA.of_fn (g:=zLe) mix Tryz.func252 zcS rfl rfl ?_;simp only[Tryz.f252,gJ];simp only[Ex.cells] at hnd⊢
 repeat' first|simp only[go_sem,zRl, *]|apply bc<;>intro hc
 refine(hnd _).mono ?_;rintro r h2 ⟨rfl,rfl⟩
 repeat' first|simp only[go_sem,zRl, *]|apply bc<;>intro hc
 have e1:(g.new g.next (.row [.int .i64 0])).next=g.next+1:=zK _ _;rw[e1];obtain⟨G,hG,hGn,m1,m2,mE⟩:∃G,(g.new g.next (.row [.int .i64 0])).new (g.next+1) (.row [zAP (g.next+1)])=G∧G.next=g.next+2∧G.at' g.next=some (.row [.int .i64 ((0:Nat):Int)])∧G.at' (g.next+1)=some (.row [zAP (g.next+1)])∧Ext g G:=
  ⟨_,rfl,yJ _ (by omega) _,by rw[zM (by omega)];exact zQ _ _ _,zQ _ _ _,((Ext.refl g).new (Nat.le_refl _) _).new (by omega) _⟩
 rw[hG,hGn];clear hG hnd hst0 e1;generalize hL:LRec.mk _ _ _ _ _ _ _=L;have y:Yld Tryz.prog (g.next+2) e.size (fun i=>[.agg (e.pre.getD i e).cells]) (zds g.next (g.next+2) L) (fun _ _=>False):=by
  refine⟨fun k S h y i hi=> ?_,fun k S h h' y hn hk=> ?_,fun S h hz=>hz.elim,fun S h h' hz=>hz.elim,fun i S h3 hi hy=> ?_⟩
  ·obtain⟨y1,y2,y3,y4,y5⟩:=y;rcases(y1 i).1 hi with rfl|rfl<;>omega
  ·obtain⟨y1,y2,y3,y4,y5⟩:=y;exact⟨y1,y2,by omega,by rw[hk _ ((y1 _).2 (.inl rfl))];exact y4,by rw[hk _ ((y1 _).2 (.inr rfl))];exact y5⟩
  ·obtain⟨y1,y2,y3,y4,y5⟩:=hy;have y50:=y5;rw[←hL] at y50;refine qp.round (g:=zLe) mix y50 rfl (by kernel_rfl) (by kernel_rfl) (by kernel_rfl) ?_;simp only[go_sem,zRl];refine⟨y50,?_⟩;generalize hB:LRec.mk .busy _ _ _ _ _ _=B;have hBL:({ B with st:= .ready,pending:=none } :LRec)=L:=by rw[←hB,←hL]
   generalize h5e:Heap.set h3 (g.next+2) (.loop B)=h5;have a1:h5.at' g.next=some (.row [.int .i64 (i:Int)]):=by rw[←h5e,zH (by omega)];exact y4
   have a3:h5.at' (g.next+2)=some (.loop B):=by rw[←h5e];simp[Heap.set]
   have a4:h5.next=h3.next:=by rw[←h5e,z8]
   have ew:IntKind.i64.wrap ((i:Int)+1)=((i+1:Nat):Int):=zf (by unfold lim;omega);have hst:zW Tryz.prog 3 (.ptr g.next 0) (.int .i64 ((i+1:Nat):Int)) h5=some (h5.set g.next (.row [.int .i64 ((i+1:Nat):Int)])):=by
    rw[zh a1 zM8 (by simp) rfl rfl];rfl
   repeat' first|simp only[go_sem,zRl, *]|apply bc<;>intro hc
   have c2:(h5.set g.next (.row [.int .i64 ((i+1:Nat):Int)])).at' (g.next+2)=some (.loop B):=by rw[zH (by omega)];exact a3
   refine wP c2 ⟨fun j=>j=g.next∨j=g.next+2,fun j hj=> .inl hj,⟨by simp only[z8];omega,fun j hj hS=> ?_⟩, .inl ⟨rfl,fun j=>Iff.rfl,y2,by simp only[z8];omega,?_,?_⟩⟩
   ·have n1:j≠g.next:=fun e=>hS ((y1 j).2 (.inl e));have n2:j≠g.next+2:=fun e=>hS ((y1 j).2 (.inr e));rw[zH n2,zH n1,←h5e,zH n2]
   ·rw[zH (by omega),zF]
   ·rw[zF,hBL]
 have hY0:zds g.next (g.next+2) L 0 (fun j=>j=g.next∨j=g.next+2) (G.new (g.next+2) (.loop L)):=
  ⟨fun j=>Iff.rfl,by omega,by rw[yJ _ (by omega)];omega,by rw[zM (by omega)];exact m1,zQ _ _ _⟩
 have hnodes:=zKc y hok (fun j x hx=>by
  have:e.pre.getD j e=x:=by rw[List.getD_eq_getElem?_getD,hx];rfl
  rw[this]) hY0 (v:=g.next+1) (by rw[yJ _ (by omega)];omega) (by omega) (by rw[zM (by omega)];exact m2)
 refine hnodes.mono ?_;rintro r h ⟨S',s1,s2,s3⟩;obtain⟨y1,y2,y3,y4,y5⟩:=s3.resolve_right (fun q=>q);have hLs:L.st≠ .busy:=by rw[←hL];intro q;cases q
 have hLp:L.pending=none:=by rw[←hL]
 refine⟨L,y5,hLs,?_⟩;rw[hLp,zBt];have hrow:(h.del (g.next+2)).at' g.next=some (.row [.int .i64 (e.size:Int)]):=by rw[qP (by omega)];exact y4
 have hE:Ext g (h.del (g.next+2)):=by
  have hn:(G.new (g.next+2) (.loop L)).next=g.next+3:=yJ _ (by omega) _;have s20:=s2.1;refine Ext.del ⟨by omega,fun i hi=> ?_⟩ (by omega);rw[s2.2 i (by omega) (by omega),zM (by omega),mE.2 i hi]
 clear hnodes y hY0 s1 s2 s3 hL hLs hLp y1 y4 y5
 repeat' first|simp only[go_sem,zRl, *]|apply bc<;>intro hc
theorem zJI {s:List UInt8} (hl:s.length≤1048576) (g:Heap):zA Tryz.prog 283 [.str s] g fun r h'=>h'=g∧r= .bool (ye s):=by
 have ht:∀h,zA Tryz.prog 105 [.str s, .str [97,98,99,100,101,102,103,104,105,106,107,108,109,110,111,112,113,114,115,116,117,118,119,120,121,122,48,49,50,51,52,53,54,55,56,57,45,46]] h fun r h'=>h'=h∧r= .str (Lib.trimS s zDl):=fun h=>zO2 hl (c:=zDl) (by decide) (by decide) h;refine zA.of_fn (g:=zOn) mix Tryz.func283 zcy rfl rfl ?_;simp only[Tryz.f283,gJ];cases s with
 |nil=>
  have e1:decide ((([]:List UInt8).length:Int)<1)=true:=rfl;clear ht
  repeat' first|simp only[go_sem,zcx, *]|apply bc<;>intro hc
  rfl
 |cons b r=>
  have e1:decide (((b::r).length:Int)<1)=false:=decide_eq_false (by simp only[List.length_cons];omega);have hi:zA2 Tryz.prog 9 (.str (b::r)) (.int .i64 0)=some (.int .u8 b.toNat):=wj (n:=0) Tryz.underlying9 rfl;have hn:=zHg b r;generalize hs:b::r=s at *
  repeat' first|simp only[go_sem,zcx, *]|apply bc<;>intro hc|(refine zA.mono (ht _) ?_;rintro r h ⟨rfl,rfl⟩)
def zHo (kind:Int) (name exc:List UInt8) (kids:Int):Int:=
 if((kind==0)||(kind==1))=true then
  (if(decide (kids>0)||((kind==1)&& !(exc== [])))=true then 1
  else if(!ye name||(!(exc== [])&& !ye exc))=true then 2 else 0)
 else if((kind==2)||(kind==3))=true then
  (if(decide (kids<2)|| !(name== [])|| !(exc== []))=true then 1 else 0)
 else 1
def Ex.err (e:Ex):Int:=zHo e.kind e.name e.exc e.kids.length
set_option maxHeartbeats 2000000 in
theorem zNf {e:Ex} (hok:e.Ok) (g:Heap):zA Tryz.prog 254 [.agg e.cells] g fun r h'=>h'=g∧r= .int .i64 e.err:=by
 obtain⟨kd,nm,x,l,d⟩:=e;simp only[Ex.Ok] at hok;obtain⟨hd,hl,o1,o2,_⟩:=hok;have hlen:=zDt hd;have hn1:=zJI o1;have hn2:=zJI o2;have hv4:∀a b c e:D,ze true 4 [a,b,c,e] 0=some (.agg [a,b,c,e]):=fun a b c e=>zB rfl (by omega);have hR:(Ex.mk kd nm x l d).err=zHo kd nm x l.length:=rfl;rw[hR];unfold zHo;refine zA.of_fn (g:=zOh) mix Tryz.func254 zcm rfl rfl ?_;simp only[Tryz.f254,gJ];simp only[Ex.cells,Ex.kind,Ex.name,Ex.exc,Ex.d]
 repeat' first|simp only[go_sem,zgJ, *]|apply bc<;>intro hc|(refine zA.mono (hn1 _) ?_;rintro r h ⟨rfl,rfl⟩)|(refine zA.mono (hn2 _) ?_;rintro r h ⟨rfl,rfl⟩)
def Ex.errAt (e:Ex) (i:Nat):Int:=(e.pre.getD i e).err
def zCt (e:Ex):Int:=
 if decide ((e.size:Int)>64)=true then 10
 else if decide ((e.depth:Int)>24)=true then 11
 else zEy e.errAt e.size
theorem zdu:∀n:Nat,(∀e:Ex,e.size≤n→e.Ok→∀x∈e.pre,x.Ok)∧∀l:List Ex,yH l≤n→okL l→∀x∈zGg l,x.Ok:=by
 intro n
 induction n with
 |zero=>
  refine⟨fun e h=> ?_,fun l h=> ?_⟩
  ·cases e;simp only[Ex.size] at h;omega
  ·cases l with
   |nil=>intro _ x hx;simp[zGg] at hx
   |cons e l=>cases e;simp only[yH,Ex.size] at h;omega
 |succ n ih=>
  have key:∀e:Ex,e.size≤n+1→e.Ok→∀x∈e.pre,x.Ok:=fun e h ho x hx=>by
   obtain⟨a,b,c,l,d⟩:=e;simp only[Ex.size,Ex.pre] at h hx;rcases List.mem_cons.1 hx with rfl|hx
   ·exact ho
   ·simp only[Ex.Ok] at ho;exact ih.2 l (by omega) ho.2.2.2.2 x hx
  refine⟨key,fun l h=> ?_⟩
  induction l with
  |nil=>intro _ x hx;simp[zGg] at hx
  |cons e l ihl=>
   intro ho x hx;simp only[yH,zGg,okL] at h hx ho;rcases List.mem_append.1 hx with hx|hx
   ·exact key e (by omega) ho.1 x hx
   ·exact ihl (by omega) ho.2 x hx
theorem Ex.pre_okAt {e:Ex} (h:e.Ok) (i:Nat):(e.pre.getD i e).Ok:=by
 rw[List.getD_eq_getElem?_getD];cases hx:e.pre[i]? with
 |none=>exact h
 |some x=>exact(zdu e.size).1 e (Nat.le_refl _) h x (List.mem_of_getElem? hx)
def zdv (e:Ex) (c id:Nat) (L:LRec) (k:Nat) (S:Nat→Prop) (h:Heap):Prop:=
 (∀j,S j↔j=c∨j=id)∧c<id∧id<h.next∧h.at' c=some (.row [.int .i64 0])∧h.at' id=some (.loop L)∧∀j,j<k→e.errAt j=0
def zhT (e:Ex) (c id:Nat) (L:LRec) (S:Nat→Prop) (h:Heap):Prop:=
 (∀j,S j↔j=c∨j=id)∧c<id∧id<h.next∧∃v,v=zEy e.errAt e.size∧h.at' c=some (.row [.int .i64 v])∧h.at' id=some (.loop { L with st:= .done,pending:=some .ret })
set_option maxHeartbeats 4000000 in
theorem zNg {e:Ex} (hok:e.Ok) (hsz:e.size≤1048576) (g:Heap):zA Tryz.prog 225 [.agg e.cells] g fun r h'=>h'=g∧r= .int .i64 (zCt e):=by
 refine zA.pure (by kernel_rfl) fun hh=> ?_;have hbel:∀k:Int,below g.next (.int .i64 k):=fun k=>trivial;have hv4:∀a b c e:D,ze true 4 [a,b,c,e] 0=some (.agg [a,b,c,e]):=fun a b c e=>zB rfl (by omega);have c1:=zdt hok hsz;have c2:=zZv e.size (Nat.le_refl _) hok hsz;have hnd:=fun h=>zNe e h;obtain⟨G0,hG0,r0,E0,n0⟩:∃G,g.new g.next (.row [.int .i64 0])=G∧G.at' g.next=some (.row [.int .i64 0])∧Ext g G∧G.next=g.next+1:=⟨_,rfl,zQ _ _ _,(Ext.refl g).new (Nat.le_refl _) _,zK _ _⟩
 have hst:∀v:Int,zW Tryz.prog 41 (.ptr g.next 0) (.int .i64 v) G0=some (G0.set g.next (.row [.int .i64 v])):=fun v=>by rw[zh r0 zIz (by simp) rfl rfl];rfl
 have hEs:∀v:Int,Ext g (G0.set g.next (.row [.int .i64 v])):=fun v=>E0.set (Nat.le_refl _) _;obtain⟨R,hR⟩:∃R,zCt e=R:=⟨_,rfl⟩;rw[hR];unfold zCt at hR;refine zA.of_fn (g:=zLd) mix Tryz.func225 zcQ rfl rfl ?_;simp only[Tryz.f225,gJ];simp only[Ex.cells] at c1 c2 hnd⊢;cases q1:decide ((e.size:Int)>64) with
 |true=>
  rw[if_pos q1] at hR;subst hR;clear hnd
  repeat' first|simp only[go_sem,zKH,zF, *]|apply bc<;>intro hc|(refine zA.mono (c1 _) ?_;rintro r h ⟨rfl,rfl⟩)
 |false=>
 rw[if_neg (by rw[q1];exact Bool.false_ne_true)] at hR;cases q2:decide ((e.depth:Int)>24) with
 |true=>
  rw[if_pos q2] at hR;subst hR;clear hnd
  repeat' first|simp only[go_sem,zKH,zF, *]|apply bc<;>intro hc|(refine zA.mono (c1 _) ?_;rintro r h ⟨rfl,rfl⟩)|(refine zA.mono (c2 _) ?_;rintro r h ⟨rfl,rfl⟩)
 |false=>
 rw[if_neg (by rw[q2];exact Bool.false_ne_true)] at hR
 repeat' first|simp only[go_sem,zKH, *]|apply bc<;>intro hc|(refine zA.mono (c1 _) ?_;rintro r h ⟨rfl,rfl⟩)|(refine zA.mono (c2 _) ?_;rintro r h ⟨rfl,rfl⟩)
 rename Heap=>G1
 refine(hnd _).mono ?_;rintro r h2 ⟨rfl,rfl⟩
 repeat' first|simp only[go_sem,zKH, *]|apply bc<;>intro hc
 obtain⟨G,hG,hGn,m1,m2,mE⟩:∃G,G1.new (g.next+1) (.row [zAP (g.next+1)])=G∧G.next=g.next+2∧G.at' g.next=some (.row [.int .i64 0])∧G.at' (g.next+1)=some (.row [zAP (g.next+1)])∧Ext g G:=
  ⟨_,rfl,yJ _ (by omega) _,by rw[zM (by omega)];exact r0,zQ _ _ _,E0.new (by omega) _⟩
 rw[hG,hGn];clear hG hnd c1 c2 hst hEs r0 E0 n0 hG0;generalize hL:LRec.mk _ _ _ _ _ _ _=L;have y:Yld Tryz.prog (g.next+2) e.size (fun i=>[.agg (e.pre.getD i e).cells]) (zdv e g.next (g.next+2) L) (zhT e g.next (g.next+2) L):=by
  refine⟨fun k S h y i hi=> ?_,fun k S h h' y hn hk=> ?_,fun S h y i hi=> ?_,fun S h h' y hn hk=> ?_,fun i S h3 hi hy=> ?_⟩
  ·obtain⟨y1,y2,y3,y4,y5⟩:=y;rcases(y1 i).1 hi with rfl|rfl<;>omega
  ·obtain⟨y1,y2,y3,y4,y5,y6⟩:=y;exact⟨y1,y2,by omega,by rw[hk _ ((y1 _).2 (.inl rfl))];exact y4,by rw[hk _ ((y1 _).2 (.inr rfl))];exact y5,y6⟩
  ·obtain⟨y1,y2,y3,y4⟩:=y;rcases(y1 i).1 hi with rfl|rfl<;>omega
  ·obtain⟨y1,y2,y3,v,y4,y5,y6⟩:=y;exact⟨y1,y2,by omega,v,y4,by rw[hk _ ((y1 _).2 (.inl rfl))];exact y5,by rw[hk _ ((y1 _).2 (.inr rfl))];exact y6⟩
  ·obtain⟨y1,y2,y3,y4,y5,y6⟩:=hy;have y50:=y5;rw[←hL] at y50;have hox:=Ex.pre_okAt hok i;have hck:=fun h=>zNf hox h;have herr:(e.pre.getD i e).err=e.errAt i:=rfl;rw[herr] at hck;generalize e.pre.getD i e=x at *
   have hstx:=zTQ x (Ex.flat hox) h3 h3.next;simp only[Ex.cells] at hck⊢;refine qp.round (g:=zLd) mix y50 rfl (by kernel_rfl) (by kernel_rfl) (by kernel_rfl) ?_;simp only[go_sem,zKH,hstx];obtain⟨h4,hh4,z4,zL,zr,zn,zk⟩:∃h4,h3.new h3.next (.row [.int .i64 x.kind, .str x.name, .str x.exc,x.d])=h4∧h4.at' g.next=some (.row [.int .i64 0])∧h4.at' (g.next+2)=some (.loop L)∧h4.at' h3.next=some (.row [.int .i64 x.kind, .str x.name, .str x.exc,x.d])∧h4.next=h3.next+1∧∀j,j<h3.next→h4.at' j=h3.at' j:=
    ⟨_,rfl,by rw[zM (by omega)];exact y4,by rw[zM (by omega)];exact y5,zQ _ _ _,zK _ _,fun j hj=>by rw[zM (by omega)]⟩
   rw[hh4];refine⟨by rw[hL];exact zL,?_⟩;generalize hB:LRec.mk .busy _ _ _ _ _ _=B;have hBL:({ B with st:= .ready,pending:=none } :LRec)=L:=by rw[←hB,←hL]
   have hBD:({ B with st:= .done,pending:=some .ret } :LRec)= { L with st:= .done,pending:=some .ret } :=by rw[←hB,←hL]
   generalize h5e:Heap.set h4 (g.next+2) (.loop B)=h5;have a1:h5.at' g.next=some (.row [.int .i64 0]):=by rw[←h5e,zH (by omega)];exact z4
   have a2:h5.at' h3.next=some (.row [.int .i64 x.kind, .str x.name, .str x.exc,x.d]):=by rw[←h5e,zH (by omega)];exact zr
   have a3:h5.at' (g.next+2)=some (.loop B):=by rw[←h5e];simp[Heap.set]
   have a4:h5.next=h3.next+1:=by rw[←h5e,z8,zn]
   have a5:∀j,j<h3.next→j≠g.next+2→h5.at' j=h3.at' j:=fun j hj hn=>by rw[←h5e,zH hn,zk j hj]
   have hst:∀v:Int,zW Tryz.prog 41 (.ptr g.next 0) (.int .i64 v) h5=some (h5.set g.next (.row [.int .i64 v])):=fun v=>by rw[zh a1 zIz (by simp) rfl rfl];rfl
   clear hh4 hstx hL hB h5e z4 zL zr zk y50 herr;cases hv:(e.errAt i==0) with
   |true=>
    have hn:=wX (f:=e.errAt) y6 (by simpa using hv)
    repeat' first|simp only[go_sem,zKH, *]|apply bc<;>intro hc|(refine zA.mono (hck _) ?_;rintro r h ⟨rfl,rfl⟩)
    rename Heap=>h5
    refine wP a3 ⟨fun j=>j=g.next∨j=g.next+2,fun j hj=> .inl (by simpa using hj),⟨by simp only[z8];omega,fun j hj hS=> ?_⟩, .inl ⟨rfl,fun j=>Iff.rfl,y2,by simp only[z8];omega,?_,?_,hn⟩⟩
    ·have n2:j≠g.next+2:=fun e=>hS (by first|exact(y1 j).2 (.inr e)|exact .inr e)
     rw[zH n2,a5 j hj n2]
    ·rw[zH (by omega)];exact a1
    ·rw[zF,hBL]
   |false=>
    have hn:zEy e.errAt e.size=e.errAt i:=zCI hi y6 (by simpa using hv)
    repeat' first|simp only[go_sem,zKH, *]|apply bc<;>intro hc|(refine zA.mono (hck _) ?_;rintro r h ⟨rfl,rfl⟩)
    rename Heap=>h5
    refine zI3 (L:=B) (by rw[zH (by omega)];exact a3) ⟨fun j=>j=g.next∨j=g.next+2,fun j hj=> .inl (by simpa using hj),⟨by simp only[z8];omega,fun j hj hS=> ?_⟩, .inr ⟨rfl,fun j=>Iff.rfl,y2,by simp only[z8];omega,_,hn.symm,?_,?_⟩⟩
    ·have n1:j≠g.next:=fun e=>hS (by first|exact(y1 j).2 (.inl e)|exact .inl e)
     have n2:j≠g.next+2:=fun e=>hS (by first|exact(y1 j).2 (.inr e)|exact .inr e)
     rw[zH n2,zH n1,a5 j hj n2]
    ·rw[zH (by omega),zF]
    ·rw[zF,hBD]
 have hY0:zdv e g.next (g.next+2) L 0 (fun j=>j=g.next∨j=g.next+2) (G.new (g.next+2) (.loop L)):=
  ⟨fun j=>Iff.rfl,by omega,by rw[yJ _ (by omega)];omega,by rw[zM (by omega)];exact m1,zQ _ _ _,fun j hj=>absurd hj (Nat.not_lt_zero _)⟩
 have hnodes:=zKc y hok (fun j x hx=>by
  have:e.pre.getD j e=x:=by rw[List.getD_eq_getElem?_getD,hx];rfl
  rw[this]) hY0 (v:=g.next+1) (by rw[yJ _ (by omega)];omega) (by omega) (by rw[zM (by omega)];exact m2)
 refine hnodes.mono ?_;rintro r h ⟨S',s1,s2,s3⟩;have hE0:∀ (_:g.next+2<h.next) (_:∀j,S' j↔j=g.next∨j=g.next+2),Ext g (h.del (g.next+2)):=fun hn _=>by
  have hn2:(G.new (g.next+2) (.loop L)).next=g.next+3:=yJ _ (by omega) _;refine Ext.del ⟨by omega,fun i hi=> ?_⟩ (by omega);rw[s2.2 i (by omega) (by omega),zM (by omega),mE.2 i hi]
 rcases s3 with⟨y1,y2,y3,y4,y5,y6⟩ | ⟨y1,y2,y3,v,y4,y5,y6⟩
 ·have hLs:L.st≠ .busy:=by rw[←hL];intro q;cases q
  have hLp:L.pending=none:=by rw[←hL]
  refine⟨L,y5,hLs,?_⟩;rw[hLp,zBt];have hrow:(h.del (g.next+2)).at' g.next=some (.row [.int .i64 0]):=by rw[qP (by omega)];exact y4
  have hE:=hE0 y3 y1;have hst:zW Tryz.prog 41 (.ptr g.next 0) (.int .i64 0) (h.del (g.next+2))=some ((h.del (g.next+2)).set g.next (.row [.int .i64 0])):=by rw[zh hrow zIz (by simp) rfl rfl];rfl
  have hE2:=hE.set (id:=g.next) (Nat.le_refl _) (.row [.int .i64 0]);rw[wW y6] at hR;subst hR;clear hnodes y hY0 s1 s2 hL hLs hLp y1 y4 y5 y6 hE0
  repeat' first|simp only[go_sem,zKH,zF, *]|apply bc<;>intro hc
 ·refine⟨_,y6,?_,?_⟩
  ·intro q;cases q
  simp only[zLo];have hrow:(h.del (g.next+2)).at' g.next=some (.row [.int .i64 v]):=by rw[qP (by omega)];exact y5
  have hE:=hE0 y3 y1;rw[←y4] at hR;subst hR;clear hnodes y hY0 s1 s2 hL y1 y4 y5 y6 hE0
  repeat' first|simp only[go_sem,zKH, *]|apply bc<;>intro hc
def zTS (c:Cat) (x:Ex):Int:=if(!(x.name== [])&& !zIV c x.name x.exc)=true then 7 else 0
def Ex.unk (c:Cat) (e:Ex) (i:Nat):Int:=zTS c (e.pre.getD i e)
def zAQ (c:Cat) (e:Ex):Int:=
 if(!(wk c==0))=true then 1
 else if(!(zCt e==0))=true then zCt e
 else zEy (Ex.unk c e) e.size
def zdw (f:Nat→Int) (N c id:Nat) (L:LRec) (k:Nat) (S:Nat→Prop) (h:Heap):Prop:=
 (∀j,S j↔j=c∨j=id)∧c<id∧id<h.next∧h.at' c=some (.row [.int .i64 0])∧h.at' id=some (.loop L)∧∀j,j<k→f j=0
def zhU (f:Nat→Int) (N c id:Nat) (L:LRec) (S:Nat→Prop) (h:Heap):Prop:=
 (∀j,S j↔j=c∨j=id)∧c<id∧id<h.next∧∃v,v=zEy f N∧h.at' c=some (.row [.int .i64 v])∧h.at' id=some (.loop { L with st:= .done,pending:=some .ret })
set_option maxHeartbeats 4000000 in
theorem zHp {c:Cat} {d:D} (hc:wR c d) (hs:c.Sm) {e:Ex} (hok:e.Ok) (hsz:e.size≤1048576) (g:Heap):zA Tryz.prog 196 [d, .agg e.cells] g fun r h'=>h'=g∧r= .int .i64 (zAQ c e):=by
 refine zA.pure (by kernel_rfl) fun hh=> ?_;have hbel:∀k:Int,below g.next (.int .i64 k):=fun k=>trivial;have hv4:∀a b c e:D,ze true 4 [a,b,c,e] 0=some (.agg [a,b,c,e]):=fun a b c e=>zB rfl (by omega);have c1:=zFU hc hs;have c2:=zNg hok hsz;have hkn:=fun lic exc h=>zZs hc hs lic exc h;obtain⟨ca,cb,ce,cp,rfl,_,_,_,_⟩:=hc;have hbt:∀u v:List UInt8,yn Tryz.prog 51 [(0, .str u),(1, .str v)]=some (.agg [.str u, .str v]):=fun u v=>by simp[yn,zFE,zCB,wl,D.notTuple,D.cells,y8]
 have hnd:=fun h=>zNe e h;obtain⟨G0,hG0,r0,E0,n0⟩:∃G,g.new g.next (.row [.int .i64 0])=G∧G.at' g.next=some (.row [.int .i64 0])∧Ext g G∧G.next=g.next+1:=⟨_,rfl,zQ _ _ _,(Ext.refl g).new (Nat.le_refl _) _,zK _ _⟩;have hst:∀v:Int,zW Tryz.prog 41 (.ptr g.next 0) (.int .i64 v) G0=some (G0.set g.next (.row [.int .i64 v])):=fun v=>by rw[zh r0 zIz (by simp) rfl rfl];rfl
 have hEs:∀v:Int,Ext g (G0.set g.next (.row [.int .i64 v])):=fun v=>E0.set (Nat.le_refl _) _;obtain⟨R,hR⟩:∃R,zAQ c e=R:=⟨_,rfl⟩;rw[hR];unfold zAQ at hR;refine zA.of_fn (g:=zLc) mix Tryz.func196 zcP rfl rfl ?_;simp only[Tryz.f196,gJ];simp only[Ex.cells] at c2 hnd⊢;cases q1:(wk c==0) with
 |false=>
  rw[if_pos (by rw[q1];rfl)] at hR;subst hR;clear hnd hkn
  repeat' first|simp only[go_sem,zIO,zF, *]|apply bc<;>intro hc|(refine zA.mono (c1 _) ?_;rintro r h ⟨rfl,rfl⟩)
 |true=>
 rw[if_neg (by rw[q1];decide)] at hR;cases q2:(zCt e==0) with
 |false=>
  rw[if_pos (by rw[q2];rfl)] at hR;subst hR;clear hnd hkn
  repeat' first|simp only[go_sem,zIO,zF, *]|apply bc<;>intro hc|(refine zA.mono (c1 _) ?_;rintro r h ⟨rfl,rfl⟩)|(refine zA.mono (c2 _) ?_;rintro r h ⟨rfl,rfl⟩)
 |true=>
 rw[if_neg (by rw[q2];decide)] at hR
 repeat' first|simp only[go_sem,zIO, *]|apply bc<;>intro hc|(refine zA.mono (c1 _) ?_;rintro r h ⟨rfl,rfl⟩)|(refine zA.mono (c2 _) ?_;rintro r h ⟨rfl,rfl⟩)
 rename Heap=>G1
 refine(hnd _).mono ?_;rintro r h2 ⟨rfl,rfl⟩
 repeat' first|simp only[go_sem,zIO, *]|apply bc<;>intro hc
 obtain⟨G,hG,hGn,m1,m2,mE⟩:∃G,G1.new (g.next+1) (.row [zAP (g.next+1)])=G∧G.next=g.next+2∧G.at' g.next=some (.row [.int .i64 0])∧G.at' (g.next+1)=some (.row [zAP (g.next+1)])∧Ext g G:=
  ⟨_,rfl,yJ _ (by omega) _,by rw[zM (by omega)];exact r0,zQ _ _ _,E0.new (by omega) _⟩
 rw[hG,hGn];clear hG hnd c1 c2 hst hEs r0 E0 n0 hG0;generalize hL:LRec.mk _ _ _ _ _ _ _=L;have y:Yld Tryz.prog (g.next+2) e.size (fun i=>[.agg (e.pre.getD i e).cells]) (zdw (Ex.unk c e) e.size g.next (g.next+2) L) (zhU (Ex.unk c e) e.size g.next (g.next+2) L):=by
  refine⟨fun k S h y i hi=> ?_,fun k S h h' y hn hk=> ?_,fun S h y i hi=> ?_,fun S h h' y hn hk=> ?_,fun i S h3 hi hy=> ?_⟩
  ·obtain⟨y1,y2,y3,y4,y5⟩:=y;rcases(y1 i).1 hi with rfl|rfl<;>omega
  ·obtain⟨y1,y2,y3,y4,y5,y6⟩:=y;exact⟨y1,y2,by omega,by rw[hk _ ((y1 _).2 (.inl rfl))];exact y4,by rw[hk _ ((y1 _).2 (.inr rfl))];exact y5,y6⟩
  ·obtain⟨y1,y2,y3,y4⟩:=y;rcases(y1 i).1 hi with rfl|rfl<;>omega
  ·obtain⟨y1,y2,y3,v,y4,y5,y6⟩:=y;exact⟨y1,y2,by omega,v,y4,by rw[hk _ ((y1 _).2 (.inl rfl))];exact y5,by rw[hk _ ((y1 _).2 (.inr rfl))];exact y6⟩
  ·obtain⟨y1,y2,y3,y4,y5,y6⟩:=hy;have y50:=y5;rw[←hL] at y50;have hox:=Ex.pre_okAt hok i;have herr:zTS c (e.pre.getD i e)=Ex.unk c e i:=rfl;unfold zTS at herr;generalize e.pre.getD i e=x at *
   have hstx:=zTQ x (Ex.flat hox) h3 h3.next;simp only[Ex.cells];refine qp.round (g:=zLc) mix y50 rfl (by kernel_rfl) (by kernel_rfl) (by kernel_rfl) ?_;simp only[go_sem,zIO,hstx];obtain⟨h4,hh4,z4,zL,zr,zn,zk⟩:∃h4,h3.new h3.next (.row [.int .i64 x.kind, .str x.name, .str x.exc,x.d])=h4∧h4.at' g.next=some (.row [.int .i64 0])∧h4.at' (g.next+2)=some (.loop L)∧h4.at' h3.next=some (.row [.int .i64 x.kind, .str x.name, .str x.exc,x.d])∧h4.next=h3.next+1∧∀j,j<h3.next→h4.at' j=h3.at' j:=
    ⟨_,rfl,by rw[zM (by omega)];exact y4,by rw[zM (by omega)];exact y5,zQ _ _ _,zK _ _,fun j hj=>by rw[zM (by omega)]⟩
   rw[hh4];refine⟨by rw[hL];exact zL,?_⟩;generalize hB:LRec.mk .busy _ _ _ _ _ _=B;have hBL:({ B with st:= .ready,pending:=none } :LRec)=L:=by rw[←hB,←hL]
   have hBD:({ B with st:= .done,pending:=some .ret } :LRec)= { L with st:= .done,pending:=some .ret } :=by rw[←hB,←hL]
   generalize h5e:Heap.set h4 (g.next+2) (.loop B)=h5;have a1:h5.at' g.next=some (.row [.int .i64 0]):=by rw[←h5e,zH (by omega)];exact z4
   have a2:h5.at' h3.next=some (.row [.int .i64 x.kind, .str x.name, .str x.exc,x.d]):=by rw[←h5e,zH (by omega)];exact zr
   have a3:h5.at' (g.next+2)=some (.loop B):=by rw[←h5e];simp[Heap.set]
   have a4:h5.next=h3.next+1:=by rw[←h5e,z8,zn]
   have a5:∀j,j<h3.next→j≠g.next+2→h5.at' j=h3.at' j:=fun j hj hn=>by rw[←h5e,zH hn,zk j hj]
   have hst:∀v:Int,zW Tryz.prog 41 (.ptr g.next 0) (.int .i64 v) h5=some (h5.set g.next (.row [.int .i64 v])):=fun v=>by rw[zh a1 zIz (by simp) rfl rfl];rfl
   clear hh4 hstx hL hB h5e z4 zL zr zk y50;have hck:=hkn x.name x.exc;clear hkn;cases b1:(x.name== []) with
   |true=>
    have hn:=wX (f:=Ex.unk c e) y6 (by rw[←herr,if_neg (by rw[b1];exact Bool.false_ne_true)]);clear herr hck
    repeat' first|simp only[go_sem,zIO, *]|apply bc<;>intro hc
    refine wP a3 ⟨fun j=>j=g.next∨j=g.next+2,fun j hj=> .inl (by simpa using hj),⟨by simp only[z8];omega,fun j hj hS=> ?_⟩, .inl ⟨rfl,fun j=>Iff.rfl,y2,by simp only[z8];omega,?_,?_,hn⟩⟩
    ·have n2:j≠g.next+2:=fun e=>hS (by first|exact(y1 j).2 (.inr e)|exact .inr e)
     rw[zH n2,a5 j hj n2]
    ·rw[zH (by omega)];exact a1
    ·rw[zF,hBL]
   |false=>
   cases b2:zIV c x.name x.exc with
   |true=>
    have hn:=wX (f:=Ex.unk c e) y6 (by rw[←herr,if_neg (by rw[b1,b2];decide)]);rw[b2] at hck;clear herr b2
    repeat' first|simp only[go_sem,zIO, *]|apply bc<;>intro hc|(refine zA.mono (hck _) ?_;rintro r h ⟨rfl,rfl⟩)
    rename Heap=>h5
    refine wP a3 ⟨fun j=>j=g.next∨j=g.next+2,fun j hj=> .inl (by simpa using hj),⟨by simp only[z8];omega,fun j hj hS=> ?_⟩, .inl ⟨rfl,fun j=>Iff.rfl,y2,by simp only[z8];omega,?_,?_,hn⟩⟩
    ·have n2:j≠g.next+2:=fun e=>hS (by first|exact(y1 j).2 (.inr e)|exact .inr e)
     rw[zH n2,a5 j hj n2]
    ·rw[zH (by omega)];exact a1
    ·rw[zF,hBL]
   |false=>
    have hw:Ex.unk c e i=7:=by rw[←herr,if_pos (by rw[b1,b2];rfl)]
    have hn:zEy (Ex.unk c e) e.size=7:=by rw[zCI hi y6 (by rw[hw];decide),hw]
    rw[b2] at hck;clear herr b2 hw
    repeat' first|simp only[go_sem,zIO, *]|apply bc<;>intro hc|(refine zA.mono (hck _) ?_;rintro r h ⟨rfl,rfl⟩)
    rename Heap=>h5
    refine zI3 (L:=B) (by rw[zH (by omega)];exact a3) ⟨fun j=>j=g.next∨j=g.next+2,fun j hj=> .inl (by simpa using hj),⟨by simp only[z8];omega,fun j hj hS=> ?_⟩, .inr ⟨rfl,fun j=>Iff.rfl,y2,by simp only[z8];omega,_,hn.symm,?_,?_⟩⟩
    ·have n1:j≠g.next:=fun e=>hS (by first|exact(y1 j).2 (.inl e)|exact .inl e)
     have n2:j≠g.next+2:=fun e=>hS (by first|exact(y1 j).2 (.inr e)|exact .inr e)
     rw[zH n2,zH n1,a5 j hj n2]
    ·rw[zH (by omega),zF]
    ·rw[zF,hBD]
 have hY0:zdw (Ex.unk c e) e.size g.next (g.next+2) L 0 (fun j=>j=g.next∨j=g.next+2) (G.new (g.next+2) (.loop L)):=
  ⟨fun j=>Iff.rfl,by omega,by rw[yJ _ (by omega)];omega,by rw[zM (by omega)];exact m1,zQ _ _ _,fun j hj=>absurd hj (Nat.not_lt_zero _)⟩
 have hnodes:=zKc y hok (fun j x hx=>by
  have:e.pre.getD j e=x:=by rw[List.getD_eq_getElem?_getD,hx];rfl
  rw[this]) hY0 (v:=g.next+1) (by rw[yJ _ (by omega)];omega) (by omega) (by rw[zM (by omega)];exact m2)
 refine hnodes.mono ?_;rintro r h ⟨S',s1,s2,s3⟩;have hE0:∀ (_:g.next+2<h.next) (_:∀j,S' j↔j=g.next∨j=g.next+2),Ext g (h.del (g.next+2)):=fun hn _=>by
  have hn2:(G.new (g.next+2) (.loop L)).next=g.next+3:=yJ _ (by omega) _;refine Ext.del ⟨by omega,fun i hi=> ?_⟩ (by omega);rw[s2.2 i (by omega) (by omega),zM (by omega),mE.2 i hi]
 rcases s3 with⟨y1,y2,y3,y4,y5,y6⟩ | ⟨y1,y2,y3,v,y4,y5,y6⟩
 ·have hLs:L.st≠ .busy:=by rw[←hL];intro q;cases q
  have hLp:L.pending=none:=by rw[←hL]
  refine⟨L,y5,hLs,?_⟩;rw[hLp,zBt];have hrow:(h.del (g.next+2)).at' g.next=some (.row [.int .i64 0]):=by rw[qP (by omega)];exact y4
  have hE:=hE0 y3 y1;have hst:zW Tryz.prog 41 (.ptr g.next 0) (.int .i64 0) (h.del (g.next+2))=some ((h.del (g.next+2)).set g.next (.row [.int .i64 0])):=by rw[zh hrow zIz (by simp) rfl rfl];rfl
  have hE2:=hE.set (id:=g.next) (Nat.le_refl _) (.row [.int .i64 0]);rw[wW y6] at hR;subst hR;clear hnodes y hY0 s1 s2 hL hLs hLp y1 y4 y5 y6 hE0
  repeat' first|simp only[go_sem,zIO,zF, *]|apply bc<;>intro hc
 ·refine⟨_,y6,?_,?_⟩
  ·intro q;cases q
  simp only[zLo];have hrow:(h.del (g.next+2)).at' g.next=some (.row [.int .i64 v]):=by rw[qP (by omega)];exact y5
  have hE:=hE0 y3 y1;rw[←y4] at hR;subst hR;clear hnodes y hY0 s1 s2 hL y1 y4 y5 y6 hE0
  repeat' first|simp only[go_sem,zIO, *]|apply bc<;>intro hc
structure Fac where
 kind:Int
 comp:List UInt8
 out:List UInt8
 rel:Int
 way:Int
 duty:Int
 chg:Bool
 e:Ex
 list:List (List UInt8)
 d:D
def Fac.cells (f:Fac):List D:=[.int .i64 f.kind, .str f.comp, .str f.out, .int .i64 f.rel, .int .i64 f.way, .int .i64 f.duty, .bool f.chg, .int .i64 f.e.kind, .str f.e.name, .str f.e.exc,f.e.d,f.d]
structure Fac.Ok (f:Fac):Prop where
 e:f.e.Ok
 es:f.e.size≤1048576
 list:zX 1 (zt f.list) f.d
 ll:f.list.length≤1048576
 comp:f.comp.length≤1048576
 out:f.out.length≤1048576
structure Use where
 comp:Bool
 out:Bool
 rel:Bool
 chg:Bool
 e:Bool
 way:Bool
 list:Bool
 duty:Bool
def Use.cells (u:Use):List D:=[.bool u.comp, .bool u.out, .bool u.rel, .bool u.chg, .bool u.e, .bool u.way, .bool u.list, .bool u.duty]
def zEl (k:Int):Use×Bool:=
 if(k==0)=true then(⟨true,true,true,true,false,false,false,false⟩,true)
 else if(k==1)=true then(⟨true,false,false,false,true,false,false,false⟩,true)
 else if(k==2)=true then(⟨false,true,false,false,false,true,false,false⟩,true)
 else if(k==3)=true then(⟨false,true,false,false,false,false,true,false⟩,true)
 else if(k==4)=true then(⟨true,false,false,false,false,false,false,true⟩,true)
 else(⟨false,false,false,false,false,false,false,false⟩,false)
theorem zdx (k:Int) (g:Heap):zA Tryz.prog 223 [.int .i64 k] g fun r h'=>h'=g∧r= .tuple [.agg (zEl k).1.cells, .bool (zEl k).2]:=by
 refine zA.pure (by kernel_rfl) fun hok=> ?_;have b1:yn Tryz.prog 288 [(0, .bool true),(1, .bool true),(2, .bool true),(3, .bool true)]=some (.agg [.bool true, .bool true, .bool true, .bool true, .bool false, .bool false, .bool false, .bool false]):=by simp[yn,zAM,zBs,wl,y8,D.notTuple,D.cells]
 have b2:yn Tryz.prog 288 [(0, .bool true),(4, .bool true)]=some (.agg [.bool true, .bool false, .bool false, .bool false, .bool true, .bool false, .bool false, .bool false]):=by simp[yn,zAM,zBs,wl,y8,D.notTuple,D.cells]
 have b3:yn Tryz.prog 288 [(1, .bool true),(5, .bool true)]=some (.agg [.bool false, .bool true, .bool false, .bool false, .bool false, .bool true, .bool false, .bool false]):=by simp[yn,zAM,zBs,wl,y8,D.notTuple,D.cells]
 have b4:yn Tryz.prog 288 [(1, .bool true),(6, .bool true)]=some (.agg [.bool false, .bool true, .bool false, .bool false, .bool false, .bool false, .bool true, .bool false]):=by simp[yn,zAM,zBs,wl,y8,D.notTuple,D.cells]
 have b5:yn Tryz.prog 288 [(0, .bool true),(7, .bool true)]=some (.agg [.bool true, .bool false, .bool false, .bool false, .bool false, .bool false, .bool false, .bool true]):=by simp[yn,zAM,zBs,wl,y8,D.notTuple,D.cells]
 have b6:yn Tryz.prog 288 []=some (.agg [.bool false, .bool false, .bool false, .bool false, .bool false, .bool false, .bool false, .bool false]):=by simp[yn,zAM,zBs,wl,y8,D.notTuple,D.cells]
 have hst:∀a b c e f i j k:Bool,zW Tryz.prog 288 (.ptr g.next 0) (.agg [.bool a, .bool b, .bool c, .bool e, .bool f, .bool i, .bool j, .bool k]) (g.new g.next (.row [.bool false, .bool false, .bool false, .bool false, .bool false, .bool false, .bool false, .bool false]))=some (g.new g.next (.row [.bool a, .bool b, .bool c, .bool e, .bool f, .bool i, .bool j, .bool k])):=fun a b c e f i j k=>zg zRe (by omega) rfl rfl rfl;have hE:∀o,Ext g (g.new g.next o):=fun o=>(Ext.refl g).new (Nat.le_refl _) o
 have hv8:∀a b c e f i j k:D,ze true 8 [a,b,c,e,f,i,j,k] 0=some (.agg [a,b,c,e,f,i,j,k]):=fun a b c e f i j k=>zB rfl (by omega);have hbel:∀a b c e f i j k x:Bool,below g.next (.tuple [.agg [.bool a, .bool b, .bool c, .bool e, .bool f, .bool i, .bool j, .bool k], .bool x]):=fun a b c e f i j k x=>by simp[below,yB]
 unfold zEl Use.cells;refine zA.of_fn (g:=zOr) mix Tryz.func223 zdA rfl rfl ?_;simp only[Tryz.f223,gJ]
 repeat' first|simp only[go_sem,zgt,zQ, *]|apply bc<;>intro hc
theorem zZy (x:Ex) (g:Heap) (hok:x.Ok):zA Tryz.prog 251 [.agg x.cells] g fun r h'=>h'=g∧r= .bool ((x.kind==0)&&(x.name== [])&&(x.exc== [])&&((x.kids.length:Int)==0)):=by
 obtain⟨kd,nm,xc,l,d⟩:=x;simp only[Ex.Ok] at hok;have hlen:=zDt hok.1;have hv4:∀a b c e:D,ze true 4 [a,b,c,e] 0=some (.agg [a,b,c,e]):=fun a b c e=>zB rfl (by omega);refine zA.of_fn (g:=zOx) mix Tryz.func251 zdR rfl rfl ?_;simp only[Tryz.f251,gJ];simp only[Ex.cells,Ex.kind,Ex.name,Ex.exc,Ex.d,Ex.kids]
 repeat' first|simp only[go_sem,zhA, *]|apply bc<;>intro hc
def zXf (x:Ex):Bool:=(x.kind==0)&&(x.name== [])&&(x.exc== [])&&((x.kids.length:Int)==0)
def zEm (f:Fac) (u:Use):Bool:=
 (!u.comp&& !(f.comp== []))||(!u.out&& !(f.out== []))||(!u.rel&& !(f.rel==0))||(!u.chg&&f.chg)||(!u.e&& !zXf f.e)||(!u.way&& !(f.way==0))||(!u.list&&decide ((f.list.length:Int)>0))||(!u.duty&& !(f.duty==0))
theorem zKd (a b c d e f g h i j k l:D):ze true 12 [a,b,c,d,e,f,g,h,i,j,k,l] 0=some (.agg [a,b,c,d,e,f,g,h,i,j,k,l]):=zB rfl (by omega)
theorem zKe (a b c d e f g h i j k l:D):ze true 4 [a,b,c,d,e,f,g,h,i,j,k,l] 7=some (.agg [h,i,j,k]):=by simp[ze]
set_option maxHeartbeats 4000000 in
theorem zZz {f:Fac} (hok:f.Ok) {k:Int} (hk:(zEl k).2=true) (g:Heap):zA Tryz.prog 224 [.agg f.cells, .agg (zEl k).1.cells] g fun r h'=>h'=g∧r= .bool (zEm f (zEl k).1):=by
 have hp:=fun h=>zZy f.e h hok.e;have hps:((f.e.kind==0)&&(f.e.name== [])&&(f.e.exc== [])&&((f.e.kids.length:Int)==0))=zXf f.e:=rfl;rw[hps] at hp;have hll:=yA hok.list;have h12:=zKd;have h47:=zKe;simp only[Ex.cells] at hp;clear hps;refine zA.of_fn (g:=zOw) mix Tryz.func224 zdQ rfl rfl ?_;simp only[Tryz.f224,gJ];unfold zEl at hk⊢;cases k0:(k==0) with
 |true=>
  simp only[if_true,Use.cells,Fac.cells,zEm];clear hk
  repeat' first|simp only[go_sem,zSl, *]|apply bc<;>intro hc|(refine zA.mono (hp _) ?_;rintro r h ⟨rfl,rfl⟩)
 |false=>
 cases k1:(k==1) with
 |true=>
  simp only[Bool.false_eq_true,if_true,if_false,Use.cells,Fac.cells,zEm];clear hk
  repeat' first|simp only[go_sem,zSl, *]|apply bc<;>intro hc|(refine zA.mono (hp _) ?_;rintro r h ⟨rfl,rfl⟩)
 |false=>
 cases k2:(k==2) with
 |true=>
  simp only[Bool.false_eq_true,if_true,if_false,Use.cells,Fac.cells,zEm];clear hk
  repeat' first|simp only[go_sem,zSl, *]|apply bc<;>intro hc|(refine zA.mono (hp _) ?_;rintro r h ⟨rfl,rfl⟩)
 |false=>
 cases k3:(k==3) with
 |true=>
  simp only[Bool.false_eq_true,if_true,if_false,Use.cells,Fac.cells,zEm];clear hk
  repeat' first|simp only[go_sem,zSl, *]|apply bc<;>intro hc|(refine zA.mono (hp _) ?_;rintro r h ⟨rfl,rfl⟩)
 |false=>
 cases k4:(k==4) with
 |true=>
  simp only[Bool.false_eq_true,if_true,if_false,Use.cells,Fac.cells,zEm];clear hk
  repeat' first|simp only[go_sem,zSl, *]|apply bc<;>intro hc|(refine zA.mono (hp _) ?_;rintro r h ⟨rfl,rfl⟩)
 |false=>
 rw[k0,k1,k2,k3,k4] at hk;cases hk
def zPH (c:Cat) (f:Fac) (u:Use):Int:=
 if((u.comp&& !(zGC f.comp==0))||(u.out&& !(zGC f.out==0)))=true then 2
 else if(decide (f.rel<0)||decide (f.rel>2)||decide (f.way<0)||decide (f.way>2)||decide (f.duty<0)||decide (f.duty>3))=true then 3
 else if u.e=true then zAQ c f.e
 else if(f.list.any fun s=> !(w7 c s).isSome)=true then 7
 else if(!zHi f.list)=true then 5 else 0
def zCu (c:Cat) (f:Fac):Int:=
 if(!(zEl f.kind).2||zEm f (zEl f.kind).1)=true then 1 else zPH c f (zEl f.kind).1
theorem zdy (u:Use) (h:Heap) (id:Nat):zW Tryz.prog 288 (.ptr id 0) (.agg u.cells) (h.new id (.row [.bool false, .bool false, .bool false, .bool false, .bool false, .bool false, .bool false, .bool false]))=some (h.new id (.row u.cells)):=zg zRe (by omega) rfl rfl rfl
set_option maxHeartbeats 8000000 in
theorem zNh {c:Cat} {d:D} (hc:wR c d) (hs:c.Sm) {f:Fac} (hok:f.Ok) (g:Heap):zA Tryz.prog 195 [d, .agg f.cells] g fun r h'=>h'=g∧r= .int .i64 (zCu c f):=by
 refine zA.pure (by kernel_rfl) fun hh=> ?_;have hbel:∀k:Int,below g.next (.int .i64 k):=fun k=>trivial;have hu:=zdx f.kind;have hp1:=zFN hok.comp;have hp2:=zFN hok.out;have hex:=fun h=>zHp hc hs hok.e hok.es h;have hfi:=fun k h=>zME hc hs k h;have hll:=yA hok.list;have h12:=zKd;have h47:=zKe;obtain⟨ca,cb,ce,cp,rfl,_,_,_,_⟩:=hc;have hv4:∀a b c e:D,ze true 4 [a,b,c,e] 0=some (.agg [a,b,c,e]):=fun a b c e=>zB rfl (by omega);have hv8:∀a b c e f i j k:D,ze true 8 [a,b,c,e,f,i,j,k] 0=some (.agg [a,b,c,e,f,i,j,k]):=fun a b c e f i j k=>zB rfl (by omega)
 have hxe:∀hk:(zEl f.kind).2=true,∀h,zA Tryz.prog 224 [.agg f.cells, .agg (zEl f.kind).1.cells] h fun r h'=>h'=h∧r= .bool (zEm f (zEl f.kind).1):=fun hk h=>zZz hok hk h;obtain⟨R,hR⟩:∃R,zCu c f=R:=⟨_,rfl⟩;rw[hR];unfold zCu at hR;generalize hU:zEl f.kind=U at *
 obtain⟨u,ub⟩:=U;simp only at hR hxe hu;have hst:=zdy u g g.next;obtain⟨G,hG,r0,E0,n0⟩:∃G,g.new g.next (.row u.cells)=G∧G.at' g.next=some (.row u.cells)∧Ext g G∧G.next=g.next+1:=⟨_,rfl,zQ _ _ _,(Ext.refl g).new (Nat.le_refl _) _,zK _ _⟩;rw[hG] at hst;obtain⟨u1,u2,u3,u4,u5,u6,u7,u8⟩:=u;simp only[Use.cells] at hst r0 hu hxe;simp only[Ex.cells] at hex;refine zA.of_fn (g:=zOv) mix Tryz.func195 zdO rfl rfl ?_;simp only[Tryz.f195,gJ];simp only[Fac.cells] at hxe⊢;cases ub with
 |false=>
  rw[if_pos (by simp)] at hR;subst hR;clear hxe hU
  repeat' first|simp only[go_sem,zFG, *]|apply bc<;>intro hc|(refine zA.mono (hu _) ?_;rintro r h ⟨hq,rfl⟩)
 |true=>
 have hxe:=hxe rfl;cases hx:zEm f ⟨u1,u2,u3,u4,u5,u6,u7,u8⟩ with
 |true=>
  rw[if_pos (by rw[hx];rfl)] at hR;subst hR;clear hU;rw[hx] at hxe
  repeat' first|simp only[go_sem,zFG, *]|apply bc<;>intro hc|(refine zA.mono (hu _) ?_;rintro r h ⟨hq,rfl⟩)|(refine zA.mono (hxe _) ?_;rintro r h ⟨rfl,rfl⟩)
 |false=>
 rw[if_neg (by rw[hx];decide)] at hR;rw[hx] at hxe;clear hU hx;unfold zPH at hR;obtain⟨L,hL⟩:∃L,(f.list.any fun s=> !(w7 c s).isSome)=L:=⟨_,rfl⟩;obtain⟨W,hW⟩:∃W,zHi f.list=W:=⟨_,rfl⟩;simp only[hL,hW] at hR;subst hR;clear hG
 repeat' first|simp only[go_sem,zFG, *]|apply bc<;>intro hc|(refine zA.mono (hu _) ?_;rintro r h ⟨hq,rfl⟩)|(refine zA.mono (hxe _) ?_;rintro r h ⟨rfl,rfl⟩)|(refine zA.mono (hp1 _) ?_;rintro r h ⟨rfl,rfl⟩)|(refine zA.mono (hp2 _) ?_;rintro r h ⟨rfl,rfl⟩)|(refine zA.mono (hex _) ?_;rintro r h ⟨rfl,rfl⟩)
 all_goals
  rename Heap=>G
  clear hxe hex hp1 hp2 hu hst;refine zD (fun k fr h=>fr 2= .iptr [ca,cb,ce,cp] 0∧fr 3= .iptr [.int .i64 f.kind, .str f.comp, .str f.out, .int .i64 f.rel, .int .i64 f.way, .int .i64 f.duty, .bool f.chg, .int .i64 f.e.kind, .str f.e.name, .str f.e.exc,f.e.d,f.d] 0∧fr 78=f.d∧fr 79= .int .i64 (f.list.length:Int)∧fr 80= .int .i64 (k:Int)∧Ext g h∧∀j (hj:j<f.list.length),j<k→(!(w7 c f.list[j]).isSome)=false) f.list.length (by have:=hok.ll;omega) ?_ ?_ ?_
  ·simp only[go_sem,zFG,true_and,and_true,Int.ofNat_zero];exact⟨E0,fun j hj h0=>absurd h0 (Nat.not_lt_zero _)⟩
  ·clear E0 r0 n0;rintro k fr h hlt ec ew ⟨f2,f3,f78,f79,f80,hE,hj⟩;have a1:=yz hok.list hlt;have hfd:=hfi f.list[k];have hstL:=fun x:Lic=>zCT x h h.next;cases hf:w7 c f.list[k] with
   |none=>
    have hd:zBx c f.list[k]= .tuple [.agg zEg, .bool false]:=by unfold zBx;rw[hf]
    have hL1:L=true:=by rw[←hL];exact zTB (p:=fun s=> !(w7 c s).isSome) hlt (by simp only[hf];rfl)
    have hs0:=hstL ⟨[],[],0,[]⟩;have hE2:=hE.new hE.1 (.row zEg);rw[hd] at hfd;subst hL1;clear hj hfi hd hL hf hstL
    repeat' first|simp only[go_sem,zFG, *]|apply bc<;>intro hc|(refine zA.mono (hfd _) ?_;rintro r h ⟨rfl,rfl⟩)
   |some x=>
    have hd:zBx c f.list[k]= .tuple [.agg [.str x.name, .str x.fam, .int .i64 x.ver, .str x.text], .bool true]:=by unfold zBx;rw[hf]
    have hn:=ql (p:=fun s=> !(w7 c s).isSome) hlt hj (by simp only[hf];rfl);have hs0:=hstL x;have hE2:=hE.new hE.1 (.row [.str x.name, .str x.fam, .int .i64 x.ver, .str x.text]);rw[hd] at hfd;clear hj hfi hd hf hstL
    repeat' first|simp only[go_sem,zFG, *]|apply bc<;>intro hc|(refine zA.mono (hfd _) ?_;rintro r h ⟨rfl,rfl⟩)
    exact hn
  ·clear E0 r0 n0 hfi;rintro fr h ec ⟨f2,f3,f78,f79,f80,hE,hj⟩;have hL1:L=false:=by rw[←hL];exact zJA fun j hj' _=>hj j hj' hj'
   subst hL1;clear hj hL;simp only[go_sem,zFG,f2,f3,f78,f79,f80,ec];refine yG (fun i fr k=>fr 3= .iptr [.int .i64 f.kind, .str f.comp, .str f.out, .int .i64 f.rel, .int .i64 f.way, .int .i64 f.duty, .bool f.chg, .int .i64 f.e.kind, .str f.e.name, .str f.e.exc,f.e.d,f.d] 0∧fr 11= .int .i64 ((i+1:Nat):Int)∧Ext g k∧∀j,j<i→j<f.list.length-1→leB (f.list.getD (j+1) []) (f.list.getD j [])=false) f.list.length ?_ ?_
   ·simp only[go_sem,zFG,true_and,and_true,Int.ofNat_zero];exact⟨f3,rfl,hE,fun j hj=>absurd hj (Nat.not_lt_zero _)⟩
   clear hE f2 f3 f78 f79 f80 ec;rintro i fr h hi ⟨f3,f11,hE,hj⟩;have hll2:=hok.ll;by_cases hlt:i+1<f.list.length
   ·have e1:decide (((i+1:Nat):Int)<(f.list.length:Int))=true:=decide_eq_true (by omega);have ew:IntKind.i64.wrap (((i+1:Nat):Int)+1)=((i+2:Nat):Int):=zf (by unfold lim;omega);have ew2:IntKind.i64.wrap (((i+1:Nat):Int)-1)=((i:Nat):Int):=by rw[zx (by omega) (by omega)];omega
    have a1:=yz hok.list hlt;have a2:=yz hok.list (show i<f.list.length by omega);have a3:=zEf f.list[i+1] f.list[i];cases hb:leB f.list[i+1] f.list[i] with
    |true=>
     have hr0:zHi f.list=false:=decide_eq_false fun q=>by
      have:=q i (by omega);rw[zL4 hlt,zL4 (by omega),hb] at this;cases this
     have hr:W=false:=by rw[←hW];exact hr0
     clear hr0;subst hr;clear hj hW
     repeat' first|simp only[go_sem,zFG, *]|apply bc<;>intro hc
     refine zi (by kernel_rfl) ?_
     repeat' first|simp only[go_sem,zFG, *]|apply bc<;>intro hc
    |false=>
     have hn:∀j,j<i+1→j<f.list.length-1→leB (f.list.getD (j+1) []) (f.list.getD j [])=false:=fun j h1 h2=>by
      rcases Nat.lt_succ_iff_lt_or_eq.1 h1 with q|rfl
      ·exact hj j q h2
      ·rw[zL4 hlt,zL4 (by omega),hb]
     clear hj
     repeat' first|simp only[go_sem,zFG, *]|apply bc<;>intro hc
     refine zi (by kernel_rfl) ?_
     repeat' first|simp only[go_sem,zFG, *]|apply bc<;>intro hc
     exact⟨by omega,hn⟩
   ·have e1:decide (((i+1:Nat):Int)<(f.list.length:Int))=false:=decide_eq_false (by omega);have hr:W=true:=by rw[←hW];exact decide_eq_true fun j h=>hj j (by omega) h
    subst hr;clear hj hW
    repeat' first|simp only[go_sem,zFG, *]|apply bc<;>intro hc
def zK1 (l:List Fac):List (List D):=l.map Fac.cells
theorem zNi (l:List Fac):(zK1 l).length=l.length:=List.length_map ..
theorem zVn {l:List Fac} {i:Nat} (h:i<l.length):(zK1 l)[i]? =some l[i].cells:=by simp[zK1,h]
theorem zEn {l:List Fac} {d:D} (hd:zX 12 (zK1 l) d) (h:Heap):zAd Tryz.prog 29 d h=some (.int .i64 l.length):=by rw[zP hd Tryz.underlying29,zNi]
theorem zFV {l:List Fac} {d:D} (hd:zX 12 (zK1 l) d) {i:Nat} (hi:i<l.length):zR Tryz.prog 29 d (.int .i64 (i:Int))=some (.iptr l[i].cells 0):=zE hd zUb zRb (zVn hi)
abbrev zj1:List D:=[.int .i64 0, .str [], .str [], .int .i64 0, .int .i64 0, .int .i64 0, .bool false, .int .i64 0, .str [], .str [], .nilsl, .nilsl]
theorem zJJ {f:Fac} (hok:f.Ok) (h:Heap) (id:Nat):zW Tryz.prog 83 (.ptr id 0) (.agg f.cells) (h.new id (.row zj1))=some (h.new id (.row f.cells)):=zg zRb (by omega) rfl rfl (by show(true&&(true&&(true&&(true&&(true&&(true&&(true&&(true&&(true&&(true&&(f.e.d.flat&&(f.d.flat&&true))))))))))))=true;rw[Ex.flat hok.e,zBd hok.list];rfl)
def zBy (c:Cat) (l:List Fac) (i:Nat):Int:=match l[i]? with
 |some f=>zCu c f
 |none=>0
def zVo (f:Nat→Int):Nat→Option (Nat×Int)
 |0=>none
 |n+1=>match zVo f n with
  |some p=>some p
  |none=>if(f n==0)=true then none else some (n,f n)
theorem zHq {f:Nat→Int} :∀ {n:Nat},(∀j,j<n→f j=0)→zVo f n=none
 |0,_=>rfl
 |n+1,h=>by simp[zVo,zHq (n:=n) fun j hj=>h j (by omega),h n (by omega)]
theorem zTT {f:Nat→Int} :∀ {n i:Nat},i<n→(∀j,j<i→f j=0)→f i≠0→zVo f n=some (i,f i)
 |n+1,i,hi,hj,h0=>by
  rcases Nat.lt_succ_iff_lt_or_eq.1 hi with q|rfl
  ·simp[zVo,zTT q hj h0]
  ·simp[zVo,zHq hj,h0]
def qm (c:Cat) (l:List Fac):Int×Int:=
 if(!(wk c==0))=true then(-1,1)
 else if decide ((l.length:Int)>256)=true then(-1,10)
 else match zVo (zBy c l) l.length with
  |some p=>((p.1:Int),p.2)
  |none=>(0,0)
set_option maxHeartbeats 4000000 in
theorem zNj {c:Cat} {d x:D} (hc:wR c d) (hs:c.Sm) {l:List Fac} (hx:zX 12 (zK1 l) x) (hl:l.length≤1048576) (hok:∀f∈l,f.Ok) (g:Heap):zA Tryz.prog 134 [d,x] g fun r h'=>h'=g∧r= .tuple [.int .i64 (qm c l).1, .int .i64 (qm c l).2]:=by
 refine zA.pure (by kernel_rfl) fun hh=> ?_;have hbel:∀k m:Int,below g.next (.tuple [.int .i64 k, .int .i64 m]):=fun k m=>by simp[below,yB]
 have hck:=zFU hc hs;have hcf:=fun f (hf:f∈l) h=>zNh hc hs (hok f hf) h;have hll:=zEn hx;have h12:=zKd;have hE0:=Ext.refl g;obtain⟨ca,cb,ce,cp,rfl,_,_,_,_⟩:=hc;have hv4:∀a b c e:D,ze true 4 [a,b,c,e] 0=some (.agg [a,b,c,e]):=fun a b c e=>zB rfl (by omega);refine zA.of_fn (g:=zOW) mix Tryz.func134 zcJ rfl rfl ?_;simp only[Tryz.f134,gJ];cases q1:(wk c==0) with
 |false=>
  have hR:qm c l=(-1,1):=if_pos (by rw[q1];rfl);clear hcf
  repeat' first|simp only[go_sem,zNB, *]|apply bc<;>intro hc|(refine zA.mono (hck _) ?_;rintro r h ⟨hq,rfl⟩)
 |true=>
 cases q2:decide ((l.length:Int)>256) with
 |true=>
  have hR:qm c l=(-1,10):=by unfold qm;rw[if_neg (by rw[q1];decide),if_pos q2]
  clear hcf
  repeat' first|simp only[go_sem,zNB, *]|apply bc<;>intro hc|(refine zA.mono (hck _) ?_;rintro r h ⟨hq,rfl⟩)
 |false=>
 have hR:qm c l=match zVo (zBy c l) l.length with
  |some p=>((p.1:Int),p.2)
  |none=>(0,0):=by unfold qm;rw[if_neg (by rw[q1];decide),if_neg (by rw[q2];exact Bool.false_ne_true)]
 obtain⟨R,eR⟩:∃R,qm c l=R:=⟨_,rfl⟩;rw[eR] at hR⊢;have hR2:=hR.symm;clear hR eR
 repeat' first|simp only[go_sem,zNB, *]|apply bc<;>intro hc|(refine zA.mono (hck _) ?_;rintro r h ⟨hq,rfl⟩)
 refine zD (fun k fr h=>fr 2= .iptr [ca,cb,ce,cp] 0∧fr 15=x∧fr 16= .int .i64 (l.length:Int)∧fr 17= .int .i64 (k:Int)∧Ext g h∧∀j,j<k→zBy c l j=0) l.length (by omega) ?_ ?_ ?_
 ·simp only[go_sem,zNB,true_and,and_true,Int.ofNat_zero];exact⟨hE0,fun j hj=>absurd hj (Nat.not_lt_zero _)⟩
 ·rintro k fr h hlt ec ew ⟨f2,f15,f16,f17,hE,hj⟩;have a1:=zFV hx hlt;have hf:=hcf l[k] (List.getElem_mem hlt);have hst:=zJJ (hok l[k] (List.getElem_mem hlt)) h h.next;have hE2:=hE.new hE.1 (.row l[k].cells);have hat:zBy c l k=zCu c l[k]:=by simp[zBy,hlt]
  generalize l[k]=f at *
  simp only[Fac.cells] at a1 hf hst hE2;cases hv:(zCu c f==0) with
  |true=>
   have hn:=wX hj (by rw[hat];simpa using hv);clear hj hcf hat hR2
   repeat' first|simp only[go_sem,zNB,zQ, *]|apply bc<;>intro hc|(refine zA.mono (hf _) ?_;rintro r h ⟨hq,rfl⟩)
   exact hn
  |false=>
   have hx1:zVo (zBy c l) l.length=some (k,zCu c f):=by rw[zTT hlt hj (by rw[hat];simpa using hv),hat]
   rw[hx1] at hR2;simp only at hR2;have r1:R.1=(k:Int):=by rw[←hR2]
   have r2:R.2=zCu c f:=by rw[←hR2]
   clear hj hcf hat hR2 hx1
   repeat' first|simp only[go_sem,zNB,zQ, *]|apply bc<;>intro hc|(refine zA.mono (hf _) ?_;rintro r h ⟨hq,rfl⟩)
 ·rintro fr h ec ⟨f2,f15,f16,f17,hE,hj⟩;rw[zHq hj] at hR2;simp only at hR2;have r1:R.1=0:=by rw[←hR2]
  have r2:R.2=0:=by rw[←hR2]
  clear hj hcf hR2
  repeat' first|simp only[go_sem,zNB, *]|apply bc<;>intro hc
end Go.V
