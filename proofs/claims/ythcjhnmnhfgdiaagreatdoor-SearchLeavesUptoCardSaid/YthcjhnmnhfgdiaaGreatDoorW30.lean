/- Rules of the machine of abstract values, part 7. No condition. -/
import Derived.Test.YthcjhnmnhfgdiaaGreatDoorW29
set_option linter.all false
set_option maxHeartbeats 8000000
namespace Go.V
attribute [go_sem_proc] Nat.reduceEqDiff Int.reduceBEq Int.reduceLT Int.reduceLE Int.reduceGT Int.reduceGE Nat.reduceAdd Nat.reduceBEq
attribute [go_sem_proc ↓] reduceIte
attribute [go_sem] Nat.zero_add List.contains_cons sT so decide_true decide_false bne Bool.or_self Bool.false_and Bool.true_and Bool.and_false Bool.and_true Bool.and_self Bool.not_not t7 D.notTuple D.cells
section
variable {b:Bool} {x y:Prop}
@[go_sem] theorem zCE (w:HidP x y):zAe (b==true) x y w=JQ (.bool b) x y w:=by cases b<;>rfl
@[go_sem] theorem zCF (w:HidP x y):zAe (b==false) x y w=JQ (.bool b) y x ⟨⟩:=by cases b<;>rfl
@[go_sem] theorem zCG (w:HidP x y):JQ (.bool (!b)) x y w=JQ (.bool b) y x ⟨⟩:=by cases b<;>rfl
def bc {w:HidP x y} (h1:b=true->x) (a:b=false->y):JQ (.bool b) x y w:=MA h1 a
end
theorem vp4 (a b c e:D):zM true 4 [a,b,c,e] 0=some (.agg [a,b,c,e]):=rfl
theorem vp2 (a b:D):zM true 2 [a,b] 0=some (.agg [a,b]):=rfl
theorem au {p:Prop} (h:p:=by repeat' first|simp only[go_sem, *]|apply bc<;>intro):p:=h
attribute[go_sem] vp2 vp4
open Go.Proofs.Tryz
open Go.Proofs
set_option maxRecDepth 100000
def fT (b:UInt8) (r:List UInt8):tR (b::r)=(!(decide (((b::r).length:Int)>32)||decide ((b.toNat:Int)<97)||decide ((b.toNat:Int)>122)||((b::r:List UInt8)== [97,110,100])||((b::r:List UInt8)== [111,114])||((b::r:List UInt8)== [119,105,116,104]))&&(Lib.trimS (b::r) kA== [])):=by
 have e:decide (((b::r).length:Int)>32)=decide ((b::r).length>32):=ED _ 32;rw[e];rfl
variable {s:List UInt8}{i sz id:Nat}{d:D}{α:Type}{f:FuncId}{cap:List D}{xs:List (List D)}{h g h0:Heap}
def fU (d:s.length<=1048576) (g:Heap):zA prog 190 [.str s] g λr h'=>h'=g/\r= .bool (tR s):=by
 have e:∀h,zA prog 249 [.str s, .str [97,98,99,100,101,102,103,104,105,106,107,108,109,110,111,112,113,114,115,116,117,118,119,120,121,122,48,49,50,51,52,53,54,55,56,57,45,46]] h λr h'=>h'=h/\r= .str (Lib.trimS s kA):=λh=>H7 d (c:=kA) (by decide) (by decide) h;refine xO mix func190 Aw rfl rfl ?_;simp only[f190,gJ];cases s with
 |nil=>
  have e1:decide ((([]:List UInt8).length:Int)<1)=true:=rfl
  repeat' first|simp only[go_sem, *]|apply bc<;>intro a
  rfl
 |cons b r=>
  have e1:decide (((b::r).length:Int)<1)=false:=decide_eq_false (by simp only[List.length_cons];omega);have f:tF prog 9 (.str (b::r)) (.int .i64 0)=some (.int .u8 b.toNat):=wJ (n:=0) underlying9 rfl;have i:=fT b r;generalize j:b::r=s at *
  repeat' first|simp only[go_sem, *]|apply bc<;>intro a|(refine zA.mono (e _) ?_;rintro r h ⟨rfl,rfl⟩)
def RX (d:s.length<=1048576) (g:Heap):zA prog 191 [.str s] g λr h'=>h'=g/\Fin 1 (yR (bL s)) r:=by
 have a:=N6 d 10;refine xO mix func191 zAC rfl rfl ?_;simp only[f191,gJ];cases h1:(s== []) with
 |true=>
  have:s= []:=by simpa using h1
  subst this
  repeat' first|simp only[go_sem, *]|apply bc<;>intro c
  exact .inl ⟨rfl,rfl⟩
 |false=>
  have b:s≠[]:=by simpa using h1
  have h3:bL s=zy 10 s:=by rw[bL,iq b]
  repeat' first|simp only[go_sem, *]|apply bc<;>intro c|(refine zA.mono (a _) ?_;rintro r h ⟨rfl,rfl⟩)
  exact .inr rfl
def U9 (n:Int) (g:Heap):zA prog 193 [.int .i64 n] g λr h'=>h'=g/\r= .bool (decide (n>=0)&&decide (n<=5)):=by
 refine xO mix func193 Bt rfl rfl ?_;simp only[f193,gJ];exact au
def leB (a b:List UInt8):Bool:=dX a b||a==b
def mg (a b:List UInt8):Lo .leq a b=some (.bool (leB a b)):=rfl
def fV (l:List (List UInt8)):Bool:=decide (∀i,i<l.length-1->leB (l.getD (i+1) []) (l.getD i [])=false)
def TA (l:List Int):Bool:=decide (∀i,i<l.length-1->l.getD i 0<l.getD (i+1) 0)
def Yw {l:List (List UInt8)} (h:i<l.length):l.getD i []=l[i]:=by simp[h]
def JR {l:List Int} (h:i<l.length):l.getD i 0=l[i]:=by simp[h]
def wd {l:List Int} (a:zZ 1 (qG l) d) (h:Heap):tU prog 45 d h=some (.int .i64 l.length):=by rw[yc a underlying45,yN]
def sY {l:List Int} (a:zZ 1 (qG l) d) (b:i<l.length):zQ prog 45 d (.int .i64 (i:Int))=some (.iptr [.int .i64 l[i]] 0):=zb a yJ wc (U7 b)
def Yx {l:List (List UInt8)} (b:zZ 1 (yR l) d) (x:l.length<=1048576) (g:Heap):zA prog 195 [d] g λr h'=>h'=g/\r= .bool (fV l):=by
 have f:=yK b;refine xO mix func195 Ad rfl rfl ?_;simp only[f195,gJ];simp only[go_sem, *];refine yF (λi fr h=>fr 0=d/\fr 3= .int .i64 ((i+1:Nat):Int)/\h=g/\∀j,j<i->j<l.length-1->leB (l.getD (j+1) []) (l.getD j [])=false) l.length ?_ ?_
 ·simp only[go_sem,true_and,and_true,Int.ofNat_zero];exact⟨rfl,λj c=>by omega⟩
 rintro i fr h w ⟨u,v,rfl,c⟩;by_cases a:i+1<l.length
 ·have e1:decide (((i+1:Nat):Int)<(l.length:Int))=true:=decide_eq_true ow;have t:IntKind.i64.wrap (((i+1:Nat):Int)+1)=((i+2:Nat):Int):=zw (by unfold lim;omega);have k:IntKind.i64.wrap (((i+1:Nat):Int)-1)=((i:Nat):Int):=by rw[zd ow ow];omega
  have o:=wN b a;have p:=wN b (show i<l.length by omega);have s:=mg l[i+1] l[i];cases e:leB l[i+1] l[i] with
  |true=>
   have hr:fV l=false:=decide_eq_false λq=>by
    have:=q i ow;rw[Yw a,Yw ow,e] at this;cases this
   simp only[go_sem, *];refine zU kr ?_;simp only[go_sem, *]
  |false=>
   have n:∀j,j<i+1->j<l.length-1->leB (l.getD (j+1) []) (l.getD j [])=false:=λj h1 m=>by
    rcases Nat.lt_succ_iff_lt_or_eq.1 h1 with q|rfl
    ·exact c j q m
    ·rw[Yw a,Yw ow,e]
   simp only[go_sem, *];refine zU kr ?_;simp only[go_sem, *];exact⟨by omega,n⟩
 ·have e1:decide (((i+1:Nat):Int)<(l.length:Int))=false:=decide_eq_false ow;have hr:fV l=true:=decide_eq_true λj h=>c j ow h;exact au
def Yy {l:List Int} (b:zZ 1 (qG l) d) (w:l.length<=1048576) (g:Heap):zA prog 194 [d] g λr h'=>h'=g/\r= .bool (TA l):=by
 have f:=wd b;refine xO mix func194 zDv rfl rfl ?_;simp only[f194,gJ];simp only[go_sem, *];refine yF (λi fr h=>fr 0=d/\fr 3= .int .i64 ((i+1:Nat):Int)/\h=g/\∀j,j<i->j<l.length-1->l.getD j 0<l.getD (j+1) 0) l.length ?_ ?_
 ·simp only[go_sem,true_and,and_true,Int.ofNat_zero];exact⟨rfl,λj c=>by omega⟩
 rintro i fr h v ⟨t,u,rfl,c⟩;by_cases a:i+1<l.length
 ·have e1:decide (((i+1:Nat):Int)<(l.length:Int))=true:=decide_eq_true ow;have s:IntKind.i64.wrap (((i+1:Nat):Int)+1)=((i+2:Nat):Int):=zw (by unfold lim;omega);have k:IntKind.i64.wrap (((i+1:Nat):Int)-1)=((i:Nat):Int):=by rw[zd ow ow];omega
  have o:=sY b a;have p:=sY b (show i<l.length by omega);cases e:decide (l[i+1]<=l[i]) with
  |true=>
   have hr:TA l=false:=decide_eq_false λq=>by
    have:=q i ow;rw[JR a,JR ow] at this;have:=of_decide_eq_true e;omega
   simp only[go_sem, *];refine zU kr ?_;simp only[go_sem, *]
  |false=>
   have n:∀j,j<i+1->j<l.length-1->l.getD j 0<l.getD (j+1) 0:=λj h1 m=>by
    rcases Nat.lt_succ_iff_lt_or_eq.1 h1 with q|rfl
    ·exact c j q m
    ·rw[JR a,JR ow];have:=of_decide_eq_false e;omega
   simp only[go_sem, *];refine zU kr ?_;simp only[go_sem, *];exact⟨by omega,n⟩
 ·have e1:decide (((i+1:Nat):Int)<(l.length:Int))=false:=decide_eq_false ow;have hr:TA l=true:=decide_eq_true λj h=>c j ow h;exact au
def om (a b:List UInt8):Int:=if dX a b=true then -1 else if a==b then 0 else 1
def TB (a:List UInt8) (g:Heap):zA prog 102 [.str a] g λr h'=>h'=g/\r= .bool false:=by
 have b:(a==a)=true:=by simp
 refine xO mix func102 AX rfl rfl ?_;simp only[f102,gJ];exact au
def Yz (a b:List UInt8) (g:Heap):zA prog 52 [.str a, .str b] g λr h'=>h'=g/\r= .int .i64 (om a b):=by
 have ca:=TB a;have cb:=TB b;refine xO mix func52 zGT rfl rfl ?_;simp only[f52,gJ];cases h1:dX a b with
 |true=>
  have e:om a b= -1:=ip h1
  repeat' first|simp only[go_sem, *]|apply bc<;>intro d|(refine zA.mono (ca _) ?_;rintro r h ⟨rfl,rfl⟩)|(refine zA.mono (cb _) ?_;rintro r h ⟨rfl,rfl⟩)
 |false=>
  cases c:(a==b) with
  |true=>
   have e:om a b=0:=by rw[om,iq (by rw[h1];exact Bool.false_ne_true),ip c]
   repeat' first|simp only[go_sem, *]|apply bc<;>intro d|(refine zA.mono (ca _) ?_;rintro r h ⟨rfl,rfl⟩)|(refine zA.mono (cb _) ?_;rintro r h ⟨rfl,rfl⟩)
  |false=>
   have e:om a b=1:=by rw[om,iq (by rw[h1];exact Bool.false_ne_true),iq (by rw[c];exact Bool.false_ne_true)]
   repeat' first|simp only[go_sem, *]|apply bc<;>intro d|(refine zA.mono (ca _) ?_;rintro r h ⟨rfl,rfl⟩)|(refine zA.mono (cb _) ?_;rintro r h ⟨rfl,rfl⟩)
abbrev KN:=List (List UInt8×Int)
def knD (m:KN):List (D×D):=m.map λp=>(.str p.1, .int .i64 p.2)
def oo (k:List UInt8):KN->Option Int
 | []=>none
 |(k',v)::m=>if k==k' then some v else oo k m
def d7 (k:List UInt8) (v:Int):KN->KN
 | []=>[(k,v)]
 |(k',v')::m=>if k==k' then(k,v)::m else(k',v')::d7 k v m
def jt (p:List UInt8×Int) (m:KN):knD (p::m)=(.str p.1, .int .i64 p.2)::knD m:=rfl
theorem ZK (k:List UInt8):∀m:KN,sy [.s] (.str k) (knD m)=some ((oo k m).map (D.int .i64))
 | []=>rfl
 |(k',v)::m=>by
  have a:=ZK k m;rw[jt,sy,px];cases h:(k==k') with
  |true=>simp[oo,h]
  |false=>simp only[oo,h,a];rfl
theorem MD (k:List UInt8) (v:Int):∀m:KN,Va [.s] (.str k) (.int .i64 v) (knD m)=some (knD (d7 k v m))
 | []=>rfl
 |(k',b)::m=>by
  have a:=MD k v m;rw[jt,Va,px];cases h:(k==k') with
  |true=>simp[d7,h,jt]
  |false=>simp[d7,h,jt,a]
def Y1 (m:KN):(knD m).all (λx=>zV false x.1)=true:=by
 rw[List.all_eq_true];intro x a;obtain⟨p,_,rfl⟩:=List.mem_map.1 a;rfl
theorem Y2 (k k':List UInt8) (v:Int):∀m:KN,oo k (d7 k' v m)=if k==k' then some v else oo k m
 | []=>by simp[d7,oo]
 |(k2,c)::m=>by
  have b:=Y2 k k' v m;simp only[d7];by_cases h:k'=k2
  ·subst h;simp only[beq_self_eq_true,if_true,oo];by_cases g:k=k'
   ·subst g;simp
   ·simp[g]
  ·have a:(k'==k2)=false:=by simp[h]
   simp only[a,Bool.false_eq_true,if_false,oo,b];by_cases g:k=k2
   ·subst g
    have:(k==k')=false:=by simp;exact λe=>h e.symm
    simp[this]
   ·simp[g]
section
variable {P:Program} {t kt e:TypeId} {id:Nat} {h:Heap} {m:KN}
def bO (a:h.at' id=some (.map (knD m))) (c:Vb P t=some (kt,e)) (b:Vc P kt=some (false,[.s])) (d:qK P e=some (.int .i64 0)) (k:List UInt8) (ok:Bool):
  yi P t (.map id) (.str k) ok h=some (o5 ok (.int .i64 0) ((oo k m).map (D.int .i64))):=by
 simp only[yi,c,b,d,de,a,pd,Y1,px,ZK,show zV false (.str k)=true from rfl,Option.isSome_some,Bool.and_self,if_true]
def ZL (a:h.at' id=some (.map (knD m))) (c:Vb P t=some (kt,e)) (b:Vc P kt=some (false,[.s])) (k:List UInt8) (v:Int):
  yV P t (.map id) (.str k) (.int .i64 v) h=some (h.set id (.map (knD (d7 k v m)))):=by
 simp only[yV,c,b,a,Y1,px,ZK,MD,show zV false (.str k)=true from rfl,Option.isSome_some,Bool.and_self,if_true]
end
structure Lic where
 name:List UInt8
 fam:List UInt8
 ver:Int
 text:List UInt8
def Lic.cells (l:Lic):List D:=[.str l.name, .str l.fam, .int .i64 l.ver, .str l.text]
def pH (l:List Lic):List (List D):=l.map Lic.cells
def sZ (l:List Lic):(pH l).length=l.length:=List.length_map ..
def TC {l:List Lic} (h:i<l.length):(pH l)[i]? =some l[i].cells:=by simp[pH,h]
def Lic.Sm (l:Lic):Prop:=l.name.length<=1048576/\l.fam.length<=1048576/\l.text.length<=1048576
def qz {l:List Lic} (a:zZ 4 (pH l) d) (h:Heap):tU prog 22 d h=some (.int .i64 l.length):=by rw[yc a underlying22,sZ]
def wx {l:List Lic} (a:zZ 4 (pH l) d) (b:i<l.length):zQ prog 22 d (.int .i64 (i:Int))=some (.iptr l[i].cells 0):=zb a mP rz (TC b)
abbrev lN:List D:=[.str [], .str [], .int .i64 0, .str []]
def pV (x:Lic) (h:Heap) (id:Nat):zP prog 108 (.ptr id 0) (.agg [.str x.name, .str x.fam, .int .i64 x.ver, .str x.text]) (h.new id (.row lN))=some (h.new id (.row [.str x.name, .str x.fam, .int .i64 x.ver, .str x.text])):=zg rz ow rfl rfl rfl
def EF {l:List Lic} (c:zZ 4 (pH l) d) (b:i<l.length):∃a,(∀h,yh prog 22 d none (some (.int .i64 (i:Int))) none h=some a)/\zZ 4 (pH (l.take i)) a:=by
 rcases c with⟨rfl,f⟩ | ⟨tk,rfl⟩
 ·have e:l= []:=List.map_eq_nil_iff.1 f;subst e;simp at b
 ·refine⟨.sl 4 ((pH l).take i) (X2 i (pH l).length tk),λh=> ?_,?_⟩
  ·simp[yh,Gi,pc,mP,rz,wM,cK,Zo,sZ,Nat.le_of_lt b]
  ·have:(pH l).take i=pH (l.take i):=by simp[pH,List.map_take]
   rw[this];exact zZ.mk _
def ju (l:List Lic) (i:Nat) (x:Lic):Bool:=(l.take i).any λy=>y.fam==x.fam&&y.ver==x.ver
def mh (l:List Lic) (i:Nat) (x:Lic):Int:=
 if(!tR x.name|| !tR x.fam)=true then 2
 else if x.ver<0\/x.ver>999 then 3
 else if x.text.length>4096\/(bL x.text).length>999 then 10
 else if x.text.any pG=true then 4
 else if 0<i/\leB x.name ((l.map Lic.name).getD (i-1) [])=true then 5
 else if ju l i x=true then 6 else 0
theorem d9 {l:List Lic} (hd:zZ 4 (pH l) d) (hl:l.length<=1048576) (hs:∀x∈l,x.Sm) (hi:i<l.length) (g:Heap):
  zA prog 108 [d, .int .i64 (i:Int)] g λr h'=>h'=g/\r= .int .i64 (mh l i l[i]):=by
 refine xU kr λb5=> ?_;have U:=hs _ (List.getElem_mem hi);have a7:=wx hd hi;have bo:=qz hd;have bk:∀k:Int,below g.next (.int .i64 k):=λk=>trivial;generalize hx:l[i]=x at *
 obtain⟨w,f,n,b⟩:=x;have ag:=pV ⟨w,f,n,b⟩;simp only[Lic.cells] at a7 ag;have T:=(Ext.refl g).new (Nat.le_refl _) (.row [.str w, .str f, .int .i64 n, .str b]);have D:=fU (s:=w) U.1;have E:=fU (s:=f) U.2.1;have ak:=RX (s:=b) U.2.2;refine xO mix func108 AY rfl rfl ?_;simp only[f108,gJ];obtain⟨R,o⟩:∃R,mh l i ⟨w,f,n,b⟩ =R:=⟨_,rfl⟩;rw[o];unfold mh at o;simp only at o;cases n1:tR w with
 |false=>
  rw[ip (by rw[n1];rfl)] at o;subst o
  repeat' first|simp only[go_sem,zK, *]|apply bc<;>intro t|(refine zA.mono (D _) ?_;rintro r h ⟨rfl,rfl⟩)|(refine zA.mono (E _) ?_;rintro r h ⟨rfl,rfl⟩)
 |true=>
 cases n2:tR f with
 |false=>
  rw[ip (by rw[n1,n2];rfl)] at o;subst o
  repeat' first|simp only[go_sem,zK, *]|apply bc<;>intro t|(refine zA.mono (D _) ?_;rintro r h ⟨rfl,rfl⟩)|(refine zA.mono (E _) ?_;rintro r h ⟨rfl,rfl⟩)
 |true=>
 rw[iq (by rw[n1,n2];decide)] at o;cases v1:decide (n<0) with
 |true=>
  rw[ip (.inl (of_decide_eq_true v1))] at o;subst o
  repeat' first|simp only[go_sem,zK, *]|apply bc<;>intro t|(refine zA.mono (D _) ?_;rintro r h ⟨rfl,rfl⟩)|(refine zA.mono (E _) ?_;rintro r h ⟨rfl,rfl⟩)
 |false=>
 cases v2:decide (n>999) with
 |true=>
  rw[ip (.inr (of_decide_eq_true v2))] at o;subst o
  repeat' first|simp only[go_sem,zK, *]|apply bc<;>intro t|(refine zA.mono (D _) ?_;rintro r h ⟨rfl,rfl⟩)|(refine zA.mono (E _) ?_;rintro r h ⟨rfl,rfl⟩)
 |false=>
 rw[iq (λq=>q.elim (of_decide_eq_false v1) (of_decide_eq_false v2))] at o;cases t1:decide ((b.length:Int)>4096) with
 |true=>
  have ba:=of_decide_eq_true t1;rw[ip (.inl ow)] at o;subst o
  repeat' first|simp only[go_sem,zK, *]|apply bc<;>intro t|(refine zA.mono (D _) ?_;rintro r h ⟨rfl,rfl⟩)|(refine zA.mono (E _) ?_;rintro r h ⟨rfl,rfl⟩)
 |false=>
 have ba:=of_decide_eq_false t1;cases t2:decide (((bL b).length:Int)>999) with
 |true=>
  have bb:=of_decide_eq_true t2;rw[ip (.inr ow)] at o;subst o
  repeat' first|simp only[go_sem,zK,yK hr.isSl, *]|simp only[go_sem,zK, *]|apply bc<;>intro t|(refine zA.mono (D _) ?_;rintro r h ⟨rfl,rfl⟩)|(refine zA.mono (E _) ?_;rintro r h ⟨rfl,rfl⟩)|(refine zA.mono (ak _) ?_;rintro r h ⟨rfl,hr⟩)
 |false=>
 have bb:=of_decide_eq_false t2;rw[iq ow] at o;have b4:=RV b;have bx:∀h,tU prog 268 (.sl 1 (jB b) .no) h=some (.int .i64 b.length):=λh=>by rw[yc (zZ.mk .no) underlying268,ZI]
 repeat' first|simp only[go_sem,zK,yK hr.isSl, *]|simp only[go_sem,zK, *]|apply bc<;>intro t|(refine zA.mono (D _) ?_;rintro r h ⟨rfl,rfl⟩)|(refine zA.mono (E _) ?_;rintro r h ⟨rfl,rfl⟩)|(refine zA.mono (ak _) ?_;rintro r h ⟨rfl,hr⟩)
 rename Fin 1 (yR (bL b)) _=>hr
 obtain⟨H,hH,a,G,B⟩:∃H,g.new g.next (.row [.str w, .str f, .int .i64 n, .str b])=H/\H.at' g.next=some (.row [.str w, .str f, .int .i64 n, .str b])/\Ext g H/\H.next=g.next+1:=⟨_,rfl,zK _ _ _,T,zF _ _⟩;rw[hH];have a9:=U.2.2;simp only at a9;have a4:∀k (hk:k<b.length),pG b[k]=true->R=4:=λk hk C=>by
  rw[ip (List.any_eq_true.2 ⟨_,List.getElem_mem hk,C⟩)] at o;exact o.symm
 refine zD (λk fr h=>fr 0=d/\fr 1= .int .i64 (i:Int)/\fr 5= .ptr g.next 0/\fr 48= .sl 1 (jB b) .no/\fr 49= .int .i64 (b.length:Int)/\fr 50= .int .i64 (k:Int)/\h=H/\∀j (I:j<b.length),j<k->pG b[j]=false) b.length ow ?_ ?_ ?_
 ·simp only[go_sem,true_and,and_true,Int.ofNat_zero];exact λj I h0=>by omega
 ·rintro k fr h Q e1 ew ⟨f0,f1,O,M,N,P,rfl,I⟩;have a1:zQ prog 268 (.sl 1 (jB b) .no) (.int .i64 (k:Int))=some (.iptr [.int .u8 (b[k].toNat:Int)] 0):=zb (zZ.mk .no) Q7 zCd (RU Q);have tb:pG b[k]=(!((b[k].toNat:Int)==10)&&(decide ((b[k].toNat:Int)<32)||decide ((b[k].toNat:Int)>126))):=rfl;have v:=a4 k Q;have c:=λC=>qM (p:=pG) (l:=b) Q I C;generalize(b[k].toNat:Int)=y at *
  generalize pG b[k]=b7 at *
  cases K:(y==10) with
  |true=>
   have u:=c (by rw[tb,K];rfl)
   repeat' first|simp only[go_sem, *]|apply bc<;>intro t
   exact u
  |false=>
   cases S:decide (y<32) with
   |true=>
    have u:=v (by rw[tb,K,S];rfl);subst u
    repeat' first|simp only[go_sem, *]|apply bc<;>intro t
   |false=>
    cases b3:decide (y>126) with
    |true=>
     have u:=v (by rw[tb,K,S,b3];rfl);subst u
     repeat' first|simp only[go_sem, *]|apply bc<;>intro t
    |false=>
     have u:=c (by rw[tb,K,S,b3];rfl)
     repeat' first|simp only[go_sem, *]|apply bc<;>intro t
     exact u
 ·rintro fr h e1 ⟨f0,f1,O,M,N,P,rfl,I⟩;have A:¬b.any pG=true:=by
   rw[nF λj J _=>I j J J];exact Bool.false_ne_true
  rw[iq A] at o;have Z:i<=l.length:=ow;obtain⟨d',b6,Y⟩:=EF hd hi;have ad:=qz Y;rw[List.length_take,Nat.min_eq_left Z] at ad;have ai:(0<i/\leB w ((l.map Lic.name).getD (i-1) [])=true->R=5)/\(¬(0<i/\leB w ((l.map Lic.name).getD (i-1) [])=true)->R=if ju l i ⟨w,f,n,b⟩ =true then 6 else 0):=by
   refine⟨λq=> ?_,λq=> ?_⟩
   ·rw[ip q] at o;exact o.symm
   ·rw[iq q] at o;exact o.symm
  have a0:¬(0<i/\leB w ((l.map Lic.name).getD (i-1) [])=true)->R=if(l.take i).any (λy=>y.fam==f&&y.ver==n)=true then 6 else 0:=ai.2
  have bs:∀ {fr:Frm} {k:Heap},R=(if ju l i ⟨w,f,n,b⟩ =true then 6 else 0)->True:=λ_=>trivial
  have tw:∀L:List Lic,L=l.take i->ju l i ⟨w,f,n,b⟩ =L.any λy=>y.fam==f&&y.ver==n:=λL e=>by rw[e];rfl
  by_cases h0:0<i
  ·have e0:decide ((i:Int)>0)=true:=decide_eq_true ow;have ew:IntKind.i64.wrap ((i:Int)-1)=((i-1:Nat):Int):=by rw[zd ow ow];omega
   have a2:=wx hd (show i-1<l.length by omega);simp only[Lic.cells] at a2;have gn:(l.map Lic.name).getD (i-1) []=(l[i-1]'ow).name:=by simp[show i-1<l.length by omega]
   have a3:=mg w (l[i-1]'ow).name;rw[gn] at ai;by_cases C:leB w (l[i-1]'ow).name=true
   ·have u:=ai.1 ⟨h0,C⟩;subst u
    repeat' first|simp only[go_sem, *]|apply bc<;>intro t
    refine zU kr ?_;exact au
   have C:leB w (l[i-1]'ow).name=false:=by simpa using C
   have z:=(a0 (λq=>by rw[gn,C] at q;exact Bool.false_ne_true q.2)).symm
   repeat' first|simp only[go_sem, *]|apply bc<;>intro t
   refine zU kr ?_
   repeat' first|simp only[go_sem, *]|apply bc<;>intro t
   generalize hL:l.take i=L at *
   have a6:L.length=i:=by rw[<-hL,List.length_take,Nat.min_eq_left Z]
   refine zD (λj fr h=>fr 5= .ptr g.next 0/\fr 80=d'/\fr 81= .int .i64 (i:Int)/\fr 82= .int .i64 (j:Int)/\h.at' g.next=some (.row [.str w, .str f, .int .i64 n, .str b])/\Ext g h/\g.next<h.next/\∀m (hm:m<L.length),m<j->(L[m].fam==f&&L[m].ver==n)=false) i ow ?_ ?_ ?_
   ·simp only[go_sem,true_and,and_true,Int.ofNat_zero];exact⟨O,a,G,by omega,λm hm h0=>by omega⟩
   ·clear f0 f1 O M N P a G B e1;rintro j fr h Q e1 ew ⟨O,V,W,X,a,T,B,I⟩;have F:j<L.length:=ow;have a1:=wx Y F;have ag:=pV L[j] h h.next;have hk:(h.new h.next (.row [.str L[j].name, .str L[j].fam, .int .i64 L[j].ver, .str L[j].text])).at' g.next=some (.row [.str w, .str f, .int .i64 n, .str b]):=by rw[zG ow];exact a
    have a5:=T.new T.1 (.row [.str L[j].name, .str L[j].fam, .int .i64 L[j].ver, .str L[j].text]);have a8:g.next<(h.new h.next (.row [.str L[j].name, .str L[j].fam, .int .i64 L[j].ver, .str L[j].text])).next:=by rw[zF];omega
    have c:=λC=>qM (p:=λy:Lic=>y.fam==f&&y.ver==n) (l:=L) F I C;have v:(L[j].fam==f&&L[j].ver==n)=true->R=6:=λC=>by
     rw[ip (List.any_eq_true.2 ⟨_,List.getElem_mem F,C⟩)] at z;exact z.symm
    simp only[Lic.cells] at a1;cases K:(L[j].fam==f) with
    |false=>
     have u:=c (by simp only[K,Bool.false_and])
     repeat' first|simp only[go_sem,zK, *]|apply bc<;>intro t
     exact λm hm h=>u m ow h
    |true=>
     cases S:(L[j].ver==n) with
     |false=>
      have u:=c (by simp only[K,S,Bool.and_false])
      repeat' first|simp only[go_sem,zK, *]|apply bc<;>intro t
      exact λm hm h=>u m ow h
     |true=>
      have u:=v (by simp only[K,S,Bool.and_self]);subst u
      repeat' first|simp only[go_sem,zK, *]|apply bc<;>intro t
   ·clear f0 f1 O M N P a G B e1;rintro fr h e1 ⟨O,V,W,X,a,T,B,I⟩;have A:¬(L.any λy=>y.fam==f&&y.ver==n)=true:=by
     rw[nF λj J _=>I j J ow];exact Bool.false_ne_true
    rw[iq A] at z;subst z;exact au
  ·have e0:decide ((i:Int)>0)=false:=decide_eq_false ow;have z:=(a0 (λq=>h0 q.1)).symm
   repeat' first|simp only[go_sem, *]|apply bc<;>intro t
   refine zU kr ?_
   repeat' first|simp only[go_sem, *]|apply bc<;>intro t
   generalize hL:l.take i=L at *
   have a6:L.length=i:=by rw[<-hL,List.length_take,Nat.min_eq_left Z]
   refine zD (λj fr h=>fr 5= .ptr g.next 0/\fr 80=d'/\fr 81= .int .i64 (i:Int)/\fr 82= .int .i64 (j:Int)/\h.at' g.next=some (.row [.str w, .str f, .int .i64 n, .str b])/\Ext g h/\g.next<h.next/\∀m (hm:m<L.length),m<j->(L[m].fam==f&&L[m].ver==n)=false) i ow ?_ ?_ ?_
   ·simp only[go_sem,true_and,and_true,Int.ofNat_zero];exact⟨O,a,G,by omega,λm hm h0=>by omega⟩
   ·clear f0 f1 O M N P a G B e1;rintro j fr h Q e1 ew ⟨O,V,W,X,a,T,B,I⟩;have F:j<L.length:=ow;have a1:=wx Y F;have ag:=pV L[j] h h.next;have hk:(h.new h.next (.row [.str L[j].name, .str L[j].fam, .int .i64 L[j].ver, .str L[j].text])).at' g.next=some (.row [.str w, .str f, .int .i64 n, .str b]):=by rw[zG ow];exact a
    have a5:=T.new T.1 (.row [.str L[j].name, .str L[j].fam, .int .i64 L[j].ver, .str L[j].text]);have a8:g.next<(h.new h.next (.row [.str L[j].name, .str L[j].fam, .int .i64 L[j].ver, .str L[j].text])).next:=by rw[zF];omega
    have c:=λC=>qM (p:=λy:Lic=>y.fam==f&&y.ver==n) (l:=L) F I C;have v:(L[j].fam==f&&L[j].ver==n)=true->R=6:=λC=>by
     rw[ip (List.any_eq_true.2 ⟨_,List.getElem_mem F,C⟩)] at z;exact z.symm
    simp only[Lic.cells] at a1;cases K:(L[j].fam==f) with
    |false=>
     have u:=c (by simp only[K,Bool.false_and])
     repeat' first|simp only[go_sem,zK, *]|apply bc<;>intro t
     exact λm hm h=>u m ow h
    |true=>
     cases S:(L[j].ver==n) with
     |false=>
      have u:=c (by simp only[K,S,Bool.and_false])
      repeat' first|simp only[go_sem,zK, *]|apply bc<;>intro t
      exact λm hm h=>u m ow h
     |true=>
      have u:=v (by simp only[K,S,Bool.and_self]);subst u
      repeat' first|simp only[go_sem,zK, *]|apply bc<;>intro t
   ·clear f0 f1 O M N P a G B e1;rintro fr h e1 ⟨O,V,W,X,a,T,B,I⟩;have A:¬(L.any λy=>y.fam==f&&y.ver==n)=true:=by
     rw[nF λj J _=>I j J ow];exact Bool.false_ne_true
    rw[iq A] at z;subst z;exact au
def Zr {α:Type} (p:α->Bool) (l:List α):Int:=match l.findIdx? p with
 |some i=>(i:Int)
 |none=> -1
def p0 {l:List α} {p:α->Bool} :decide (Zr p l>=0)=l.any p:=by
 rw[<-l9];rfl
def p4 {l:List α} {p:α->Bool} (c:i<l.length) (b:∀j (b:j<l.length),j<i->p l[j]=false) (d:p l[i]=true):Zr p l=(i:Int):=by
 have:l.findIdx? p=some i:=by
  rw[List.findIdx?_eq_some_iff_getElem];exact⟨c,d,λj a=>by rw[b j ow a];exact Bool.false_ne_true⟩
 simp only[Zr,this]
def p5 {l:List α} {p:α->Bool} (b:∀j (b:j<l.length),p l[j]=false):Zr p l= -1:=by
 have:l.findIdx? p=none:=by
  rw[List.findIdx?_eq_none_iff];intro n c;obtain⟨j,a,rfl⟩:=List.mem_iff_getElem.1 c;exact b j a
 simp only[Zr,this]
def jC {l:List Int} (n:zZ 1 (qG l) d) (C:l.length<=1048576) {p:Int->Bool} (y:∀s∈l,∀h,zA prog f ([]++ [.int .i64 s]++cap) h λr h'=>h'=h/\r= .bool (p s)) (g:Heap):
  zA prog 46 [d, .fn (.func f) [] cap] g λr h'=>h'=g/\r= .int .i64 (Zr p l):=by
 have o:=wd n;refine xO mix func46 zHN rfl rfl ?_;simp only[f46,gJ]
 repeat' first|simp only[go_sem, *]|apply bc<;>intro m
 refine zD (λi fr h=>fr 1= .fn (.func f) [] cap/\fr 0=d/\fr 6=d/\fr 7= .int .i64 (l.length:Int)/\fr 8= .int .i64 (i:Int)/\h=g/\∀j (b:j<l.length),j<i->p l[j]=false) l.length ow ?_ ?_ ?_
 ·simp only[go_sem,true_and,and_true,Int.ofNat_zero];exact λj b h0=>by omega
 ·rintro i fr h a e1 B ⟨t,q,u,v,w,rfl,b⟩;have A:=sY n a;have e:=y _ (List.getElem_mem a);simp only[List.nil_append,List.cons_append] at e;cases k:p l[i] with
  |true=>
   have z:=p4 a b k;rw[k] at e
   repeat' first|simp only[go_sem, *]|apply bc<;>intro m|(refine zA.mono (e _) ?_;rintro r h ⟨rfl,rfl⟩)
  |false=>
   have x:=qM (p:=p) a b k;rw[k] at e
   repeat' first|simp only[go_sem, *]|apply bc<;>intro m|(refine zA.mono (e _) ?_;rintro r h ⟨rfl,rfl⟩)
   exact x
 ·rintro fr h e1 ⟨t,q,u,v,w,rfl,b⟩;have z:=p5 (p:=p) λj c=>b j c c;exact au
def fW {l:List Int} (b:zZ 1 (qG l) d) (e:l.length<=1048576) {p:Int->Bool} (i:∀s∈l,∀h,zA prog f ([]++ [.int .i64 s]++cap) h λr h'=>h'=h/\r= .bool (p s)) (g:Heap):
  zA prog 21 [d, .fn (.func f) [] cap] g λr h'=>h'=g/\r= .bool (l.any p):=by
 have a:=jC b e i;have c:=p0 (l:=l) (p:=p);refine xO mix func21 zGK rfl rfl ?_;simp only[f21,gJ]
 repeat' first|simp only[go_sem, *]|apply bc<;>intro j|(refine zA.mono (a _) ?_;rintro r h ⟨rfl,rfl⟩)
def zAh (n:Int) (g:Heap):zA prog 192 [.int .i64 n] g λr h'=>h'=g/\r= .bool (!(decide (n>=0)&&decide (n<=5))):=by
 have a:=U9 n;refine xO mix func192 zDA rfl rfl ?_;simp only[f192,gJ]
 repeat' first|simp only[go_sem, *]|apply bc<;>intro b|(refine zA.mono (a _) ?_;rintro r h ⟨rfl,rfl⟩)
def Y3 (l:List Lic):Nat->KN
 |0=>[]
 |i+1=>d7 ((l.map Lic.name).getD i []) (i:Int) (Y3 l i)
def bP {l:List Lic} {d e1 e2 e3:D} (o:zZ 4 (pH l) d) (J:l.length<=1048576) (g:Heap):
  zA prog 109 [.agg [d,e1,e2,e3]] g λr h'=>∃id,r= .map id/\g.next<=id/\id<h'.next/\h'.at' id=some (.map (knD (Y3 l l.length)))/\Ext g h':=by
 have z:=qz o;refine xO mix func109 Aq rfl rfl ?_;simp only[f109,gJ];simp only[go_sem, *];obtain⟨H,x,c,b,e⟩:∃H,g.new g.next (.map [])=H/\H.at' g.next=some (.map (knD (Y3 l 0)))/\Ext g H/\g.next<H.next:=⟨_,rfl,zK _ _ _,(Ext.refl g).new (Nat.le_refl _) _,by rw[zF];omega⟩;rw[x];clear x;refine zD (λi fr h=>fr 3= .map g.next/\fr 8=d/\fr 9= .int .i64 (l.length:Int)/\fr 10= .int .i64 (i:Int)/\h.at' g.next=some (.map (knD (Y3 l i)))/\Ext g h/\g.next<h.next) l.length ow ?_ ?_ ?_
 ·simp only[go_sem,true_and,and_true,Int.ofNat_zero];exact⟨c,b,e⟩
 ·clear c b e;rintro i fr h j e1 I ⟨B,C,E,p,k,f,s⟩;have A:=wx o j;have u:=pV l[i] h h.next;have m:(l.map Lic.name).getD i []=l[i].name:=by simp[j]
  simp only[Lic.cells] at A;obtain⟨a,q,m2,r2,w,F⟩:∃a,h.new h.next (.row [.str l[i].name, .str l[i].fam, .int .i64 l[i].ver, .str l[i].text])=a/\a.at' g.next=some (.map (knD (Y3 l i)))/\a.at' h.next=some (.row [.str l[i].name, .str l[i].fam, .int .i64 l[i].ver, .str l[i].text])/\Ext g a/\g.next<a.next:=
   ⟨_,rfl,by rw[zG ow];exact k,zK _ _ _,f.new f.1 _,by rw[zF];omega⟩
  rw[q] at u;have v:=ZL (P:=prog) (t:=180) m2 an YQ l[i].name (i:Int);have n:d7 l[i].name (i:Int) (Y3 l i)=Y3 l (i+1):=by rw[Y3,m]
  rw[n] at v;have m3:=zC a g.next (.map (knD (Y3 l (i+1))));have G:=w.set (id:=g.next) (Nat.le_refl _) (.map (knD (Y3 l (i+1))));have K:g.next<(a.set g.next (.map (knD (Y3 l (i+1))))).next:=F;clear k f m n o w;exact au
 ·clear c b e;rintro fr h e1 ⟨B,C,E,p,k,f,s⟩;have y:∃id,D.map g.next= .map id/\g.next<=id/\id<h.next/\h.at' id=some (.map (knD (Y3 l l.length)))/\Ext g h:=⟨_,rfl,Nat.le_refl _,s,k,f⟩;clear k f s o;exact au
structure Exc where
 name:List UInt8
 lic:List UInt8
 lifts:List Int
 d:D
def Exc.cells (l:Exc):List D:=[.str l.name, .str l.lic,l.d]
def Exc.Ok (l:Exc):Prop:=zZ 1 (qG l.lifts) l.d/\l.lifts.length<=1048576/\l.name.length<=1048576
def EG (l:List Exc):List (List D):=l.map Exc.cells
def Wx (l:List Exc):(EG l).length=l.length:=List.length_map ..
def JS {l:List Exc} (h:i<l.length):(EG l)[i]? =some l[i].cells:=by simp[EG,h]
def oW {l:List Exc} (a:zZ 3 (EG l) d) (h:Heap):tU prog 23 d h=some (.int .i64 l.length):=by rw[yc a underlying23,Wx]
def nW {l:List Exc} (a:zZ 3 (EG l) d) (b:i<l.length):zQ prog 23 d (.int .i64 (i:Int))=some (.iptr l[i].cells 0):=zb a KW gp (JS b)
structure Cla where
 lic:List UInt8
 way:Int
 rel:Int
 duty:Int
 list:List (List UInt8)
 d:D
def Cla.cells (l:Cla):List D:=[.str l.lic, .int .i64 l.way, .int .i64 l.rel, .int .i64 l.duty,l.d]
def Cla.Ok (l:Cla):Prop:=zZ 1 (yR l.list) l.d/\l.list.length<=1048576
def Y4 (l:List Cla):List (List D):=l.map Cla.cells
def nX (l:List Cla):(Y4 l).length=l.length:=List.length_map ..
def JT {l:List Cla} (h:i<l.length):(Y4 l)[i]? =some l[i].cells:=by simp[Y4,h]
def pI {l:List Cla} (a:zZ 5 (Y4 l) d) (h:Heap):tU prog 24 d h=some (.int .i64 l.length):=by rw[yc a underlying24,nX]
def p6 {l:List Cla} (a:zZ 5 (Y4 l) d) (b:i<l.length):zQ prog 24 d (.int .i64 (i:Int))=some (.iptr l[i].cells 0):=zb a ae pu (JT b)
structure Apt where
 a:List UInt8
 b:List UInt8
def Apt.cells (l:Apt):List D:=[.str l.a, .str l.b]
def JU (l:List Apt):List (List D):=l.map Apt.cells
def Wy (l:List Apt):(JU l).length=l.length:=List.length_map ..
def JV {l:List Apt} (h:i<l.length):(JU l)[i]? =some l[i].cells:=by simp[JU,h]
def mi {l:List Apt} (a:zZ 2 (JU l) d) (h:Heap):tU prog 25 d h=some (.int .i64 l.length):=by rw[yc a underlying25,Wy]
def kE {l:List Apt} (a:zZ 2 (JU l) d) (b:i<l.length):zQ prog 25 d (.int .i64 (i:Int))=some (.iptr l[i].cells 0):=zb a KX ah (JV b)
def ME (a b:Cla):Int:=orL [om a.lic b.lic,qJ a.way b.way,qJ a.rel b.rel,qJ a.duty b.duty]
def MF (a b:Apt):Int:=orL [om a.a b.a,om a.b b.b]
def zFK (a b:Int) (nid:Nat) (h:Heap):zI prog false nid 45 2 [(0, .int .i64 a),(1, .int .i64 b)] h=some (.sl 1 (qG [a,b]) .full,h):=by
 simp[zI,yJ,uN,wc,si,D.notTuple,D.cells,yH,qB,yU,qG]
def zHw (a b c e:Int) (nid:Nat) (h:Heap):zI prog false nid 45 4 [(0, .int .i64 a),(1, .int .i64 b),(2, .int .i64 c),(3, .int .i64 e)] h=some (.sl 1 (qG [a,b,c,e]) .full,h):=by
 simp[zI,yJ,uN,wc,si,D.notTuple,D.cells,yH,qB,yU,qG]
def cC (a b:Apt) (g:Heap):zA prog 58 [.agg a.cells, .agg b.cells] g λr h'=>h'=g/\r= .int .i64 (MF a b):=by
 have h1:=Yz a.a b.a;have f:=Yz a.b b.b;have h3:=zAa (l:=[om a.a b.a,om a.b b.b]) (zZ.mk .full) (by simp);have hr:=λnid=>zFK (om a.a b.a) (om a.b b.b) nid;have c:orL [om a.a b.a,om a.b b.b]=MF a b:=rfl;rw[c] at h3;have d:∀h:Heap,HLe Heap.emp h:=λh i j e=>by cases e
 refine xO mix func58 zHO rfl rfl ?_;simp only[f58,gJ];simp only[Apt.cells]
 repeat' first|simp only[go_sem, *]|apply bc<;>intro c
 refine zO Heap.emp [(0, .no,true),(1, .no,true),(2, .no,true),(3, .no,true),(5, .no,true),(6, .st,true),(7, .no,true),(8, .st,true),(4, .no,true),(9, .no,true),(10, .no,true),(11, .no,true),(12, .no,true)] kr kr (λi j e=>by cases e) ?_
 repeat' first|simp only[go_sem, *]|apply bc<;>intro c|(refine zA.mono (h1 _) ?_;rintro r h ⟨rfl,rfl⟩)|(refine zA.mono (f _) ?_;rintro r h ⟨rfl,rfl⟩)|(refine zA.mono (h3 _) ?_;rintro r h ⟨rfl,rfl⟩)
def jU (a b:Cla) (g:Heap):zA prog 56 [.agg a.cells, .agg b.cells] g λr h'=>h'=g/\r= .int .i64 (ME a b):=by
 have h1:=Yz a.lic b.lic;have f:=fR a.way b.way;have j:=fR a.rel b.rel;have h5:=fR a.duty b.duty;have h3:=zAa (l:=[om a.lic b.lic,qJ a.way b.way,qJ a.rel b.rel,qJ a.duty b.duty]) (zZ.mk .full) (by simp);have hr:=λnid=>zHw (om a.lic b.lic) (qJ a.way b.way) (qJ a.rel b.rel) (qJ a.duty b.duty) nid;have c:orL [om a.lic b.lic,qJ a.way b.way,qJ a.rel b.rel,qJ a.duty b.duty]=ME a b:=rfl;rw[c] at h3;have d:∀h:Heap,HLe Heap.emp h:=λh i k e=>by cases e
 refine xO mix func56 zHr rfl rfl ?_;simp only[f56,gJ];simp only[Cla.cells]
 repeat' first|simp only[go_sem, *]|apply bc<;>intro c
 refine zO Heap.emp [(0, .no,true),(1, .no,true),(2, .no,true),(3, .no,true),(5, .no,true),(6, .st,true),(7, .no,true),(8, .st,true),(10, .no,true),(11, .st,true),(12, .no,true),(13, .st,true),(15, .no,true),(16, .st,true),(17, .no,true),(18, .st,true),(4, .no,true),(9, .no,true),(14, .no,true),(19, .no,true),(20, .no,true),(21, .no,true),(22, .no,true)] kr kr (λi k e=>by cases e) ?_
 repeat' first|simp only[go_sem, *]|apply bc<;>intro c|(refine zA.mono (h1 _) ?_;rintro r h ⟨rfl,rfl⟩)|(refine zA.mono (f _) ?_;rintro r h ⟨rfl,rfl⟩)|(refine zA.mono (h3 _) ?_;rintro r h ⟨rfl,rfl⟩)|(refine zA.mono (j _) ?_;rintro r h ⟨rfl,rfl⟩)|(refine zA.mono (h5 _) ?_;rintro r h ⟨rfl,rfl⟩)
def rG (a:zZ sz xs d):d.flat=true:=by rcases a with⟨rfl,_⟩ | ⟨tk,rfl⟩ <;>rfl
def pX (m:KN) (k:List UInt8):Bool:=(oo k m).isSome
variable {id:Nat}{h:Heap}
def ZM {m:KN} (a:h.at' id=some (.map (knD m))) (k:List UInt8):∃v,yi prog 180 (.map id) (.str k) true h=some (.tuple [.int .i64 v, .bool (pX m k)]):=by
 have:=bO (P:=prog) (t:=180) a an YQ uN k true;rw[this];unfold pX;cases oo k m with
 |none=>exact⟨0,rfl⟩
 |some v=>exact⟨v,rfl⟩
def jD (m:KN) (l:List Exc) (i:Nat) (x:Exc):Int:=
 if(!tR x.name)=true then 2
 else if(!pX m x.lic)=true then 7
 else if(x.lifts.any λn=> !(decide (n>=0)&&decide (n<=5)))=true then 3
 else if(((x.lifts.length:Int)==0)||(!TA x.lifts||(decide ((i:Int)>0)&&leB x.name ((l.map Exc.name).getD (i-1) []))))=true then 5 else 0
def jV {l:List Exc} (F:zZ 3 (EG l) d) (V:l.length<=1048576) (Q:∀x∈l,x.Ok) (G:i<l.length) {m:KN} (t:g.at' id=some (.map (knD m))):
  zA prog 110 [d, .int .i64 (i:Int), .map id] g λr h'=>h'=g/\r= .int .i64 (jD m l i l[i]):=by
 refine xU kr λw=> ?_;have P:id<g.next:=by
  by_cases h:id<g.next
  ·exact h
  ·rw[w id ow] at t;cases t
 obtain⟨o1,o2,T⟩:=Q _ (List.getElem_mem G);have q:=nW F G;have E:∀k:Int,below g.next (.int .i64 k):=λk=>trivial;have S:∀a b c:D,zM true 3 [a,b,c] 0=some (.agg [a,b,c]):=λa b c=>zB rfl ow;have B:=fU T;have C:=fW o1 o2 (f:=192) (cap:=[]) λn _ h=>zAh n h;have o:=Yy o1 o2;have O:=wd o1;have e:i-1<l.length:=ow;obtain⟨R,j⟩:∃R,jD m l i l[i]=R:=⟨_,rfl⟩;rw[j];unfold jD at j;have z:(l.map Exc.name).getD (i-1) []=(l[i-1]'e).name:=by simp[e]
 have p:=nW F e;have M:=mg l[i].name (l[i-1]'e).name;rw[z] at j;generalize l[i]=x at *
 simp only[Exc.cells] at q p;have A:zP prog 113 (.ptr g.next 0) (.agg [.str x.name, .str x.lic,x.d]) (g.new g.next (.row [.str [], .str [], .nilsl]))=some (g.new g.next (.row [.str x.name, .str x.lic,x.d])):=zg gp ow rfl rfl (by show(true&&(true&&(x.d.flat&&true)))=true;rw[rG o1];rfl);obtain⟨H,L,I,K,u⟩:∃H,g.new g.next (.row [.str x.name, .str x.lic,x.d])=H/\H.at' g.next=some (.row [.str x.name, .str x.lic,x.d])/\Ext g H/\H.at' id=some (.map (knD m)):=⟨_,rfl,zK _ _ _,(Ext.refl g).new (Nat.le_refl _) _,by rw[zG ow];exact t⟩;rw[L] at A;obtain⟨v,N⟩:=ZM u x.lic;refine xO mix func110 zEr rfl rfl ?_
 simp only[f110,gJ];by_cases h0:0<i
 ·have J:decide ((i:Int)>0)=true:=decide_eq_true ow;have U:IntKind.i64.wrap ((i:Int)-1)=((i-1:Nat):Int):=by rw[zd ow ow];omega
  subst j;generalize l[i-1]=y at *
  repeat' first|simp only[go_sem, *]|apply bc<;>intro s|(refine zA.mono (B _) ?_;rintro r h ⟨rfl,rfl⟩)|(refine zA.mono (C _) ?_;rintro r h ⟨rfl,rfl⟩)|(refine zA.mono (o _) ?_;rintro r h ⟨rfl,rfl⟩)
  all_goals
   refine zU kr ?_
   repeat' first|simp only[go_sem, *]|apply bc<;>intro s|(refine zA.mono (o _) ?_;rintro r h ⟨rfl,rfl⟩)
 ·have J:decide ((i:Int)>0)=false:=decide_eq_false ow;subst j
  repeat' first|simp only[go_sem, *]|apply bc<;>intro s|(refine zA.mono (B _) ?_;rintro r h ⟨rfl,rfl⟩)|(refine zA.mono (C _) ?_;rintro r h ⟨rfl,rfl⟩)|(refine zA.mono (o _) ?_;rintro r h ⟨rfl,rfl⟩)
  all_goals
   refine zU kr ?_
   repeat' first|simp only[go_sem, *]|apply bc<;>intro s|(refine zA.mono (o _) ?_;rintro r h ⟨rfl,rfl⟩)
def JW (p q c:Bool):pb prog .neq 4 c (.bool p) (.bool q)=some (.bool (p !=q)):=by cases p<;>cases q<;>simp[pb,IZ,tE,veq,underlying4]
def jE (m:KN) (l:List Cla) (i:Nat) (x:Cla):Int:=
 if(!pX m x.lic)=true then 7
 else if(decide (x.way<0)||decide (x.way>2)||decide (x.rel<0)||decide (x.rel>2)|| !(decide (x.duty>=0)&&decide (x.duty<=5)))=true then 3
 else if(!(decide ((x.list.length:Int)>0)==(x.duty==4)))=true then 1
 else if(x.list.any λs=> !pX m s)=true then 7
 else if(!fV x.list||(decide ((i:Int)>0)&&decide (ME (l.getD (i-1) x) x>=0)))=true then 5 else 0
theorem ZN {l:List Cla} (T:zZ 5 (Y4 l) d) (hl:l.length<=1048576) (hs:∀x∈l,x.Ok) (U:i<l.length) {m:KN} (I:g.at' id=some (.map (knD m))):
  zA prog 111 [d, .int .i64 (i:Int), .map id] g λr h'=>h'=g/\r= .int .i64 (jE m l i l[i]):=by
 refine xU kr λK=> ?_;have o:id<g.next:=by
  by_cases h:id<g.next
  ·exact h
  ·rw[K id ow] at I;cases I
 obtain⟨o1,o2⟩:=hs _ (List.getElem_mem U);have G:=p6 T U;have S:∀k:Int,below g.next (.int .i64 k):=λk=>trivial;have au:∀a b c e f:D,zM true 5 [a,b,c,e,f] 0=some (.agg [a,b,c,e,f]):=λa b c e f=>zB rfl ow;have n:i-1<l.length:=ow;have O:=Yx o1 o2;have ai:=yK o1;have ak:=JW;obtain⟨R,u⟩:∃R,jE m l i l[i]=R:=⟨_,rfl⟩;rw[u];unfold jE at u;have M:∀x,l.getD (i-1) x=l[i-1]'n:=λx=>by simp[n]
 have F:=p6 T n;have P:=jU (l[i-1]'n) l[i];rw[M] at u;generalize l[i]=x at *
 have W:=U9 x.duty;simp only[Cla.cells] at G F P;have N:zP prog 117 (.ptr g.next 0) (.agg [.str x.lic, .int .i64 x.way, .int .i64 x.rel, .int .i64 x.duty,x.d]) (g.new g.next (.row [.str [], .int .i64 0, .int .i64 0, .int .i64 0, .nilsl]))=some (g.new g.next (.row [.str x.lic, .int .i64 x.way, .int .i64 x.rel, .int .i64 x.duty,x.d])):=zg pu ow rfl rfl (by show(true&&(true&&(true&&(true&&(x.d.flat&&true)))))=true;rw[rG o1];rfl)
 obtain⟨H,hH,V,ad,J⟩:∃H,g.new g.next (.row [.str x.lic, .int .i64 x.way, .int .i64 x.rel, .int .i64 x.duty,x.d])=H/\H.at' g.next=some (.row [.str x.lic, .int .i64 x.way, .int .i64 x.rel, .int .i64 x.duty,x.d])/\Ext g H/\H.at' id=some (.map (knD m)):=⟨_,rfl,zK _ _ _,(Ext.refl g).new (Nat.le_refl _) _,by rw[zG ow];exact I⟩;rw[hH] at N;have cn:=λk=>ZM J k;obtain⟨v,ag⟩:=cn x.lic;refine xO mix func111 BU rfl rfl ?_;simp only[f111,gJ];obtain⟨L,E⟩:∃L,(x.list.any λs=> !pX m s)=L:=⟨_,rfl⟩;rw[E] at u;subst u
 repeat' first|simp only[go_sem, *]|apply bc<;>intro t|(refine zA.mono (W _) ?_;rintro r h ⟨rfl,rfl⟩)
 all_goals
  rename Heap=>H
  refine zD (λk fr h=>fr 0=d/\fr 1= .int .i64 (i:Int)/\fr 2= .map id/\fr 7= .ptr g.next 0/\fr 62=x.d/\fr 63= .int .i64 (x.list.length:Int)/\fr 64= .int .i64 (k:Int)/\h=H/\∀j (z:j<x.list.length),j<k->(!pX m x.list[j])=false) x.list.length ow ?_ ?_ ?_
  ·simp only[go_sem,true_and,and_true,Int.ofNat_zero];exact λj z h0=>by omega
  ·rintro k fr h o e1 Y ⟨Z,f1,f2,f7,B,C,f64,rfl,z⟩;have a1:=wN o1 o;obtain⟨w,hw⟩:=cn x.list[k];cases Q:pX m x.list[k] with
   |false=>
    have q:L=true:=by rw[<-E];exact fS (p:=λs=> !pX m s) o (by simp only[Q];rfl)
    subst q
    repeat' first|simp only[go_sem, *]|apply bc<;>intro t
   |true=>
    have hn:=qM (p:=λs=> !pX m s) o z (by simp only[Q];rfl)
    repeat' first|simp only[go_sem, *]|apply bc<;>intro t
    exact hn
  ·rintro fr h e1 ⟨Z,f1,f2,f7,B,C,f64,rfl,z⟩;have q:L=false:=by rw[<-E];exact nF λj A _=>z j A A
   subst q;by_cases h0:0<i
   ·have X:decide ((i:Int)>0)=true:=decide_eq_true ow;have Y:IntKind.i64.wrap ((i:Int)-1)=((i-1:Nat):Int):=by rw[zd ow ow];omega
    generalize l[i-1]=y at *
    repeat' first|simp only[go_sem, *]|apply bc<;>intro t
    refine zO Heap.emp [(0, .no,false),(1, .no,false),(2, .no,false),(3, .no,false),(4, .no,false),(5, .no,false),(6, .no,false),(7, .no,false),(13, .no,false),(8, .no,false),(9, .no,false),(10, .no,false),(11, .no,false),(12, .no,false),(14, .no,false),(15, .no,false),(16, .no,false),(17, .no,false)] kr kr (λi ob e=>by cases e) ?_
    repeat' first|simp only[go_sem, *]|apply bc<;>intro t|(refine zA.mono (O _) ?_;rintro r h ⟨rfl,rfl⟩)|(refine zA.mono (P _) ?_;rintro r h ⟨rfl,rfl⟩)
   ·have X:decide ((i:Int)>0)=false:=decide_eq_false ow
    repeat' first|simp only[go_sem, *]|apply bc<;>intro t
    refine zO Heap.emp [(0, .no,false),(1, .no,false),(2, .no,false),(3, .no,false),(4, .no,false),(5, .no,false),(6, .no,false),(7, .no,false),(13, .no,false),(8, .no,false),(9, .no,false),(10, .no,false),(11, .no,false),(12, .no,false),(14, .no,false),(15, .no,false),(16, .no,false),(17, .no,false)] kr kr (λi ob e=>by cases e) ?_
    repeat' first|simp only[go_sem, *]|apply bc<;>intro t|(refine zA.mono (O _) ?_;rintro r h ⟨rfl,rfl⟩)
def jF (m:KN) (l:List Apt) (i:Nat) (x:Apt):Int:=
 if([x.a,x.b].any λs=> !pX m s)=true then 7
 else if(!dX x.a x.b||(decide ((i:Int)>0)&&decide (MF (l.getD (i-1) x) x>=0)))=true then 5 else 0
def zHx (a b:List UInt8) (nid:Nat) (h:Heap):zI prog false nid 31 2 [(0, .str a),(1, .str b)] h=some (.sl 1 (yR [a,b]) .full,h):=by
 simp[zI,yq,nR,uY,si,D.notTuple,D.cells,yH,qB,yU,yR]
theorem Wz {l:List Apt} (W:zZ 2 (JU l) d) (hl:l.length<=1048576) (hi:i<l.length) {m:KN} (E:g.at' id=some (.map (knD m))):
  zA prog 112 [d, .int .i64 (i:Int), .map id] g λr h'=>h'=g/\r= .int .i64 (jF m l i l[i]):=by
 refine xU kr λQ=> ?_;have P:id<g.next:=by
  by_cases h:id<g.next
  ·exact h
  ·rw[Q id ow] at E;cases E
 have K:=kE W hi;have V:∀k:Int,below g.next (.int .i64 k):=λk=>trivial;have n:i-1<l.length:=ow;obtain⟨R,v⟩:∃R,jF m l i l[i]=R:=⟨_,rfl⟩;rw[v];unfold jF at v;have D:∀x,l.getD (i-1) x=l[i-1]'n:=λx=>by simp[n]
 have z:=kE W n;have F:=cC (l[i-1]'n) l[i];rw[D] at v;clear D;generalize l[i]=x at *
 simp only[Apt.cells] at K z F;have S:zP prog 121 (.ptr g.next 0) (.agg [.str x.a, .str x.b]) (g.new g.next (.row [.str [], .str []]))=some (g.new g.next (.row [.str x.a, .str x.b])):=zg ah ow rfl rfl rfl;obtain⟨H,T,X,ad,C⟩:∃H,g.new g.next (.row [.str x.a, .str x.b])=H/\H.at' g.next=some (.row [.str x.a, .str x.b])/\Ext g H/\H.at' id=some (.map (knD m)):=⟨_,rfl,zK _ _ _,(Ext.refl g).new (Nat.le_refl _) _,by rw[zG ow];exact E⟩;rw[T] at S;have cn:=λk=>ZM C k;have M:=zHx x.a x.b;obtain⟨c,f⟩:∃c,[x.a,x.b]=c:=⟨_,rfl⟩;have o:c.length=2:=by rw[<-f];rfl
 have o1:zZ 1 (yR c) (.sl 1 (yR c) .full):=zZ.mk _;have B:=yK o1;rw[o] at B;rw[f] at M v;clear T E C;refine xO mix func112 zDQ rfl rfl ?_;simp only[f112,gJ];obtain⟨L,u⟩:∃L,(c.any λs=> !pX m s)=L:=⟨_,rfl⟩;rw[u] at v;subst v;clear f
 repeat' first|simp only[go_sem, *]|apply bc<;>intro A
 refine zD (λk fr h=>fr 0=d/\fr 1= .int .i64 (i:Int)/\fr 2= .map id/\fr 7= .ptr g.next 0/\fr 20= .sl 1 (yR c) .full/\fr 21= .int .i64 ((2:Nat):Int)/\fr 22= .int .i64 (k:Int)/\h=H/\∀j (q:j<c.length),j<k->(!pX m c[j])=false) 2 ow ?_ ?_ ?_
 ·simp only[go_sem,true_and,and_true,Int.ofNat_zero];exact λj q h0=>by omega
 ·rintro k fr h P e1 Z ⟨f0,f1,f2,f7,G,I,J,rfl,q⟩;have O:k<c.length:=ow;have a1:=wN o1 O;obtain⟨w,hw⟩:=cn c[k];cases U:pX m c[k] with
  |false=>
   have t:L=true:=by rw[<-u];exact fS (p:=λs=> !pX m s) O (by simp only[U];rfl)
   subst t;clear q u cn o1 o
   repeat' first|simp only[go_sem, *]|apply bc<;>intro A
  |true=>
   have hn:=qM (p:=λs=> !pX m s) O q (by simp only[U];rfl);clear q u cn o1 o
   repeat' first|simp only[go_sem, *]|apply bc<;>intro A
   exact hn
 ·rintro fr h e1 ⟨f0,f1,f2,f7,G,I,J,rfl,q⟩;have t:L=false:=by rw[<-u];exact nF λj N _=>q j N ow
  subst t;clear q u cn o1 o;by_cases h0:0<i
  ·have Y:decide ((i:Int)>0)=true:=decide_eq_true ow;have Z:IntKind.i64.wrap ((i:Int)-1)=((i-1:Nat):Int):=by rw[zd ow ow];omega
   generalize l[i-1]=y at *
   repeat' first|simp only[go_sem, *]|apply bc<;>intro A
   refine zO Heap.emp [(0, .no,false),(1, .no,false),(2, .no,false),(3, .no,false),(4, .no,false),(5, .no,false),(6, .no,false),(7, .no,false),(8, .no,false),(14, .no,false),(9, .no,false),(10, .no,false),(11, .no,false),(12, .no,false),(13, .no,false),(15, .no,false),(16, .no,false),(17, .no,false),(18, .no,false)] kr kr (λi ob e=>by cases e) ?_
   repeat' first|simp only[go_sem, *]|apply bc<;>intro A|(refine zA.mono (F _) ?_;rintro r h ⟨rfl,rfl⟩)
  ·have Y:decide ((i:Int)>0)=false:=decide_eq_false ow;clear z F
   repeat' first|simp only[go_sem, *]|apply bc<;>intro A
   refine zO Heap.emp [(0, .no,false),(1, .no,false),(2, .no,false),(3, .no,false),(4, .no,false),(5, .no,false),(6, .no,false),(7, .no,false),(8, .no,false),(14, .no,false),(9, .no,false),(10, .no,false),(11, .no,false),(12, .no,false),(13, .no,false),(15, .no,false),(16, .no,false),(17, .no,false),(18, .no,false)] kr kr (λi ob e=>by cases e) ?_;exact au
structure Cat where
 ls:List Lic
 es:List Exc
 cs:List Cla
 ps:List Apt
structure Cat.Sm (c:Cat):Prop where
 ls:c.ls.length<=1048576/\∀x∈c.ls,x.Sm
 es:c.es.length<=1048576/\∀x∈c.es,x.Ok
 cs:c.cs.length<=1048576/\∀x∈c.cs,x.Ok
 ps:c.ps.length<=1048576
def yt (c:Cat) (d:D):Prop:=∃a b e p,d= .agg [a,b,e,p]/\zZ 4 (pH c.ls) a/\zZ 3 (EG c.es) b/\zZ 5 (Y4 c.cs) e/\zZ 2 (JU c.ps) p
def nY (f:Nat->Int):Nat->Int
 |0=>0
 |n+1=>if(nY f n==0)=true then f n else nY f n
theorem wH {f:Nat->Int} :∀ {n:Nat},(∀i,i<n->f i=0)->nY f n=0
 |0,_=>rfl
 |n+1,h=>by
  have a:=wH (n:=n) λi b=>h i ow;simp[nY,a,h n ow]
theorem pJ {f:Nat->Int} :∀ {n i:Nat},i<n->(∀j,j<i->f j=0)->f i≠0->nY f n=f i
 |n+1,i,b,a,h0=>by
  rcases Nat.lt_succ_iff_lt_or_eq.1 b with q|rfl
  ·have c:=pJ q a h0;simp only[nY,c];rw[iq (by simpa using h0)]
  ·simp[nY,wH a]
def wm {f:Nat->Int} (b:∀j,j<i->f j=0) (h:f i=0):∀j,j<i+1->f j=0:=λj a=>by
 rcases Nat.lt_succ_iff_lt_or_eq.1 a with q|rfl
 ·exact b j q
 ·exact h
def atE {α:Type} (f:Nat->α->Int) (l:List α) (i:Nat):Int:=match l[i]? with
 |some x=>f i x
 |none=>0
def TD {f:Nat->α->Int} {l:List α} (h:i<l.length):atE f l i=f i l[i]:=by simp[atE,h]
def Cat.m (c:Cat):KN:=Y3 c.ls c.ls.length
def Cat.big (c:Cat):Bool:=decide ((c.ls.length:Int)>32)||decide ((c.es.length:Int)>16)||decide ((c.cs.length:Int)>128)||decide ((c.ps.length:Int)>64)
def Cat.e1 (c:Cat):Int:=nY (atE (mh c.ls) c.ls) c.ls.length
def Cat.e2 (c:Cat):Int:=nY (atE (jD c.m c.es) c.es) c.es.length
def Cat.e3 (c:Cat):Int:=nY (atE (jE c.m c.cs) c.cs) c.cs.length
def Cat.e4 (c:Cat):Int:=nY (atE (jF c.m c.ps) c.ps) c.ps.length
def tK (c:Cat):Int:=
 if c.big=true then 10
 else if(!(c.e1==0))=true then c.e1
 else if(!(c.e2==0))=true then c.e2
 else if(!(c.e3==0))=true then c.e3
 else c.e4
variable {c:Cat}
theorem oX (x:yt c d) (C:c.Sm) (g:Heap):zA prog 59 [d] g λr h'=>h'=g/\r= .int .i64 (tK c):=by
 refine xU kr λP=> ?_;obtain⟨a,b,e,p,rfl,F,J,L,M⟩:=x;have V:=qz F;have W:=oW J;have le:=pI L;have N:=mi M;have s1:=C.ls.1;have s2:=C.es.1;have s3:=C.cs.1;have s4:=C.ps;have K:∀k:Int,below g.next (.int .i64 k):=λk=>trivial;have O:Ext g g:=Ext.refl g;refine xO mix func59 zGb rfl rfl ?_;simp only[f59,gJ];cases q:c.big with
 |true=>
  have t:tK c=10:=ip q;unfold Cat.big at q
  repeat' first|simp only[go_sem, *]|apply bc<;>intro x
  all_goals(simp only[decide_true,decide_false,bne,Bool.or_false,Bool.or_true,Bool.false_or,Bool.true_or,Bool.or_self,Bool.false_and,Bool.true_and,Bool.and_false,Bool.and_true,Bool.and_self,Bool.not_true,Bool.not_false,Bool.not_not,Bool.true_eq_false,Bool.false_eq_true, *] at q;done)
 |false=>
 have t:tK c=if(!(c.e1==0))=true then c.e1 else if(!(c.e2==0))=true then c.e2 else if(!(c.e3==0))=true then c.e3 else c.e4:=iq (by rw[q];exact Bool.false_ne_true)
 obtain⟨R,I⟩:∃R,tK c=R:=⟨_,rfl⟩;rw[I] at t⊢;have D:=t.symm;clear t;have t:=D;clear D;clear I;unfold Cat.big at q;simp only[Bool.or_eq_false_iff] at q;obtain⟨⟨⟨Q,X⟩,Y⟩,Z⟩:=q
 repeat' first|simp only[go_sem, *]|apply bc<;>intro x
 refine zD (λk fr h=>fr 1= .iptr [a,b,e,p] 0/\fr 36= .int .i64 (c.ls.length:Int)/\fr 37= .int .i64 (k:Int)/\h=g/\∀j,j<k->atE (mh c.ls) c.ls j=0) c.ls.length ow ?_ ?_ ?_
 ·simp only[go_sem,true_and,and_true,Int.ofNat_zero];exact λj l=>absurd l (Nat.not_lt_zero _)
 ·rintro k fr h n y E ⟨w,fl,z,rfl,l⟩;have s:=d9 F ow C.ls.2 n;have i:=TD (f:=mh c.ls) n;generalize mh c.ls k c.ls[k]=v at *
  cases u:(v==0) with
  |false=>
   have o:nY (atE (mh c.ls) c.ls) c.ls.length=v:=by rw[pJ n l (by rw[i];simpa using u),i]
   have o:c.e1=v:=o;rw[o,ip (by rw[u];rfl)] at t;subst t;clear l i o
   repeat' first|simp only[go_sem, *]|apply bc<;>intro x|(refine zA.mono (s _) ?_;rintro r h ⟨rfl,rfl⟩)
  |true=>
   have B:=wm l (by rw[i];simpa using u);clear l i
   repeat' first|simp only[go_sem, *]|apply bc<;>intro x|(refine zA.mono (s _) ?_;rintro r h ⟨rfl,rfl⟩)
   exact B
 rintro fr h y ⟨w,fl,z,rfl,l⟩;have o:c.e1=0:=wH l;rw[o,iq (by decide)] at t;clear l o Q
 rename Heap=>g
 simp only[go_sem,w,fl,z,y];refine(bP F ow _).mono ?_;rintro r H ⟨id,rfl,T,U,G,S⟩
 repeat' first|simp only[go_sem, *]|apply bc<;>intro x
 refine zD (λk fr h=>fr 1= .iptr [a,b,e,p] 0/\fr 5= .map id/\fr 52= .int .i64 (c.es.length:Int)/\fr 53= .int .i64 (k:Int)/\h=H/\∀j,j<k->atE (jD c.m c.es) c.es j=0) c.es.length ow ?_ ?_ ?_
 ·simp only[go_sem,true_and,and_true,Int.ofNat_zero];exact⟨w,λj l=>absurd l (Nat.not_lt_zero _)⟩
 ·rintro k fr h n y E ⟨w,A,fl,z,rfl,l⟩;have s:=jV J ow C.es.2 n (m:=c.m) G;have i:=TD (f:=jD c.m c.es) n;generalize jD c.m c.es k c.es[k]=v at *
  cases u:(v==0) with
  |false=>
   have o:nY (atE (jD c.m c.es) c.es) c.es.length=v:=by rw[pJ n l (by rw[i];simpa using u),i]
   have o:c.e2=v:=o;rw[o,ip (by rw[u];rfl)] at t;subst t;clear l i o
   repeat' first|simp only[go_sem, *]|apply bc<;>intro x|(refine zA.mono s ?_;rintro r h ⟨rfl,rfl⟩)
  |true=>
   have B:=wm l (by rw[i];simpa using u);clear l i
   repeat' first|simp only[go_sem, *]|apply bc<;>intro x|(refine zA.mono s ?_;rintro r h ⟨rfl,rfl⟩)
   exact B
 rintro fr h y ⟨w,A,fl,z,rfl,l⟩;have o:c.e2=0:=wH l;rw[o,iq (by decide)] at t;clear l o
 rename Heap=>H
 simp only[go_sem,w,A,fl,z,y,le,N];refine zD (λk fr h=>fr 1= .iptr [a,b,e,p] 0/\fr 5= .map id/\fr 67= .int .i64 (c.cs.length:Int)/\fr 68= .int .i64 (k:Int)/\h=H/\∀j,j<k->atE (jE c.m c.cs) c.cs j=0) c.cs.length ow ?_ ?_ ?_
 ·simp only[go_sem,true_and,and_true,Int.ofNat_zero];exact⟨w,A,λj l=>absurd l (Nat.not_lt_zero _)⟩
 ·rintro k fr h n y E ⟨w,A,fl,z,rfl,l⟩;have s:=ZN L ow C.cs.2 n (m:=c.m) G;have i:=TD (f:=jE c.m c.cs) n;generalize jE c.m c.cs k c.cs[k]=v at *
  cases u:(v==0) with
  |false=>
   have o:nY (atE (jE c.m c.cs) c.cs) c.cs.length=v:=by rw[pJ n l (by rw[i];simpa using u),i]
   have o:c.e3=v:=o;rw[o,ip (by rw[u];rfl)] at t;subst t;clear l i o
   repeat' first|simp only[go_sem, *]|apply bc<;>intro x|(refine zA.mono s ?_;rintro r h ⟨rfl,rfl⟩)
  |true=>
   have B:=wm l (by rw[i];simpa using u);clear l i
   repeat' first|simp only[go_sem, *]|apply bc<;>intro x|(refine zA.mono s ?_;rintro r h ⟨rfl,rfl⟩)
   exact B
 rintro fr h y ⟨w,A,fl,z,rfl,l⟩;have o:c.e3=0:=wH l;rw[o,iq (by decide)] at t;clear l o
 rename Heap=>H
 simp only[go_sem,w,A,fl,z,y,le,N];refine zD (λk fr h=>fr 1= .iptr [a,b,e,p] 0/\fr 5= .map id/\fr 82= .int .i64 (c.ps.length:Int)/\fr 83= .int .i64 (k:Int)/\h=H/\∀j,j<k->atE (jF c.m c.ps) c.ps j=0) c.ps.length ow ?_ ?_ ?_
 ·simp only[go_sem,true_and,and_true,Int.ofNat_zero];exact⟨w,A,λj l=>absurd l (Nat.not_lt_zero _)⟩
 ·rintro k fr h n y E ⟨w,A,fl,z,rfl,l⟩;have s:=Wz M ow n (m:=c.m) G;have i:=TD (f:=jF c.m c.ps) n;generalize jF c.m c.ps k c.ps[k]=v at *
  cases u:(v==0) with
  |false=>
   have o:nY (atE (jF c.m c.ps) c.ps) c.ps.length=v:=by rw[pJ n l (by rw[i];simpa using u),i]
   have o:c.e4=v:=o;rw[o] at t;subst t;clear l i o
   repeat' first|simp only[go_sem, *]|apply bc<;>intro x|(refine zA.mono s ?_;rintro r h ⟨rfl,rfl⟩)
  |true=>
   have B:=wm l (by rw[i];simpa using u);clear l i
   repeat' first|simp only[go_sem, *]|apply bc<;>intro x|(refine zA.mono s ?_;rintro r h ⟨rfl,rfl⟩)
   exact B
 rintro fr h y ⟨w,A,fl,z,rfl,l⟩;have o:c.e4=0:=wH l;rw[o] at t;subst t;clear l o;exact au
theorem TE {l:List Lic} {k:List UInt8} {v:Int} :∀ {i:Nat},oo k (Y3 l i)=some v->∃j:Nat,j<i/\v=(j:Int)/\(l.map Lic.name).getD j []=k
 |0,h=>by cases h
 |i+1,h=>by
  rw[Y3,Y2] at h;split at h
  ·rename_i q;have q:k=(l.map Lic.name).getD i []:=by simpa using q
   exact⟨i,by omega,(Option.some.inj h).symm,q.symm⟩
  ·obtain⟨j,h1,a,h3⟩:=TE h;exact⟨j,by omega,a,h3⟩
def rH (c:Cat) (k:List UInt8):Option Lic:=if(!(tK c==0))=true then none else match oo k c.m with
 |some v=>c.ls[v.toNat]?
 |none=>none
def p7 (c:Cat) (k:List UInt8):D:=match rH c k with
 |some x=> .tuple [.agg [.str x.name, .str x.fam, .int .i64 x.ver, .str x.text], .bool true]
 |none=> .tuple [.agg lN, .bool false]
def MG (u:yt c d) (Q:c.Sm) (k:List UInt8) (g:Heap):zA prog 164 [d, .str k] g λr h'=>h'=g/\r=p7 c k:=by
 refine xU kr λW=> ?_;have n:=oX u Q;obtain⟨a,b,e,p,rfl,L,hb,he,hp⟩:=u;have s1:=Q.ls.1;have o:=λh=>bP (e1:=b) (e2:=e) (e3:=p) L s1 h;have U:zt prog 108 []=some (.agg lN):=by simp[zt,gm,gk,qB,D.notTuple,D.cells]
 have l:∀ (x:Lic) (H:Heap),H.at' g.next=some (.row lN)->zP prog 108 (.ptr g.next 0) (.agg [.str x.name, .str x.fam, .int .i64 x.ver, .str x.text]) H=some (H.set g.next (.row [.str x.name, .str x.fam, .int .i64 x.ver, .str x.text])):=λx H h=>yM h rz rfl (by simp) rfl;have f:∀H:Heap,H.at' g.next=some (.row lN)->zP prog 108 (.ptr g.next 0) (.agg lN) H=some (H.set g.next (.row lN)):=λH h=>l ⟨[],[],0,[]⟩ H h;obtain⟨G,hG,E,A,X⟩:∃G,g.new g.next (.row lN)=G/\G.at' g.next=some (.row lN)/\Ext g G/\g.next<G.next:=⟨_,rfl,zK _ _ _,(Ext.refl g).new (Nat.le_refl _) _,by rw[zF];omega⟩;have S:=f G E
 have J:=A.set (id:=g.next) (Nat.le_refl _) (.row lN);have q:∀ (x:Lic) (b:Bool),below g.next (.tuple [.agg [.str x.name, .str x.fam, .int .i64 x.ver, .str x.text], .bool b]):=λx b=>by simp[below,zf]
 have y:below g.next (.tuple [.agg lN, .bool false]):=q ⟨[],[],0,[]⟩ false;refine xO mix func164 Au rfl rfl ?_;simp only[f164,gJ];cases R:(tK c==0) with
 |false=>
  have K:p7 c k= .tuple [.agg lN, .bool false]:=by unfold p7 rH;rw[ip (by rw[R];rfl)]
  clear o l f
  repeat' first|simp only[go_sem,zC, *]|apply bc<;>intro u|(refine zA.mono (n _) ?_;rintro r h ⟨rfl,rfl⟩)
 |true=>
 have hf:rH c k=(match oo k c.m with
  |some v=>c.ls[v.toNat]?
  |none=>none):=iq (by rw[R];decide)
 clear y
 repeat' first|simp only[go_sem, *]|apply bc<;>intro u|(refine zA.mono (n _) ?_;rintro r h ⟨rfl,rfl⟩)
 rename Heap=>G
 refine(o _).mono ?_;rintro r H ⟨id,rfl,i1,i2,O,C⟩;have s:H.at' g.next=some (.row lN):=by rw[C.2 _ X];exact E
 have B:=A.trans C;obtain⟨v,I⟩:=ZM O k;have y:below g.next (.tuple [.agg lN, .bool false]):=q ⟨[],[],0,[]⟩ false;have T:=B.set (id:=g.next) (Nat.le_refl _) (.row lN);have Y:=f H s;cases z:oo k (Y3 c.ls c.ls.length) with
 |none=>
  have K:p7 c k= .tuple [.agg lN, .bool false]:=by
   unfold p7;rw[hf];unfold Cat.m;rw[z]
  have hh:pX (Y3 c.ls c.ls.length) k=false:=by unfold pX;rw[z];rfl
  clear hf l f o n C B J S E A
  repeat' first|simp only[go_sem,zC, *]|apply bc<;>intro u
 |some w=>
  obtain⟨j,M,rfl,V⟩:=TE z;have i:=bO (P:=prog) (t:=180) O an YQ uN k true;rw[z] at i;have N:yi prog 180 (.map id) (.str k) true H=some (.tuple [.int .i64 (j:Int), .bool true]):=i;clear i;have F:=wx L M;simp only[Lic.cells] at F;have K:p7 c k= .tuple [.agg [.str c.ls[j].name, .str c.ls[j].fam, .int .i64 c.ls[j].ver, .str c.ls[j].text], .bool true]:=by
   unfold p7;rw[hf];unfold Cat.m;rw[z];simp only[Int.toNat_natCast,List.getElem?_eq_getElem M]
  have s2:=l c.ls[j] H s;have Z:=B.set (id:=g.next) (Nat.le_refl _) (.row [.str c.ls[j].name, .str c.ls[j].fam, .int .i64 c.ls[j].ver, .str c.ls[j].text]);clear hf l f o n C B J S E A I Y T
  repeat' first|simp only[go_sem,zC, *]|apply bc<;>intro u
def ZO (c:Cat) (lic exc:List UInt8):Option Exc:=c.es.find? λx=>x.name==exc&&x.lic==lic
def mj (c:Cat) (lic exc:List UInt8):D:=
 if(rH c lic).isSome=false then .tuple [.nilsl, .bool false]
 else if(exc== [])=true then .tuple [.nilsl, .bool true]
 else match ZO c lic exc with
  |some x=> .tuple [x.d, .bool true]
  |none=> .tuple [.nilsl, .bool false]
def EI {p:α->Bool} {l:List α} (c:i<l.length) (b:∀j (b:j<l.length),j<i->p l[j]=false) (d:p l[i]=true):l.find? p=some l[i]:=by
 rw[List.find?_eq_some_iff_getElem];exact⟨d,i,c,rfl,λj a=>by rw[b j ow a];rfl⟩
def MH {p:α->Bool} {l:List α} (b:∀j (b:j<l.length),p l[j]=false):l.find? p=none:=by
 rw[List.find?_eq_none];intro x c;obtain⟨j,a,rfl⟩:=List.mem_iff_getElem.1 c;rw[b j a];exact Bool.false_ne_true
theorem MI (z:yt c d) (P:c.Sm) (f i:List UInt8) (g:Heap):zA prog 232 [d, .agg [.str f, .str i]] g λr h'=>Ext g h'/\r=mj c f i:=by
 have v:=MG z P f;obtain⟨a,b,e,p,rfl,ha,U,he,hp⟩:=z;have s2:=P.es.1;have lb:=oW U;have ai:∀a b c:D,zM true 3 [a,b,c] 0=some (.agg [a,b,c]):=λa b c=>zB rfl ow;have s:∀ (x:Lic) (h:Heap),zP prog 108 (.ptr h.next 0) (.agg [.str x.name, .str x.fam, .int .i64 x.ver, .str x.text]) (h.new h.next (.row lN))=some (h.new h.next (.row [.str x.name, .str x.fam, .int .i64 x.ver, .str x.text])):=λx h=>pV x h h.next;have I:∀o,Ext g (g.new g.next o):=λo=>(Ext.refl g).new (Nat.le_refl _) o;refine xO mix func232 Ag rfl rfl ?_;simp only[f232,gJ];cases hf:rH c f with
 |none=>
  have J:p7 c f= .tuple [.agg lN, .bool false]:=by unfold p7;rw[hf]
  have hR:mj c f i= .tuple [.nilsl, .bool false]:=by unfold mj;rw[hf];rfl
  have F:=λh=>s ⟨[],[],0,[]⟩ h;clear s
  repeat' first|simp only[go_sem, *]|apply bc<;>intro z|(refine zA.mono (v _) ?_;rintro r h ⟨rfl,rfl⟩)
 |some x=>
  have J:p7 c f= .tuple [.agg [.str x.name, .str x.fam, .int .i64 x.ver, .str x.text], .bool true]:=by unfold p7;rw[hf]
  have F:=λh=>s x h;clear s;cases W:(i== []) with
  |true=>
   have hR:mj c f i= .tuple [.nilsl, .bool true]:=by unfold mj;rw[hf,W];rfl
   repeat' first|simp only[go_sem, *]|apply bc<;>intro z|(refine zA.mono (v _) ?_;rintro r h ⟨rfl,rfl⟩)
  |false=>
  have C:mj c f i=match ZO c f i with
   |some x=> .tuple [x.d, .bool true]
   |none=> .tuple [.nilsl, .bool false]:=by unfold mj;rw[hf,W];rfl
  obtain⟨R,S⟩:∃R,mj c f i=R:=⟨_,rfl⟩;rw[S] at C⊢;have t:=C.symm;clear S C
  repeat' first|simp only[go_sem, *]|apply bc<;>intro z|(refine zA.mono (v _) ?_;rintro r h ⟨rfl,rfl⟩)
  rename Heap=>G
  obtain⟨H,T,B⟩:∃H,G.new G.next (.row [.str x.name, .str x.fam, .int .i64 x.ver, .str x.text])=H/\Ext G H:=⟨_,rfl,I _⟩;rw[T];clear T F I v J;refine zD (λk fr h=>fr 3= .iptr [.str f, .str i] 0/\fr 23=b/\fr 24= .int .i64 (c.es.length:Int)/\fr 25= .int .i64 (k:Int)/\Ext G h/\∀j (A:j<c.es.length),j<k->(c.es[j].name==i&&c.es[j].lic==f)=false) c.es.length ow ?_ ?_ ?_
  ·simp only[go_sem,true_and,and_true,Int.ofNat_zero];exact⟨B,λj A h0=>absurd h0 (Nat.not_lt_zero _)⟩
  ·clear B;rintro k fr h w Y ew ⟨Z,M,N,O,B,A⟩;have X:=nW U w;have V:=(P.es.2 _ (List.getElem_mem w)).1;have n:=λq=>qM (p:=λy:Exc=>y.name==i&&y.lic==f) (l:=c.es) w A q;have m:=λq=>EI (p:=λy:Exc=>y.name==i&&y.lic==f) (l:=c.es) w A q;have u:ZO c f i=some c.es[k]-> .tuple [c.es[k].d, .bool true]=R:=λq=>by rw[<-t,q]
   generalize c.es[k]=y at *
   simp only[Exc.cells] at X;have F:zP prog 113 (.ptr h.next 0) (.agg [.str y.name, .str y.lic,y.d]) (h.new h.next (.row [.str [], .str [], .nilsl]))=some (h.new h.next (.row [.str y.name, .str y.lic,y.d])):=zg gp ow rfl rfl (by show(true&&(true&&(y.d.flat&&true)))=true;rw[rG V];rfl);have ad:=B.new B.1 (.row [.str y.name, .str y.lic,y.d]);clear A t V;cases L:(y.name==i) with
   |false=>
    have E:=n (by simp only[L,Bool.false_and]);clear n m u
    repeat' first|simp only[go_sem,zK, *]|apply bc<;>intro z
    exact E
   |true=>
    cases Q:(y.lic==f) with
    |false=>
     have E:=n (by simp only[L,Q,Bool.and_false]);clear n m u
     repeat' first|simp only[go_sem,zK, *]|apply bc<;>intro z
     exact E
    |true=>
     have E:=u (m (by simp only[L,Q,Bool.and_self]));clear n m u
     repeat' first|simp only[go_sem,zK, *]|apply bc<;>intro z
  ·clear B;rintro fr h Y ⟨Z,M,N,O,B,A⟩;have E:ZO c f i=none:=MH λj K=>A j K K;rw[E] at t;have ag: .tuple [.nilsl, .bool false]=R:=t;clear A E t;exact au
def cD (c:Cat) (lic exc:List UInt8):Bool:=(rH c lic).isSome&&((exc== [])||(ZO c lic exc).isSome)
def W0 (c:Cat) (b a:List UInt8):∃q,mj c b a= .tuple [q, .bool (cD c b a)]:=by
 unfold mj cD;cases rH c b with
 |none=>exact⟨_,rfl⟩
 |some x=>
  cases h:(a== []) with
  |true=>exact⟨_,rfl⟩
  |false=>
   cases ZO c b a with
   |none=>exact⟨_,rfl⟩
   |some y=>exact⟨_,rfl⟩
def EJ (l:yt c d) (o:c.Sm) (i f:List UInt8) (g:Heap):zA prog 167 [d, .agg [.str i, .str f]] g λr h'=>h'=g/\r= .bool (cD c i f):=by
 refine xU kr λm=> ?_;have j:=MI l o i f;obtain⟨q,n⟩:=W0 c i f;rw[n] at j;obtain⟨a,b,e,p,rfl,t,u,v,w⟩:=l;have k:∀b:Bool,below g.next (.bool b):=λb=>trivial;refine xO mix func167 Bs rfl rfl ?_;simp only[f167,gJ];simp only[go_sem, *];refine(j _).mono ?_;rintro r h ⟨s,rfl⟩;exact au
def JX {l:List Int} (e:zZ 1 (qG l) d) (B:l.length<=1048576) (n:Int) (g:Heap):
  zA prog 259 [d, .int .i64 n] g λr h'=>h'=g/\r= .int .i64 (Zr (λx=>x==n) l):=by
 have o:=wd e;obtain⟨p,k⟩:∃p:Int->Bool,(λx=>x==n)=p:=⟨_,rfl⟩;have a:∀x,p x=(n==x):=λx=>by rw[<-k];exact Bool.beq_comm
 rw[k];clear k;refine xO mix func259 A1 rfl rfl ?_;simp only[f259,gJ];simp only[go_sem, *];refine zD (λi fr h=>fr 1= .int .i64 n/\fr 0=d/\fr 6=d/\fr 7= .int .i64 (l.length:Int)/\fr 8= .int .i64 (i:Int)/\h=g/\∀j (b:j<l.length),j<i->p l[j]=false) l.length ow ?_ ?_ ?_
 ·simp only[go_sem,true_and,and_true,Int.ofNat_zero];exact λj b h0=>absurd h0 (Nat.not_lt_zero _)
 ·rintro i fr h c e1 A ⟨s,q,t,u,v,rfl,b⟩;have z:=sY e c;cases m:(n==l[i]) with
  |true=>
   have y:=p4 (p:=p) c b (by rw[a,m]);clear b e a;simp only[go_sem, *]
  |false=>
   have w:=qM (p:=p) c b (by rw[a,m]);clear b e a;simp only[go_sem, *];exact w
 ·rintro fr h e1 ⟨s,q,t,u,v,rfl,b⟩;have y:=p5 (p:=p) λj f=>b j f f;clear b e a;exact au
def fX {l:List Int} (b:zZ 1 (qG l) d) (e:l.length<=1048576) (n:Int) (g:Heap):
  zA prog 199 [d, .int .i64 n] g λr h'=>h'=g/\r= .bool (l.any λx=>x==n):=by
 have a:=JX b e n;have c:=p0 (l:=l) (p:=λx=>x==n);refine xO mix func199 Bu rfl rfl ?_;simp only[f199,gJ]
 repeat' first|simp only[go_sem, *]|apply bc<;>intro f|(refine zA.mono (a _) ?_;rintro r h ⟨rfl,rfl⟩)
noncomputable def RY:Cfg:=⟨λt=>List.contains (α:=Nat) [] t,λi=>(cn (α:=List (Nat×Fl)) [] i).getD []⟩
def zCH (t:Tmp):RY.mu t=false:=(rfl)
def zG1:zY prog RY f159=true:=by kernel_rfl
def MJ (l:List (List UInt8)):∀x∈yR l,x.length=1:=λx a=>by
 obtain⟨s,_,rfl⟩:=List.mem_map.1 a;rfl
def JY {l:List (List UInt8)} (j:zZ 1 (yR l) d) (k:l.length<=1048576) (g:Heap):
  zA prog 159 [d] g λr h'=>h'=g/\Fin 1 (yR l) r:=by
 refine xU kr λn=>xS ?_;have e:Ext g g:=Ext.refl g;rcases j with⟨rfl,i⟩ | ⟨tk,rfl⟩
 ·have h0:l= []:=List.map_eq_nil_iff.1 i;subst h0;refine xO mix func159 zG1 rfl rfl ?_;simp only[f159,gJ];have m:pb prog .eql 31 true .nilsl .nilsl=some (.bool true):=by rw[wv (sz:=1) zZ.nil underlying31];rfl
  have b:below g.next (zi .nilsl)/\Fin 1 (yR []) (zi .nilsl):=⟨trivial, .inl ⟨rfl,rfl⟩⟩;clear k i;simp only[go_sem,zCH, *]
 ·refine xO mix func159 zG1 rfl rfl ?_;simp only[f159,gJ];have m:pb prog .eql 31 true (.sl 1 (yR l) tk) .nilsl=some (.bool false):=by rw[wv (zZ.mk tk) underlying31];rfl
  have o:=λnid h=>qe (P:=prog) (nid:=nid) (h:=h) yq nR uY rfl rfl (by omega:0<1);have c:zu prog false g.next 31 (.sl 1 [] .full) (.sl 1 (yR l) tk) g=if(yR l).length=0 then some (.sl 1 [] .full,g) else some (.sl 1 (yR l) (.own g.next),g.new g.next .tok):=kq yq km uY ow (MJ l) (by rw[tB,z7];unfold lim;omega) (by rw[z7];unfold lim;omega)
  have f:=e.new (Nat.le_refl _) .tok;have a:=yB (sz:=1) (xs:=yR l) qF;by_cases h0:l= []
  ·subst h0;rw[ip (by rw[z7];rfl)] at c;have b:below g.next (zi (.sl 1 [] .full))/\Fin 1 (yR []) (zi (.sl 1 [] .full)):=by
    have:=a .full;exact⟨by rw[show([]:List (List D))=yR [] from rfl,this.1];exact zx (Nat.zero_le _) _ this.2, .inr this.1⟩
   clear a f;simp only[go_sem,zCH, *]
  ·rw[iq (by rw[z7];exact λq=>h0 (List.length_eq_zero_iff.1 q))] at c;have b:below g.next (zi (.sl 1 (yR l) (.own g.next)))/\Fin 1 (yR l) (zi (.sl 1 (yR l) (.own g.next))):=by
    have:=a (.own g.next);exact⟨by rw[this.1];exact zx (Nat.zero_le _) _ this.2, .inr this.1⟩
   clear a h0;simp only[go_sem,zCH, *]
open List hiding max min map and or get le lt range extract
open Nat(zero_le le_refl le_trans lt_irrefl le_of_lt lt_of_lt_of_le lt_of_le_of_lt lt_succ_iff_lt_or_eq le_of_lt_succ)
def RZ (c:Cat) (lic exc:List UInt8):Option (List Int):=
 if(rH c lic).isSome=false then none else if(exc== [])=true then some [] else(ZO c lic exc).map Exc.lifts
def Ra {b a:List UInt8} (h:RZ c b a=none):mj c b a= .tuple [.nilsl, .bool false]:=by
 unfold RZ at h;unfold mj;split at h
 ·rename_i q;rw[ip q]
 rename_i q;rw[iq q];split at h
 ·cases h
 ·rename_i e;rw[iq e];cases d:ZO c b a with
  |none=>rfl
  |some x=>rw[d] at h;cases h
def Rb (g:c.Sm) {b a:List UInt8} {L:List Int} (h:RZ c b a=some L):∃q,mj c b a= .tuple [q, .bool true]/\zZ 1 (qG L) q/\L.length<=1048576:=by
 unfold RZ at h;unfold mj;split at h
 ·cases h
 rename_i q;rw[iq q];split at h
 ·rename_i e;rw[ip e];cases h;exact⟨_,rfl,zZ.nil,by simp⟩
 ·rename_i e;rw[iq e];cases d:ZO c b a with
  |none=>rw[d] at h;cases h
  |some x=>
   rw[d] at h;cases h;have f:=g.es.2 x (mem_of_find?_eq_some d);exact⟨_,rfl,f.1,f.2.1⟩
def Cla.key (x:Cla):List UInt8×Int×Int×Int×List (List UInt8):=(x.lic,x.way,x.rel,x.duty,x.list)
def MK (L:List Int) (lic:List UInt8) (way rel:Int) (x:Cla):Bool:=x.lic==lic&&x.way==way&&x.rel==rel&& !(L.any λz=>z==x.duty)
def pK (c:Cat) (lic exc:List UInt8) (way rel:Int):List Cla:=match RZ c lic exc with
 |none=>[]
 |some L=>c.cs.filter (MK L lic way rel)
def Cla.Fine (x:Cla):Prop:=Fin 1 (yR x.list) x.d/\x.list.length<=1048576
def Cla.Fine.plain {x:Cla} (h:x.Fine):yf x.cells:=by
 rcases h.1 with⟨e,_⟩ |e
 ·unfold Cla.cells;rw[e];exact⟨rfl,by simp[zf,below],by simp[zq,zi]⟩
 ·have:=yB (sz:=1) (xs:=yR x.list) qF .no;obtain⟨h1,a⟩:=this;simp only[zi,D.sl.injEq,true_and,and_true] at h1;simp only[below] at a;unfold Cla.cells;rw[e];exact⟨rfl,by simp[zf,below,a],by simp[zq,zi,h1]⟩
def zFL (S:List Cla) (r:D):Prop:=∃cs:List Cla,zZ 5 (Y4 cs) r/\(∀y∈cs,y.Fine)/\cs.map Cla.key=S.map Cla.key
def Own.setRow (a:Own h0 h sz xs d) {o:Obj} (c:h0.next<=id) (hr:h.at' id=some o) (b:o≠ .tok) (g:Obj):Own h0 (h.set id g) sz xs d:=
 ⟨a.1.set c _,a.2.1.loc (le_refl _) λi f=>zE λe=>by subst e;have:=(a.2.1.tok f).2;rw[hr] at this;exact b (Option.some.inj this),a.2.2⟩
def EK (x:Cla) (nid:Nat) (h:Heap):zI prog false nid 24 1 [(0, .agg x.cells)] h=some (.sl 5 [x.cells] .full,h):=zz ae Q2 pu rfl rfl ow ow rfl rfl
theorem ML (E:yt c d) (hs:c.Sm) (n v:List UInt8) (t rel:Int) (g:Heap):
  zA prog 342 [d, .agg [.str n, .str v], .int .i64 t, .int .i64 rel] g λr h'=>h'=g/\zFL (pK c n v t rel) r:=by
 refine xU kr λa8=>xS ?_;have F:=MI E hs n v;obtain⟨a,b,e,p,rfl,ha,hb,he,hp⟩:=E;have s3:=hs.cs.1;have le:=pI he;have a9:∀a b c e f:D,zM true 5 [a,b,c,e,f] 0=some (.agg [a,b,c,e,f]):=λa b c e f=>zB rfl ow;refine xO mix func342 Bf rfl rfl ?_;simp only[f342,gJ];cases U:RZ c n v with
 |none=>
  rw[Ra U] at F;have hR:pK c n v t rel= []:=by unfold pK;rw[U]
  rw[hR]
  repeat' first|simp only[go_sem, *]|apply bc<;>intro E
  refine(F _).mono ?_;rintro r h ⟨hE,rfl⟩;have V:below g.next (zi .nilsl)/\zFL [] (zi .nilsl):=⟨trivial,[], .inl ⟨rfl,rfl⟩,λy N=>absurd N not_mem_nil,rfl⟩
  repeat' first|simp only[go_sem, *]|apply bc<;>intro E
 |some L=>
  obtain⟨q,hq,a3,a4⟩:=Rb hs U;rw[hq] at F;have hR:pK c n v t rel=c.cs.filter (MK L n t rel):=by unfold pK;rw[U]
  rw[hR]
  repeat' first|simp only[go_sem, *]|apply bc<;>intro E
  refine(F _).mono ?_;rintro r h0 ⟨hE,rfl⟩
  repeat' first|simp only[go_sem, *]|apply bc<;>intro E
  obtain⟨m,J⟩:∃m,MK L n t rel=m:=⟨_,rfl⟩;rw[J];clear F U hq hR;refine zD (λk fr h=>fr 2= .int .i64 t/\fr 3= .int .i64 rel/\fr 5= .iptr [.str n, .str v] 0/\fr 9=q/\fr 23=e/\fr 24= .int .i64 (c.cs.length:Int)/\fr 25= .int .i64 (k:Int)/\∃u out,fr 11=u/\Own g h 5 (Y4 out) u/\out.length<=k/\(∀y∈out,y.Fine)/\out.map Cla.key=((c.cs.take k).filter m).map Cla.key) c.cs.length ow ?_ ?_ ?_
  ·simp only[go_sem,true_and,and_true,Int.ofNat_zero];exact⟨_,[],rfl,Own.start hE 5,by simp,λy N=>absurd N not_mem_nil,by simp⟩
  ·clear hE;rintro k fr h K ec ew ⟨f2,f3,f5,f9,ag,ai,ak,u,out,ad,P,G,i,j⟩;have a1:=p6 he K;obtain⟨o1,o2⟩:=hs.cs.2 _ (getElem_mem K);have B:(c.cs.take (k+1)).filter m=(c.cs.take k).filter m++ [c.cs[k]].filter m:=by
    rw[take_succ_eq_append_getElem K,filter_append]
   have s:m c.cs[k]=(c.cs[k].lic==n&&c.cs[k].way==t&&c.cs[k].rel==rel&& !(L.any λz=>z==c.cs[k].duty)):=by rw[<-J];rfl
   generalize c.cs[k]=y at *
   have S:=fX a3 a4 y.duty;have c2:=JY o1 o2;simp only[Cla.cells] at a1;have M:zP prog 117 (.ptr h.next 0) (.agg [.str y.lic, .int .i64 y.way, .int .i64 y.rel, .int .i64 y.duty,y.d]) (h.new h.next (.row [.str [], .int .i64 0, .int .i64 0, .int .i64 0, .nilsl]))=some (h.new h.next (.row [.str y.lic, .int .i64 y.way, .int .i64 y.rel, .int .i64 y.duty,y.d])):=zg pu ow rfl rfl (by show(true&&(true&&(true&&(true&&(y.d.flat&&true)))))=true;rw[rG o1];rfl)
   obtain⟨H,hH,C,A,a2⟩:∃H,h.new h.next (.row [.str y.lic, .int .i64 y.way, .int .i64 y.rel, .int .i64 y.duty,y.d])=H/\H.at' h.next=some (.row [.str y.lic, .int .i64 y.way, .int .i64 y.rel, .int .i64 y.duty,y.d])/\Own g H 5 (Y4 out) u/\h.next<H.next:=⟨_,rfl,zK _ _ _,P.ext ((Ext.refl h).new (le_refl _) _),by rw[zF];omega⟩;rw[hH] at M;have W:g.next<=h.next:=P.1.1;obtain⟨Q,a0⟩:∃Q,h.next=Q:=⟨_,rfl⟩;rw[a0] at M C a2 W
   have no:m y=false->∃u' l,u=u'/\Own g H 5 (Y4 l) u'/\l.length<=k+1/\(∀z∈l,z.Fine)/\l.map Cla.key=((c.cs.take (k+1)).filter m).map Cla.key:=λq=>⟨u,out,rfl,A,by omega,i,by rw[B,j];simp[q]⟩;clear hH P;cases R:(y.lic==n) with
   |false=>
    have hn:=no (by rw[s,R];rfl);clear no s j i B G A
    repeat' first|simp only[go_sem, *]|apply bc<;>intro E
   |true=>
   cases b2:(y.way==t) with
   |false=>
    have hn:=no (by rw[s,R,b2];rfl);clear no s j i B G A
    repeat' first|simp only[go_sem, *]|apply bc<;>intro E
   |true=>
   cases b3:(y.rel==rel) with
   |false=>
    have hn:=no (by rw[s,R,b2,b3];rfl);clear no s j i B G A
    repeat' first|simp only[go_sem, *]|apply bc<;>intro E
   |true=>
   cases O:(L.any λz=>z==y.duty) with
   |true=>
    have hn:=no (by rw[s,R,b2,b3,O];rfl);rw[O] at S;clear no s j i B G A O
    repeat' first|simp only[go_sem, *]|apply bc<;>intro E|(refine zA.mono (S _) ?_;rintro r h ⟨rfl,rfl⟩)
   |false=>
    have N:m y=true:=by rw[s,R,b2,b3,O];rfl
    rw[O] at S;clear no s O
    repeat' first|simp only[go_sem, *]|apply bc<;>intro E|(refine zA.mono (S _) ?_;rintro r h ⟨rfl,rfl⟩)
    rename Heap=>H
    refine(c2 _).mono ?_;rintro z H' ⟨rfl,hz⟩;have a6:=rG hz.isSl;have a5:z.cells= [z]:=by rcases hz with⟨rfl,_⟩ |rfl<;>rfl
    have Y:zP prog 31 (.ptr Q 4) z H'=some (H'.set Q (.row [.str y.lic, .int .i64 y.way, .int .i64 y.rel, .int .i64 y.duty,z])):=by
     rw[zS C Qw (by simp) a5 a6];rfl
    obtain⟨H2,T,r2,O2⟩:∃H2,H'.set Q (.row [.str y.lic, .int .i64 y.way, .int .i64 y.rel, .int .i64 y.duty,z])=H2/\H2.at' Q=some (.row [.str y.lic, .int .i64 y.way, .int .i64 y.rel, .int .i64 y.duty,z])/\Own g H2 5 (Y4 out) u:=⟨_,rfl,zC _ _ _,A.setRow W C (by simp) _⟩;rw[T] at Y;have I:=EK ⟨y.lic,y.way,y.rel,y.duty,y.list,z⟩;simp only[Cla.cells] at I;clear T C M S c2 A a1
    repeat' first|simp only[go_sem, *]|apply bc<;>intro E
    refine O2.appH ae Ke pu ow (by simp) (by simp) (by simp only[nX,RH,length_cons,length_nil];unfold lim;omega) (by simp only[nX,length_cons,length_nil];unfold lim;omega) λd' h' o=> ?_;have a7:∃u' l,d'=u'/\Own g h' 5 (Y4 l) u'/\l.length<=k+1/\(∀z∈l,z.Fine)/\l.map Cla.key=((c.cs.take (k+1)).filter m).map Cla.key:=by
     refine⟨d',out++ [⟨y.lic,y.way,y.rel,y.duty,y.list,z⟩],rfl,?_,by simp;omega,λw Z=> ?_,?_⟩
     ·have:Y4 (out++ [⟨y.lic,y.way,y.rel,y.duty,y.list,z⟩])=Y4 out++ [[.str y.lic, .int .i64 y.way, .int .i64 y.rel, .int .i64 y.duty,z]]:=by simp[Y4,Cla.cells]
      rw[this];exact o
     ·rcases mem_append.1 Z with Z|Z
      ·exact i w Z
      ·rw[mem_singleton.1 Z];exact⟨hz,o2⟩
     ·rw[B,map_append,map_append,j];simp[N,Cla.key]
    clear O2 o j i B hz Y r2 I;exact au
  ·clear hE;rintro fr h ec ⟨f2,f3,f5,f9,ag,ai,ak,u,out,ad,P,G,i,j⟩;rw[take_length] at j;have X:∀x∈Y4 out,yf x:=λx hx=>by
    obtain⟨y,N,rfl⟩:=mem_map.1 hx;exact(i y N).plain
   have hf:=P.fin X;have V:Ext g h/\below g.next (zi u)/\zFL (c.cs.filter m) (zi u):=⟨hf.1,hf.2.1,out,hf.2.2.isSl,i,j⟩;clear hf P i j X;exact au
end Go.V
