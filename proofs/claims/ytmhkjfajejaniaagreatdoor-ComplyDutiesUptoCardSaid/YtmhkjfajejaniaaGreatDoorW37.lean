/- None, part 1. No condition. -/
import Derived.Test.YtmhkjfajejaniaaGreatDoorW35
import Derived.Test.YtmhkjfajejaniaaGreatDoorW30
set_option linter.all false
namespace Go.V
open Go.Proofs
set_option maxRecDepth 100000
def IY (Y:Nat→(Nat→Prop)→Heap→Prop) (S:Nat→Prop) (w:Heap) (k:Nat) (h:Heap):Prop:=∃S',(∀j,S' j→S j∨w.next≤j)∧But S w h∧Y k S' h
def zGi {α:Type} (enc:α→List D) (l:List α) (k:Nat):List D:=match l[k]? with
 |some x=>enc x
 |none=>[]
section
variable {P:Program} {α:Type} {enc:α→List D} {L:List α} {id:Nat} {Y:Nat→(Nat→Prop)→Heap→Prop} {S:Nat→Prop} {w h g:Heap} {k:Nat}
theorem IY.start (hY:Y k S w):IY Y S w k w:=⟨S,fun _ hj=> .inl hj,But.refl S w,hY⟩
variable (y:Yld P id L.length (zGi enc L) Y fun _ _=>False)
include y
theorem IY.ext (i:IY Y S w k h) (e:Ext h g):IY Y S w k g:=by
 obtain⟨S',a,b,c⟩:=i;exact⟨S',a,b.trans (e.but S) fun i hi=> .inl hi,y.ext c e⟩
theorem IY.go {x:α} (hx:L[k]? =some x) (i:IY Y S w k h):yT P id (enc x) h fun r h'=>r= .bool true∧IY Y S w (k+1) h':=by
 obtain⟨S',a,b,c⟩:=i;have hg:=y.go k S' h (List.getElem?_eq_some_iff.1 hx).1 c;have he:zGi enc L k=enc x:=by unfold zGi;rw[hx]
 rw[he] at hg;refine hg.mono ?_;rintro r h' ⟨S2,b1,b2,⟨rfl,b3⟩ | ⟨_,b3⟩⟩
 ·have b0:=b.1;refine⟨rfl,S2,fun j hj=> ?_,b.trans b2 a,b3⟩;rcases b1 j hj with q|q
  ·exact a j q
  ·exact .inr (by omega)
 ·exact b3.elim
theorem IY.cut (i:IY Y S w k h) (e:Ext h g):∃S2,Y k S2 g∧(∀j,j<w.next→¬S j→¬S2 j)∧(∀j,h.next≤j→¬S2 j)∧(∀j,j<w.next→¬S j→g.at' j=w.at' j)∧∀k' h',IY Y S2 g k' h'→IY Y S w k' h':=by
 obtain⟨S',a,b,c⟩:=i;have e0:=e.1;have b0:=b.1;have hh:=y.here k S' h c;refine⟨S',y.ext c e,fun j h1 h2 h3=> ?_,fun j h1 h2=> ?_,fun j h1 h2=> ?_,fun k' h' q=> ?_⟩
 ·rcases a j h3 with q|q
  ·exact h2 q
  ·omega
 ·have:=hh j h2;omega
 ·rw[e.2 j (by omega),b.2 j h1 h2]
 ·obtain⟨S2,q1,q2,q3⟩:=q;have q0:=q2.1;refine⟨S2,fun j hj=> ?_,(b.trans (e.but S) fun i hi=> .inl hi).trans q2 a,q3⟩;rcases q1 j hj with q|q
  ·exact a j q
  ·exact .inr (by omega)
end
theorem IY.at {Y:Nat→(Nat→Prop)→Heap→Prop} {S:Nat→Prop} {w h:Heap} {k:Nat} (i:IY Y S w k h) {j:Nat} (h1:j<w.next) (h2:¬S j):h.at' j=w.at' j:=by
 obtain⟨_,_,b,_⟩:=i;exact b.2 j h1 h2
theorem IY.le {Y:Nat→(Nat→Prop)→Heap→Prop} {S:Nat→Prop} {w h:Heap} {k:Nat} (i:IY Y S w k h):w.next≤h.next:=by
 obtain⟨_,_,b,_⟩:=i;exact b.1
theorem zRx {α β:Type} {l:List α} {f:α→List β} {a q:Nat} {x:α} {v:β} (h:l[a]? =some x) (hv:(f x)[q]? =some v):(l.flatMap f)[yH l f a+q]? =some v:=by
 rw[zOt h (List.getElem?_eq_some_iff.1 hv).1];exact hv
theorem zDW (h:Heap) (o:Obj):∃G,h.new h.next o=G∧G.next=h.next+1∧G.at' h.next=some o∧Ext h G:=⟨_,rfl,zD _ _,zJ _ _ _,(Ext.refl h).new (Nat.le_refl _) _⟩
def zBA (u s:Fac):List (Fac×Int):=if(s.kind==2&&s.out==u.out)=true then [(u,s.way)] else []
def zAg (fs:List Fac) (comp:List UInt8) (u:Fac):List (Fac×Int):=if(u.kind==0&&u.comp==comp)=true then fs.flatMap (zBA u) else []
def qr (fs:List Fac) (comp:List UInt8):List (Fac×Int):=fs.flatMap (zAg fs comp)
def zba (p:Fac×Int):List D:=[.agg p.1.cells, .int .i64 p.2]
def zLS (x:D) (comp:List UInt8):D:= .fn (.func 127) [] [.iptr [x] 0, .iptr [.str comp] 0]
theorem zRy {fs:List Fac} {x:D} (hx:zf 12 (zFC fs) x) (comp:List UInt8) (h:Heap):zA Tryz.prog 81 [x, .str comp] h fun r h'=>h'=h∧r=zLS x comp:=by
 rcases hx with⟨rfl,_⟩ | ⟨tk,rfl⟩
 ·refine zA.of_fn (g:=zWG) mix Tryz.func81 zkJ rfl rfl ?_;simp only[Tryz.f81,gJ]
  repeat' first|simp only[go_sem,zkI,zLS, *]|apply bc<;>intro hc
 ·refine zA.of_fn (g:=zWG) mix Tryz.func81 zkJ rfl rfl ?_;simp only[Tryz.f81,gJ]
  repeat' first|simp only[go_sem,zkI,zLS, *]|apply bc<;>intro hc
set_option maxHeartbeats 4000000 in
theorem zOw {fs:List Fac} {x:D} (hx:zf 12 (zFC fs) x) (hlen:fs.length≤1048576) (hok:∀f∈fs,f.Ok) (comp:List UInt8)
  {id:Nat} {Y:Nat→(Nat→Prop)→Heap→Prop} (y:Yld Tryz.prog id (qr fs comp).length (zGi zba (qr fs comp)) Y fun _ _=>False) {S:Nat→Prop} {w:Heap} (hY:Y 0 S w):
  zA Tryz.prog 127 [.yld id, .iptr [x] 0, .iptr [.str comp] 0] w fun _ h'=>IY Y S w (qr fs comp).length h':=by
 have hll:=zAi hx;obtain⟨x1,x2,_⟩:=zM hx;refine zA.of_fn (g:=zTv) mix Tryz.func127 zij rfl rfl ?_;simp only[Tryz.f127,gJ]
 repeat' first|simp only[go_sem,zGd, *]|apply bc<;>intro hc
 refine zG (fun i fr h'=>fr 0= .yld id∧fr 1= .iptr [x] 0∧fr 2= .iptr [.str comp] 0∧fr 8=x∧fr 9= .int .i64 (fs.length:Int)∧fr 10= .int .i64 (i:Int)∧IY Y S w (yH fs (zAg fs comp) i) h') fs.length (by omega) ?_ ?_ ?_
 ·have hst:IY Y S w (yH fs (zAg fs comp) 0) w:=by rw[zAe];exact IY.start hY
  simp only[go_sem,zGd,true_and,and_true,Int.ofNat_zero,hst]
 ·rintro i fr h1 hlt e1 ew ⟨f0,f1,f2,f8,f9,f10,hI⟩;have a1:=yy hx hlt;have hm:fs[i]∈fs:=List.getElem_mem hlt;have hgi:fs[i]? =some fs[i]:=List.getElem?_eq_getElem hlt;have hw:zO true 12 fs[i].cells 0=some (.agg fs[i].cells):=zB rfl (by omega);have hst:=zFD (hok _ hm);have hsu:=qm (f:=zAg fs comp) hgi;generalize fs[i]=u at *
  have k0:u.cells[0]? =some (.int .i64 u.kind):=rfl;have k1:u.cells[1]? =some (.str u.comp):=rfl;have k2:u.cells[2]? =some (.str u.out):=rfl;obtain⟨G,hG,hGn,g1,hE⟩:=zDW h1 (.row u.cells);have hIG:=hI.ext y hE;have hst1:=hst h1 h1.next;rw[hG] at hst1;clear hst;cases hk:(u.kind==0) with
  |false=>
   have hfin:IY Y S w (yH fs (zAg fs comp) (i+1)) G:=by
    rw[hsu,show zAg fs comp u= [] from(by unfold zAg;rw[hk];rfl)];exact hIG
   clear hsu hIG hI hgi hE y hok
   repeat' first|simp only[go_sem,zGd, *]|apply bc<;>intro hc
  |true=>
  cases hc:(u.comp==comp) with
  |false=>
   have hfin:IY Y S w (yH fs (zAg fs comp) (i+1)) G:=by
    rw[hsu,show zAg fs comp u= [] from(by unfold zAg;rw[hk,hc];rfl)];exact hIG
   clear hsu hIG hI hgi hE y hok
   repeat' first|simp only[go_sem,zGd, *]|apply bc<;>intro hc
  |true=>
  have hP:zAg fs comp u=fs.flatMap (zBA u):=by unfold zAg;rw[hk,hc];rfl
  obtain⟨S1,hY1,c1,c2,c3,back⟩:=hI.cut y hE;have hI0:IY Y S1 G (yH fs (zAg fs comp) i+yH fs (zBA u) 0) G:=by rw[zAe,Nat.add_zero];exact IY.start hY1
  have hend:∀ {h2:Heap},IY Y S1 G (yH fs (zAg fs comp) i+yH fs (zBA u) fs.length) h2→IY Y S w (yH fs (zAg fs comp) (i+1)) h2:=fun q=>by
   have:=back _ _ q;rw[zAp] at this;rw[hsu,hP];exact this
  have hel0:∀ {j:Nat} {s:Fac},fs[j]? =some s→zBA u s= [(u,s.way)]→(qr fs comp)[yH fs (zAg fs comp) i+yH fs (zBA u) j]? =some (u,s.way):=fun {j s} h1 h2=>zRx hgi (by
   rw[hP];have:=zRx (f:=zBA u) (q:=0) h1 (by rw[h2];rfl)
   rwa [Nat.add_zero] at this)
  clear hsu hIG hI c1 c3 hY1 hgi hP back
  repeat' first|simp only[go_sem,zGd, *]|apply bc<;>intro hc
  refine zG (fun j fr h'=>fr 0= .yld id∧fr 1= .iptr [x] 0∧fr 2= .iptr [.str comp] 0∧fr 5= .ptr h1.next 0∧fr 8=x∧fr 9= .int .i64 (fs.length:Int)∧fr 10= .int .i64 (i:Int)∧fr 23=x∧fr 24= .int .i64 (fs.length:Int)∧fr 25= .int .i64 (j:Int)∧IY Y S1 G (yH fs (zAg fs comp) i+yH fs (zBA u) j) h') fs.length (by omega) ?_ ?_ ?_
  ·simp only[go_sem,zGd,true_and,and_true,Int.ofNat_zero,f0,f1,f2,f8,f9,f10,hI0]
  ·clear f0 f1 f2 f8 f9 f10 hI0 hend;rintro j fr h2 hltj e2 ew2 ⟨f0,f1,f2,f5,f8,f9,f10,f23,f24,f25,hI2⟩;have b1:=yy hx hltj;have hms:fs[j]∈fs:=List.getElem_mem hltj;have hgj:fs[j]? =some fs[j]:=List.getElem?_eq_getElem hltj;have hws:zO true 12 fs[j].cells 0=some (.agg fs[j].cells):=zB rfl (by omega);have hst2:=zFD (hok _ hms);have hsv:=qm (f:=zBA u) hgj;have hel:=hel0 hgj;generalize fs[j]=s at *
   have l0:s.cells[0]? =some (.int .i64 s.kind):=rfl;have l2:s.cells[2]? =some (.str s.out):=rfl;have l4:s.cells[4]? =some (.int .i64 s.way):=rfl;obtain⟨G2,hG2,hG2n,q1,hE2⟩:=zDW h2 (.row s.cells);have hIG2:=hI2.ext y hE2;have q2:G2.at' h1.next=some (.row u.cells):=by rw[hIG2.at (by omega) (c2 _ (Nat.le_refl _))];exact g1
   have hst3:=hst2 h2 h2.next;rw[hG2] at hst3;cases hk2:(s.kind==2) with
   |false=>
    have hfin:IY Y S1 G (yH fs (zAg fs comp) i+yH fs (zBA u) (j+1)) G2:=by
     rw[hsv,show zBA u s= [] from(by unfold zBA;rw[hk2];rfl)];exact hIG2
    clear hsv hel hel0 hIG2 hI2 hst2 hst1 hE2 hE y hok hgj g1 hG a1 c2
    repeat' first|simp only[go_sem,zGd, *]|apply bc<;>intro hc
   |true=>
   cases ho:(s.out==u.out) with
   |false=>
    have hfin:IY Y S1 G (yH fs (zAg fs comp) i+yH fs (zBA u) (j+1)) G2:=by
     rw[hsv,show zBA u s= [] from(by unfold zBA;rw[hk2,ho];rfl)];exact hIG2
    clear hsv hel hel0 hIG2 hI2 hst2 hst1 hE2 hE y hok hgj g1 hG a1 c2
    repeat' first|simp only[go_sem,zGd, *]|apply bc<;>intro hc
   |true=>
    have hps:zBA u s= [(u,s.way)]:=by unfold zBA;rw[hk2,ho];rfl
    rw[hps] at hsv;have hgo:=hIG2.go y (hel hps);have hfin:∀ {h5:Heap},IY Y S1 G (yH fs (zAg fs comp) i+yH fs (zBA u) j+1) h5→IY Y S1 G (yH fs (zAg fs comp) i+yH fs (zBA u) (j+1)) h5:=fun q=>by rw[hsv];exact q
    clear hsv hel hel0 hIG2 hI2 hst2 hst1 hE2 hE y hok hgj g1 hG a1 c2 hps
    repeat' first|simp only[go_sem,zGd, *]|apply bc<;>intro hc
    refine hgo.mono ?_;rintro r h5 ⟨rfl,hI5⟩;have hfin:=hfin hI5;clear hgo
    repeat' first|simp only[go_sem,zGd, *]|apply bc<;>intro hc
  ·clear f0 f1 f2 f8 f9 f10 hI0 hel0;rintro fr h2 e2 ⟨f0,f1,f2,f5,f8,f9,f10,f23,f24,f25,hI2⟩;have hfin:=hend hI2;clear hend hI2 y hok
   repeat' first|simp only[go_sem,zGd, *]|apply bc<;>intro hc
 ·rintro fr h2 e1 ⟨f0,f1,f2,f8,f9,f10,hI⟩;have hfin:IY Y S w (qr fs comp).length h2:=by rw[show(qr fs comp).length=yH fs (zAg fs comp) fs.length from(zAp _ _).symm];exact hI
  repeat' first|simp only[go_sem,zGd, *]|apply bc<;>intro hc
structure SA where
 M:KM Int
 O:KV
 outs:List (List UInt8)
def zCE (fs:List Fac) (i:Nat):Nat:=((fs.take i).filter fun f=>f.kind==1).length
def zCx (y:Cho) (k:Nat):Alt:=y.ts.getD k (mkA [])
def zRz (y:Cho) (k:Nat):List UInt8:=y.own.getD k []
def zbb (y:Cho) (fs:List Fac) (i:Nat) (s:SA):SA:=match fs[i]? with
 |none=>s
 |some f=>if(f.kind==1)=true then(if decide (((zCx y (zCE fs i)).ts.length:Int)>0)=true then⟨zDs (i:Int) (zCx y (zCE fs i)).d s.M,s.O,s.outs⟩ else s)
  else if(f.kind==2)=true then(if(s.outs.any fun z=>z==f.out)=true then s else⟨s.M,if(!(zRz y s.outs.length== []))=true then zKt f.out (zRz y s.outs.length) s.O else s.O,s.outs++ [f.out]⟩) else s
def zW (y:Cho) (fs:List Fac):Nat→SA
 |0=>⟨[],[],[]⟩
 |i+1=>zbb y fs i (zW y fs i)
def alS (fs:List Fac) (y:Cho) (i:Nat):Option Alt:=match fs[i]? with
 |none=>none
 |some f=>if(f.kind==1)=true then(if decide (((zCx y (zCE fs i)).ts.length:Int)>0)=true then some (zCx y (zCE fs i)) else none) else none
section
variable {y:Cho} {fs:List Fac}
theorem zCq {i:Nat} (h:i<fs.length):zW y fs (i+1)=if(fs[i].kind==1)=true then(if decide (((zCx y (zCE fs i)).ts.length:Int)>0)=true then⟨zDs (i:Int) (zCx y (zCE fs i)).d (zW y fs i).M,(zW y fs i).O,(zW y fs i).outs⟩ else zW y fs i)
  else if(fs[i].kind==2)=true then(if((zW y fs i).outs.any fun z=>z==fs[i].out)=true then zW y fs i else⟨(zW y fs i).M,if(!(zRz y (zW y fs i).outs.length== []))=true then zKt fs[i].out (zRz y (zW y fs i).outs.length) (zW y fs i).O else(zW y fs i).O,(zW y fs i).outs++ [fs[i].out]⟩) else zW y fs i:=by
 show zbb y fs i (zW y fs i)=_;unfold zbb;rw[List.getElem?_eq_getElem h]
theorem zVE {i:Nat} (h:i<fs.length):alS fs y i=if(fs[i].kind==1)=true then(if decide (((zCx y (zCE fs i)).ts.length:Int)>0)=true then some (zCx y (zCE fs i)) else none) else none:=by
 unfold alS;rw[List.getElem?_eq_getElem h]
theorem zJ0:∀k,k≤fs.length→∀j:Nat,zCw (j:Int) (zW y fs k).M=if j<k then(alS fs y j).map Alt.d else none
 |0,_,j=>by simp[zW,zCw]
 |k+1,hk,j=>by
  have ih:=zJ0 k (by omega) j;have hlt:k<fs.length:=by omega
  have ha:=zVE (y:=y) hlt;have key:zCw (j:Int) (zW y fs (k+1)).M=if j=k then(alS fs y k).map Alt.d else zCw (j:Int) (zW y fs k).M:=by
   rw[zCq hlt,ha];have hk0:j=k→zCw (j:Int) (zW y fs k).M=none:=fun e=>by rw[ih,if_neg (by omega)]
   split
   ·split
    ·rw[zNG];by_cases e:j=k
     ·subst e;simp
     ·have:((j:Int)==(k:Int))=false:=by simp;omega
      rw[this,if_neg e];simp
    ·by_cases e:j=k
     ·rw[if_pos e,hk0 e];rfl
     ·rw[if_neg e]
   ·split
    ·split
     ·by_cases e:j=k
      ·rw[if_pos e,hk0 e];rfl
      ·rw[if_neg e]
     ·by_cases e:j=k
      ·rw[if_pos e,hk0 e];rfl
      ·rw[if_neg e]
    ·by_cases e:j=k
     ·rw[if_pos e,hk0 e];rfl
     ·rw[if_neg e]
  rw[key,ih];by_cases e:j=k
  ·subst e;simp
  ·rw[if_neg e];by_cases e2:j<k
   ·rw[if_pos e2,if_pos (by omega)]
   ·rw[if_neg e2,if_neg (by omega)]
theorem zNO {i:Nat} (h:i<fs.length):(zW y fs (i+1)).outs=(zW y fs i).outs∨∃o,(zW y fs (i+1)).outs=(zW y fs i).outs++ [o]:=by
 rw[zCq h];split
 ·split<;>exact .inl rfl
 ·split
  ·split
   ·exact .inl rfl
   ·exact .inr ⟨_,rfl⟩
  ·exact .inl rfl
theorem zVF {i:Nat} :∀k,i+k≤fs.length→(zW y fs i).outs.length≤(zW y fs (i+k)).outs.length
 |0,_=>Nat.le_refl _
 |k+1,h=>by
  have ih:=zVF (i:=i) k (by omega);rcases zNO (y:=y) (fs:=fs) (i:=i+k) (by omega) with e| ⟨o,e⟩
  ·rw[←Nat.add_assoc,e];exact ih
  ·rw[←Nat.add_assoc,e,List.length_append];omega
theorem zJ1:∀k,k≤fs.length→(zW y fs k).outs.length≤k
 |0,_=>Nat.le_refl _
 |k+1,h=>by
  have ih:=zJ1 k (by omega);rcases zNO (y:=y) (fs:=fs) (i:=k) (by omega) with e| ⟨o,e⟩
  ·rw[e];omega
  ·rw[e,List.length_append,List.length_singleton];omega
theorem zFP {i:Nat} (h:i<fs.length):zCE fs (i+1)=zCE fs i+(if(fs[i].kind==1)=true then 1 else 0):=by
 unfold zCE;rw[List.take_succ_eq_append_getElem h,List.filter_append,List.length_append];congr 1;by_cases e:(fs[i].kind==1)=true<;>simp[e]
theorem zOx {i:Nat} :∀k,i+k≤fs.length→zCE fs i≤zCE fs (i+k)
 |0,_=>Nat.le_refl _
 |k+1,h=>by
  have ih:=zOx (i:=i) k (by omega);rw[←Nat.add_assoc,zFP (by omega)];omega
theorem zJ2:∀k,k≤fs.length→zCE fs k≤k
 |0,_=>by simp[zCE]
 |k+1,h=>by
  have ih:=zJ2 k (by omega);rw[zFP (by omega)];split<;>omega
end
abbrev Due:=List UInt8×List UInt8×List UInt8×List UInt8×Int×Int×Int
def zCy (x:Due):List D:=[.str x.1, .str x.2.1, .str x.2.2.1, .str x.2.2.2.1, .int .i64 x.2.2.2.2.1, .int .i64 x.2.2.2.2.2.1, .int .i64 x.2.2.2.2.2.2]
def zDX (c:Cat) (p:Fac×Int) (t:Trm):List Int:=(wV c t.a t.b p.2 p.1.rel).map Cla.duty
def zG7 (comp:List UInt8) (p:Fac×Int) (t:Trm) (n:Int):List Due:=if(!(n==2)||p.1.chg)=true then [(p.1.out,comp,t.a,t.b,p.2,p.1.rel,n)] else []
def zR0 (c:Cat) (comp:List UInt8) (p:Fac×Int) (t:Trm):List Due:=(zDX c p t).flatMap (zG7 comp p t)
def zOy (c:Cat) (comp:List UInt8) (ts:List Trm) (p:Fac×Int):List Due:=ts.flatMap (zR0 c comp p)
def zQp (c:Cat) (fs:List Fac) (y:Cho) (i:Nat):List Due:=match fs[i]? with
 |none=>[]
 |some f=>if(f.kind==1)=true then(qr fs f.comp).flatMap (zOy c f.comp (zCx y (zCE fs i)).ts) else []
def wR (c:Cat) (fs:List Fac) (y:Cho):List Due:=(List.range fs.length).flatMap (zQp c fs y)
def zg7 (x:Due):List D:=[.agg (zCy x)]
def zQq (x yd d:List D):D:= .fn (.func 80) [] [.iptr x 0, .iptr yd 0, .iptr d 0]
theorem zR1 {fs:List Fac} {comp:List UInt8} {p:Fac×Int} (h:p∈qr fs comp):p.1∈fs:=by
 obtain⟨u,hu,h⟩:=List.mem_flatMap.1 h;unfold zAg at h;split at h
 ·obtain⟨s,_,h⟩:=List.mem_flatMap.1 h;unfold zBA at h;split at h
  ·cases List.mem_singleton.1 h;exact hu
  ·cases h
 ·cases h
set_option maxHeartbeats 16000000 in
theorem zbc {c:Cat} {ca cb ce cp:D} (hc:qW c (.agg [ca,cb,ce,cp])) (sm:c.Sm) {fs:List Fac} {x:D} (hx:zf 12 (zFC fs) x) (hlen:fs.length≤1048576) (hok:∀f∈fs,f.Ok) {y:Cho} {ta oa:D} (ht:zf 1 (yO y.ts) ta) (ysm:y.Sm) (hly:zCE fs fs.length≤y.ts.length)
  {id:Nat} {Y:Nat→(Nat→Prop)→Heap→Prop} (yl:Yld Tryz.prog id (wR c fs y).length (zGi zg7 (wR c fs y)) Y fun _ _=>False) {S:Nat→Prop} {w:Heap} (hY:Y 0 S w):
  zA Tryz.prog 80 [.yld id, .iptr [x] 0, .iptr [ta,oa] 0, .iptr [ca,cb,ce,cp] 0] w fun _ h'=>IY Y S w (wR c fs y).length h':=by
 have hll:=zAi hx;obtain⟨x1,x2,_⟩:=zM hx;have hv4:∀a b c e:D,zO true 4 [a,b,c,e] 0=some (.agg [a,b,c,e]):=fun a b c e=>zB rfl (by omega);have ysl:=ysm.tl;refine zA.of_fn (g:=zWn) mix Tryz.func80 zlx rfl rfl ?_;simp only[Tryz.f80,gJ]
 repeat' first|simp only[go_sem,zKo, *]|apply bc<;>intro hc
 refine zG (fun i fr h'=>fr 1= .iptr [x] 0∧fr 2= .iptr [ta,oa] 0∧fr 3= .iptr [ca,cb,ce,cp] 0∧fr 4= .iptr [.yld id] 0∧fr 5= .int .i64 (zCE fs i:Int)∧fr 16=x∧fr 17= .int .i64 (fs.length:Int)∧fr 18= .int .i64 (i:Int)∧IY Y S w (yH (List.range fs.length) (zQp c fs y) i) h') fs.length (by omega) ?_ ?_ ?_
 ·have h0:IY Y S w (yH (List.range fs.length) (zQp c fs y) 0) w:=by rw[zAe];exact IY.start hY
  have l0:zCE fs 0=0:=rfl;simp only[go_sem,zKo,true_and,and_true,Int.ofNat_zero,h0,l0]
 ·rintro i fr h1 hlt e1 ew ⟨f1,f2,f3,f4,f5,f16,f17,f18,hI⟩;have a1:=yy hx hlt;have hm:fs[i]∈fs:=List.getElem_mem hlt;have hgi:fs[i]? =some fs[i]:=List.getElem?_eq_getElem hlt;have hgr:(List.range fs.length)[i]? =some i:=by simp[hlt]
  have hw:zO true 12 fs[i].cells 0=some (.agg fs[i].cells):=zB rfl (by omega);have hst:=zFD (hok _ hm) h1 h1.next;have hsu:=qm (f:=zQp c fs y) hgr;have hls:=zFP hlt;have hle:=zOx (fs:=fs) (i:=i+1) (fs.length- (i+1)) (by omega);rw[show i+1+(fs.length- (i+1))=fs.length by omega] at hle;have hdf:zQp c fs y i=if(fs[i].kind==1)=true then(qr fs fs[i].comp).flatMap (zOy c fs[i].comp (zCx y (zCE fs i)).ts) else []:=by unfold zQp;rw[hgi]
  generalize fs[i]=f at *
  have k0:f.cells[0]? =some (.int .i64 f.kind):=rfl;have k1:f.cells[1]? =some (.str f.comp):=rfl;obtain⟨G,hG,hGn,g1,hE⟩:=zDW h1 (.row f.cells);rw[hG] at hst;have hIG:=hI.ext yl hE;cases hk:(f.kind==1) with
  |false=>
   rw[hk,if_neg (by decide)] at hls hdf;have hfin:IY Y S w (yH (List.range fs.length) (zQp c fs y) (i+1)) G:=by rw[hsu,hdf];exact hIG
   have hlz:zCE fs (i+1)=zCE fs i:=hls;clear hsu hls hdf hIG hI hgi hgr hE yl hok hle hly hm ht ysm sm hc
   repeat' first|simp only[go_sem,zKo, *]|apply bc<;>intro hc
  |true=>
   rw[hk,if_pos rfl] at hls hdf;have hkl:zCE fs i<y.ts.length:=by omega
   have a2:=zDN ht hkl;have hal:zCx y (zCE fs i)=y.ts[zCE fs i]:=by unfold zCx;rw[List.getD_eq_getElem?_getD,List.getElem?_eq_getElem hkl];rfl
   have hsA:=ysm.ts _ (List.getElem_mem hkl);rw[hal] at hdf;have ewl:IntKind.i64.wrap ((zCE fs i:Int)+1)=((zCE fs (i+1):Nat):Int):=by rw[zZ (by omega) (by omega)];omega
   clear hal;generalize y.ts[zCE fs i]=a at *
   obtain⟨q1,q2,q3⟩:=zM hsA.sl;obtain⟨G2,hG2,hG2n,g2,hE2⟩:∃G2,G.new (h1.next+1) (.row [a.d])=G2∧G2.next=h1.next+2∧G2.at' (h1.next+1)=some (.row [a.d])∧Ext G G2:=by
    have:=zDW G (.row [a.d]);rw[hGn] at this;exact this
   have hst2:zQ Tryz.prog 62 (.ptr (h1.next+1) 0) a.d (G.new (h1.next+1) (.row [.nilsl]))=some G2:=by
    rw[zV (zJ _ _ _) zBV (by simp) q1 q3,zCW,←hG2];rfl
   have g3:G2.at' h1.next=some (.row f.cells):=by rw[hE2.2 _ (by omega)];exact g1
   have hcp:=zRy hx f.comp;obtain⟨S1,hY1,c1,c2,c3,back⟩:=hI.cut yl (hE.trans hE2);obtain⟨P1,hP1⟩:∃P,yH (List.range fs.length) (zQp c fs y) i=P:=⟨_,rfl⟩;have hend:∀ {h2:Heap},IY Y S1 G2 (P1+yH (qr fs f.comp) (zOy c f.comp a.ts) (qr fs f.comp).length) h2→IY Y S w (yH (List.range fs.length) (zQp c fs y) (i+1)) h2:=fun q=>by
    have:=back _ _ q;rw[zAp] at this;rw[hsu,hdf,hP1];exact this
   have hel0:∀ {q:Nat} {v:Due},((qr fs f.comp).flatMap (zOy c f.comp a.ts))[q]? =some v→(wR c fs y)[P1+q]? =some v:=fun {q v} hv=>by
    rw[←hP1];exact zRx hgr (by rw[hdf];exact hv)
   rw[hP1] at hY1;clear hsu hls hdf hIG hI hgi hgr hle hly hm ht ysm back hP1 hE hE2 c1 c3
   repeat' first|simp only[go_sem,zKo,zLS, *]|apply bc<;>intro hc|(refine zA.mono (hcp _) ?_;rintro r h ⟨hq,rfl⟩)
   subst hq
   rename Heap=>G2
   generalize hL:LRec.mk _ _ _ _ _ _ _=L;have hpe:L.pending=none:=by rw[←hL]
   have hrd:L.st= .ready:=by rw[←hL]
   have hYl:Lcl fun k=>Y (P1+yH (qr fs f.comp) (zOy c f.comp a.ts) k):=⟨fun k=>yl.here _,fun k=>yl.loc _⟩;refine wQ (W:=WK h1.next (.row f.cells) (h1.next+1) (.row [a.d]) fun k=>Y (P1+yH (qr fs f.comp) (zOy c f.comp a.ts) k)) (n:=(qr fs f.comp).length) (el:=zGi zba (qr fs f.comp)) (S:=fun j=>j=h1.next∨j=h1.next+1∨S1 j) hG2n (WK.lcl hYl) hrd hpe ?_ (fun yl2 hY0=>zOw hx hlen hok f.comp yl2 hY0) ?_ ?_
   ·exact WK.start (by rw[zAe,Nat.add_zero];exact hY1) (by omega) (by omega) g3 g2 (c2 _ (Nat.le_refl _)) (c2 _ (by omega))
   ·intro k S0 h3 hk3 hid3 hl3 hw3 hn3;obtain⟨⟨u,wy⟩,hp⟩:∃p,(qr fs f.comp)[k]? =some p:=⟨_,List.getElem?_eq_getElem hk3⟩;have hgp:zGi zba (qr fs f.comp) k= [.agg u.cells, .int .i64 wy]:=by unfold zGi;rw[hp];rfl
    rw[hgp];have hum:u∈fs:=zR1 (List.mem_of_getElem? hp);have hl3':=hl3;rw[←hL] at hl3';have hst7:=zFD (hok _ hum) h3 h3.next;clear hst hst2 a1 a2 hcp;refine yT.round (g:=zWn) mix hl3' rfl (by kernel_rfl) (by kernel_rfl) (by kernel_rfl) ?_;simp only[go_sem,zKo,hst7];refine⟨by rw[zF (by omega)];exact hl3',?_⟩;generalize hB:LRec.mk .busy _ _ _ _ _ _=B;have hLB:({ B with st:= .ready,pending:=none } :LRec)=L:=by rw[←hB,←hL]
    obtain⟨S2,H,hHe,hHn,hrow,hHi,hbH,hwH,hHH,hw2⟩:=Lp.open hYl hw3 hid3 hn3 (.row u.cells) B;rw[hHe];have nA:¬S2 h1.next:=hw2.2.2.2.1.1;have nU:¬S2 h3.next:=fun e=>Nat.lt_irrefl _ (hYl.here _ _ _ hw2.1 _ e);obtain⟨⟨hA1,hA2⟩,hl1,hl2⟩:=hHH;have hlt3:=hw2.2.1.1;obtain⟨P0,hP0⟩:∃P,P1+yH (qr fs f.comp) (zOy c f.comp a.ts) k=P:=⟨_,rfl⟩;have hel1:∀ {q:Nat} {v:Due},(zOy c f.comp a.ts (u,wy))[q]? =some v→(wR c fs y)[P0+q]? =some v:=fun {q v} hv=>by
     rw[←hP0,Nat.add_assoc];exact hel0 (zRx hp hv)
    have hsP:P1+yH (qr fs f.comp) (zOy c f.comp a.ts) (k+1)=P0+(zOy c f.comp a.ts (u,wy)).length:=by
     rw[←hP0,qm hp,Nat.add_assoc]
    have hI0:IY Y S2 H (P0+yH a.ts (zR0 c f.comp (u,wy)) 0) H:=by rw[zAe,Nat.add_zero,←hP0];exact IY.start hwH
    have hlt:=ql hsA.sl;have hal:=hsA.len;clear hst7 hHe hB hend hel0 hwH hP0 hgp hp hw hw3
    repeat' first|simp only[go_sem,zKo, *]|apply bc<;>intro hc
    refine zG (fun j fr h'=>fr 3= .iptr [ca,cb,ce,cp] 0∧fr 4= .iptr [.yld id] 0∧fr 7= .ptr h1.next 0∧fr 9= .ptr h3.next 0∧fr 10= .int .i64 wy∧fr 38=a.d∧fr 39= .int .i64 (a.ts.length:Int)∧fr 40= .int .i64 (j:Int)∧IY Y S2 H (P0+yH a.ts (zR0 c f.comp (u,wy)) j) h') a.ts.length (by omega) ?_ ?_ ?_
    ·simp only[go_sem,zKo,true_and,and_true,Int.ofNat_zero,f3,f4,hI0]
    ·clear f1 f2 f3 f4 f5 f16 f17 f18 hI0;rintro j fr2 h2 hltj e2 ew2 ⟨f3,f4,f7,f9,f10,f38,f39,f40,hI2⟩;have b1:zT Tryz.prog 62 a.d (.int .i64 (j:Int))=some (.iptr [.str a.ts[j].a, .str a.ts[j].b] 0):=zBv hsA.sl hltj;have hgj:a.ts[j]? =some a.ts[j]:=List.getElem?_eq_getElem hltj;have hsv:=qm (f:=zR0 c f.comp (u,wy)) hgj;have hel2:∀ {q:Nat} {v:Due},(zR0 c f.comp (u,wy) a.ts[j])[q]? =some v→(wR c fs y)[P0+yH a.ts (zR0 c f.comp (u,wy)) j+q]? =some v:=fun {q v} hv=>by
      rw[Nat.add_assoc];exact hel1 (zRx hgj hv)
     generalize a.ts[j]=z at *
     have hst8:zQ Tryz.prog 79 (.ptr h2.next 0) (.agg [.str z.a, .str z.b]) (h2.new h2.next (.row [.str [], .str []]))=some (h2.new h2.next (.row [.str z.a, .str z.b])):=zU qz (by omega) rfl rfl rfl;obtain⟨G3,hG3,hG3n,r1,hE3⟩:=zDW h2 (.row [.str z.a, .str z.b]);rw[hG3] at hst8;have hle2:=hI2.le;obtain⟨S3,hY3,d1,d2,d3,back3⟩:=hI2.cut yl hE3;have rA:G3.at' h1.next=some (.row f.cells):=by rw[d3 _ hl1 nA];exact hA1
     have rU:G3.at' h3.next=some (.row u.cells):=by rw[d3 _ (by omega) nU];exact hrow
     have hcl:=fun g=>zMp hc sm z.a z.b wy u.rel g;have hv2:∀a b:D,zO true 2 [a,b] 0=some (.agg [a,b]):=fun a b=>zB rfl (by omega);have u3:u.cells[3]? =some (.int .i64 u.rel):=rfl;have u2:u.cells[2]? =some (.str u.out):=rfl;have u6:u.cells[6]? =some (.bool u.chg):=rfl;obtain⟨P2,hP2⟩:∃P,P0+yH a.ts (zR0 c f.comp (u,wy)) j=P:=⟨_,rfl⟩;have hend2:∀ {h5:Heap},IY Y S3 G3 (P2+(zR0 c f.comp (u,wy) z).length) h5→IY Y S2 H (P0+yH a.ts (zR0 c f.comp (u,wy)) (j+1)) h5:=fun q=>by
      have:=back3 _ _ q;rw[hsv,←Nat.add_assoc,hP2];exact this
     rw[hP2] at hY3 hel2;clear hsv hP2 hI2 back3 hgj
     repeat' first|simp only[go_sem,zKo, *]|apply bc<;>intro hc
     refine(hcl _).mono ?_;rintro r H2 ⟨hq2,cs,hcs,hfine,hkey⟩;subst hq2;have hlc:=zBn hcs;have hcl0:cs.length≤1048576:=by
      have:=congrArg List.length hkey;simp only[List.length_map] at this;have h2:(wV c z.a z.b wy u.rel).length≤c.cs.length:=by
       unfold wV;split
       ·simp
       ·exact List.length_filter_le _ _
      have:=sm.cs.1;omega
     have hdu:zDX c (u,wy) z=cs.map Cla.duty:=by
      have:=congrArg (List.map fun k=>k.2.2.2.1) hkey;rw[List.map_map,List.map_map] at this;exact this.symm
     have hI0:IY Y S3 H2 (P2+yH (zDX c (u,wy) z) (zG7 f.comp (u,wy) z) 0) H2:=by rw[zAe,Nat.add_zero];exact IY.start hY3
     clear hkey hcl hst8 hY3
     repeat' first|simp only[go_sem,zKo, *]|apply bc<;>intro hc
     refine zG (fun b fr h'=>fr 3= .iptr [ca,cb,ce,cp] 0∧fr 4= .iptr [.yld id] 0∧fr 7= .ptr h1.next 0∧fr 9= .ptr h3.next 0∧fr 10= .int .i64 wy∧fr 12= .ptr h2.next 0∧fr 38=a.d∧fr 39= .int .i64 (a.ts.length:Int)∧fr 40= .int .i64 (j:Int)∧fr 49=r∧fr 50= .int .i64 (cs.length:Int)∧fr 51= .int .i64 (b:Int)∧IY Y S3 H2 (P2+yH (zDX c (u,wy) z) (zG7 f.comp (u,wy) z) b) h') cs.length (by omega) ?_ ?_ ?_
     ·simp only[go_sem,zKo,true_and,and_true,Int.ofNat_zero,f3,f4,f7,f9,f10,f38,f39,f40,hI0]
     ·clear f3 f4 f7 f9 f10 f38 f39 f40 hI0 hend2;rintro b fr4 h4 hltb e4 ew4 ⟨f3,f4,f7,f9,f10,f12,f38,f39,f40,f49,f50,f51,hI4⟩;have b2:=zCf hcs hltb;have hyf:=hfine _ (List.getElem_mem hltb);have hgb:(zDX c (u,wy) z)[b]? =some cs[b].duty:=by
       rw[hdu,List.getElem?_map,List.getElem?_eq_getElem hltb];rfl
      have hsw:=qm (f:=zG7 f.comp (u,wy) z) hgb;have hel3:∀ {v:Due},zG7 f.comp (u,wy) z cs[b].duty= [v]→(wR c fs y)[P2+yH (zDX c (u,wy) z) (zG7 f.comp (u,wy) z) b]? =some v:=fun {v} hv=>hel2 (by
       have:=zRx (f:=zG7 f.comp (u,wy) z) (q:=0) hgb (by rw[hv];rfl)
       rwa [Nat.add_zero] at this)
      generalize cs[b]=e at *
      have hst9:zQ Tryz.prog 92 (.ptr h4.next 0) (.agg e.cells) (h4.new h4.next (.row [.str [], .int .i64 0, .int .i64 0, .int .i64 0, .nilsl]))=some (h4.new h4.next (.row e.cells)):=zU zEu (by omega) rfl rfl (by show(true&&(true&&(true&&(true&&(e.d.flat&&true)))))=true;rw[zBb hyf.1.isSl];rfl);have hvy:zO true 5 e.cells 0=some (.agg e.cells):=zB rfl (by omega);have ky:e.cells[3]? =some (.int .i64 e.duty):=rfl;obtain⟨G4,hG4,hG4n,s1,hE4⟩:=zDW h4 (.row e.cells);rw[hG4] at hst9
      obtain⟨G5,hG5,hG5n,s2,hE5⟩:∃G5,G4.new (h4.next+1) (.row [.str u.out, .str f.comp, .str z.a, .str z.b, .int .i64 wy, .int .i64 u.rel, .int .i64 e.duty])=G5∧G5.next=h4.next+2∧G5.at' (h4.next+1)=some (.row [.str u.out, .str f.comp, .str z.a, .str z.b, .int .i64 wy, .int .i64 u.rel, .int .i64 e.duty])∧Ext G4 G5:=by
       have:=zDW G4 (.row [.str u.out, .str f.comp, .str z.a, .str z.b, .int .i64 wy, .int .i64 u.rel, .int .i64 e.duty]);rw[hG4n] at this;exact this
      have le4:=hI4.le;have rA4:G4.at' h1.next=some (.row f.cells):=by rw[hE4.2 _ (by omega),hI4.at (by omega) (d1 _ hl1 nA)];exact rA
      have rU4:G4.at' h3.next=some (.row u.cells):=by rw[hE4.2 _ (by omega),hI4.at (by omega) (d1 _ (by omega) nU)];exact rU
      have rT4:G4.at' h2.next=some (.row [.str z.a, .str z.b]):=by rw[hE4.2 _ (by omega),hI4.at (by omega) (d2 _ (Nat.le_refl _))];exact r1
      have s15:G5.at' h4.next=some (.row e.cells):=by rw[hE5.2 _ (by omega)];exact s1
      have rU5:G5.at' h3.next=some (.row u.cells):=by rw[hE5.2 _ (by omega)];exact rU4
      have hvb:yC Tryz.prog 81 [(0, .str u.out),(1, .str f.comp),(2, .agg [.str z.a, .str z.b]),(3, .int .i64 wy),(4, .int .i64 u.rel),(5, .int .i64 e.duty)]=some (.agg [.str u.out, .str f.comp, .str z.a, .str z.b, .int .i64 wy, .int .i64 u.rel, .int .i64 e.duty]):=by simp[yC,zRL,zPW,qS,yX,D.notTuple,D.cells]
      have hstD:zQ Tryz.prog 81 (.ptr (h4.next+1) 0) (.agg [.str u.out, .str f.comp, .str z.a, .str z.b, .int .i64 wy, .int .i64 u.rel, .int .i64 e.duty]) (G4.new (h4.next+1) (.row [.str [], .str [], .str [], .str [], .int .i64 0, .int .i64 0, .int .i64 0]))=some G5:=by
       rw[zU zJX (by omega) rfl rfl rfl,hG5]
      have hvD:zO true 7 [.str u.out, .str f.comp, .str z.a, .str z.b, .int .i64 wy, .int .i64 u.rel, .int .i64 e.duty] 0=some (.agg [.str u.out, .str f.comp, .str z.a, .str z.b, .int .i64 wy, .int .i64 u.rel, .int .i64 e.duty]):=zB rfl (by omega);have hI5:=hI4.ext yl (hE4.trans hE5)
      have hyes:zG7 f.comp (u,wy) z e.duty= [(u.out,f.comp,z.a,z.b,wy,u.rel,e.duty)]→(wR c fs y)[P2+yH (zDX c (u,wy) z) (zG7 f.comp (u,wy) z) b]? =some (u.out,f.comp,z.a,z.b,wy,u.rel,e.duty)∧∀ {h6:Heap},IY Y S3 H2 (P2+yH (zDX c (u,wy) z) (zG7 f.comp (u,wy) z) b+1) h6→IY Y S3 H2 (P2+yH (zDX c (u,wy) z) (zG7 f.comp (u,wy) z) (b+1)) h6:=fun hv=>⟨hel3 hv,fun q=>by
       rw[hsw,hv];exact q⟩
      have hno:zG7 f.comp (u,wy) z e.duty= []→IY Y S3 H2 (P2+yH (zDX c (u,wy) z) (zG7 f.comp (u,wy) z) (b+1)) G5:=fun hv=>by
       rw[hsw,hv];exact hI5
      have hgo:=fun {v:Due} (hv:(wR c fs y)[P2+yH (zDX c (u,wy) z) (zG7 f.comp (u,wy) z) b]? =some v)=>hI5.go yl hv;clear hsw hel3 hgb hel2 hel1 hI4 hI5 hE4 hE5 hG5 hdu hfine hcs hyf d1 d2 d3 yl hHi hbH hw2 hok hA1 hA2 rA rU hrow r1;cases hd2:(e.duty==2) with
      |false=>
       have hv:zG7 f.comp (u,wy) z e.duty= [(u.out,f.comp,z.a,z.b,wy,u.rel,e.duty)]:=by unfold zG7;rw[hd2];rfl
       have hgo:=hgo (hyes hv).1;have hfin4:=fun {h6:Heap} =>(hyes hv).2 (h6:=h6);clear hyes hno hv
       repeat' first|simp only[go_sem,zKo, *]|apply bc<;>intro hc
       refine hgo.mono ?_;rintro r5 h6 ⟨rfl,hI6⟩;have hfin:=hfin4 hI6;clear hgo hfin4 hI6
       repeat' first|simp only[go_sem,zKo, *]|apply bc<;>intro hc
      |true=>
       cases hch:u.chg with
       |true=>
        have hv:zG7 f.comp (u,wy) z e.duty= [(u.out,f.comp,z.a,z.b,wy,u.rel,e.duty)]:=by unfold zG7;rw[hd2,hch];rfl
        have hgo:=hgo (hyes hv).1;have hfin4:=fun {h6:Heap} =>(hyes hv).2 (h6:=h6);clear hyes hno hv
        repeat' first|simp only[go_sem,zKo, *]|apply bc<;>intro hc
        refine hgo.mono ?_;rintro r5 h6 ⟨rfl,hI6⟩;have hfin:=hfin4 hI6;clear hgo hfin4 hI6
        repeat' first|simp only[go_sem,zKo, *]|apply bc<;>intro hc
       |false=>
        have hfin:=hno (by unfold zG7;rw[hd2,hch];rfl);clear hgo hyes hno
        repeat' first|simp only[go_sem,zKo, *]|apply bc<;>intro hc
     ·clear f3 f4 f7 f9 f10 f38 f39 f40 hI0;rintro fr4 h5 e4 ⟨f3,f4,f7,f9,f10,f12,f38,f39,f40,f49,f50,f51,hI5⟩;have hfin:=hend2 (by
       rw[show(zR0 c f.comp (u,wy) z).length=yH (zDX c (u,wy) z) (zG7 f.comp (u,wy) z) cs.length from(by rw[show cs.length=(zDX c (u,wy) z).length by rw[hdu,List.length_map]];exact(zAp _ _).symm)]
       exact hI5)
      clear hend2 hI5 hdu
      repeat' first|simp only[go_sem,zKo, *]|apply bc<;>intro hc
    ·clear f1 f2 f3 f4 f5 f16 f17 f18 hI0 hel1;rintro fr2 h5 e2 ⟨f3,f4,f7,f9,f10,f38,f39,f40,S5,hs5,hb5,hw5⟩;have hw6:Y (P1+yH (qr fs f.comp) (zOy c f.comp a.ts) (k+1)) S5 h5:=by
      rw[hsP,show(zOy c f.comp a.ts (u,wy)).length=yH a.ts (zR0 c f.comp (u,wy)) a.ts.length from(zAp _ _).symm];exact hw5
     have hfin:∀fr,wB (LpK (h1.next+2) L (WK h1.next (.row f.cells) (h1.next+1) (.row [a.d]) fun k=>Y (P1+yH (qr fs f.comp) (zOy c f.comp a.ts) k)) k S0 h3) (h1.next+2) .normal fr h5:=fun fr=>Lp.call hYl hLB hid3 hn3 hw2 hHi hbH hs5 hb5 hw6;clear hs5 hb5 hw5 hw6 hsP
     repeat' first|simp only[go_sem,zKo, *]|apply bc<;>intro hc
   ·intro S' h5 hs hb hw5;obtain⟨S5,hs5,hb5,hw6⟩:=WK.stop g3 g2 (fun j hj=>by rw[hG2n];exact hs j hj) hb hw5;have hfin:=hend ⟨S5,hs5,hb5,hw6⟩;clear hend hs hb hw5 hs5 hb5 hw6 hel0 hL yl
    repeat' first|simp only[go_sem,zKo, *]|apply bc<;>intro hc
 ·rintro fr h2 e1 ⟨f1,f2,f3,f4,f5,f16,f17,f18,hI⟩;have hfin:IY Y S w (wR c fs y).length h2:=by
   rw[show(wR c fs y).length=yH (List.range fs.length) (zQp c fs y) fs.length from(by unfold wR;rw[←zAp,List.length_range])];exact hI
  repeat' first|simp only[go_sem,zKo, *]|apply bc<;>intro hc
end Go.V
