/- A machine of abstract values for programs of the model, further rules, part 3. No condition. -/
import Derived.Test.YtalepjdbhjinhaaGreatDoorW35
import Derived.Test.YtalepjdbhjinhaaGreatDoorW38
import Derived.Test.YtalepjdbhjinhaaGreatDoorW32
import Derived.Test.YtalepjdbhjinhaaGreatDoorW28
import Derived.Test.YtalepjdbhjinhaaGreatDoorW29
import Derived.Test.YtalepjdbhjinhaaGreatDoorW33
import Derived.Test.YtalepjdbhjinhaaGreatDoorW31
set_option linter.all false
namespace Go.V
structure Ows (h0 h:Heap) (L:List (Nat×List (List D) ×D)):Prop where
 ext:Ext h0 h
 own:∀p∈L,wI h p.1 p.2.1 p.2.2∧∀i,wm p.2.2 i→h0.next≤i
 dis:L.Pairwise fun p q=>∀i,wm p.2.2 i→¬wm q.2.2 i
section
variable {h0 h h':Heap} {L L':List (Nat×List (List D) ×D)}
theorem Ows.perm (ho:Ows h0 h L) (hp:L.Perm L'):Ows h0 h L':=
 ⟨ho.ext,fun p q=>ho.own p (hp.mem_iff.2 q),(hp.pairwise_iff fun {p q} hpq i h1 h2=>hpq i h2 h1).1 ho.dis⟩
theorem Ows.upd (ho:Ows h0 h L) (he:Ext h0 h') (hn:h.next≤h'.next) (hk:∀i,h.at' i=some .tok→h'.at' i=h.at' i):Ows h0 h' L:=
 ⟨he,fun p q=>⟨(ho.own p q).1.loc hn fun i hi=>hk i ((ho.own p q).1.tok hi).2,(ho.own p q).2⟩,ho.dis⟩
theorem Ows.set (ho:Ows h0 h L) {id:Nat} {o o':Obj} (hid:h0.next≤id) (hi:h.at' id=some o) (hne:o≠ .tok):Ows h0 (h.set id o') L:=
 ho.upd (ho.ext.set hid _) (Nat.le_refl _) fun i ht=>zH fun e=>by subst e;rw[hi] at ht;exact hne (Option.some.inj ht)
theorem Ows.sl (ho:Ows h0 h L) {sz:Nat} {xs:List (List D)} {d:D} (hp:(sz,xs,d)∈L):wI h sz xs d:=(ho.own _ hp).1
theorem Ows.flat (ho:Ows h0 h L) {sz:Nat} {xs:List (List D)} {d:D} (hp:(sz,xs,d)∈L):d.flat=true∧d.cells= [d]∧d.notTuple=true:=by
 rcases ho.sl hp with⟨rfl,_⟩ | ⟨t,rfl,_⟩ <;>exact⟨rfl,rfl,rfl⟩
end
section
variable {α:Type} {a b c d:α}
end
open Go.Proofs
set_option maxRecDepth 100000
theorem Own.app1 {P:Program} {h0 h:Heap} {sz:Nat} {xs ys:List (List D)} {d:D} {tk:Tk} {t e:TypeId} (ho:Own h0 h sz xs d) (he:yr P t=some e) (hz:zGM P e=true) (hs:szT P e=sz) (hp:0<sz) (hys:∀y∈ys,y.length=sz) (hy0:ys≠[])
  (hb:(xs.length+ys.length)*yY P e≤lim) (hl:xs.length+ys.length≤lim):∃d' h',zZ P false h.next t d (.sl sz ys tk) h=some (d',h')∧Own h0 h' sz (xs++ys) d'∧h.next≤h'.next∧∀i,i<h.next→h.at' i≠some .tok→h'.at' i=h.at' i:=by
 have:=ho.appK (K:=fun d' h'=>Own h0 h' sz (xs++ys) d'∧h.next≤h'.next∧∀i,i<h.next→h.at' i≠some .tok→h'.at' i=h.at' i) (w:=⟨⟩) (tk:=tk) he hz hs hp hys hy0 hb hl fun d' h' a b c=>⟨a,b,c⟩;unfold zZj onR at this;split at this
 ·rename_i d' h' hv;exact⟨d',h',hv,this⟩
 ·exact this.elim
def okN (out:List UInt8) (d:Due):Bool:=d.1==out&&(d.2.2.2.2.2.2==0||d.2.2.2.2.2.2==1||d.2.2.2.2.2.2==2)
def zXl (l:List Con) (d:Due):Bool:=d.2.2.2.2.2.2==1&&(zDy l d.2.1).isNone
def zC5 (L:List Due) (out:List UInt8):List Due:=L.filter (okN out)
abbrev zDL (c:Cat) (fs:List Fac) (y:Cho):List Due:=ofS (zAA c fs y) (zAA c fs y).length
def zDz (c:Cat) (fs:List Fac) (y:Cho) (l:List Con) (out:List UInt8):Int:=
 if(!(yL c fs y true==0))=true then yL c fs y true else if(zC5 (zDL c fs y) out).any (zXl l)=true then 7 else 0
def NDt (g:Heap) (L:List Due) (out:List UInt8) (l:List Con) (i:Nat) (d0:D) (h:Heap):Prop:=
 Own g h 7 ((zC5 (L.take i) out).map qz) d0∧(zC5 (L.take i) out).any (zXl l)=false
theorem zT0 {L:List Due} {out:List UInt8} {i:Nat} (h:i<L.length):zC5 (L.take (i+1)) out=zC5 (L.take i) out++if okN out L[i]=true then [L[i]] else []:=by
 unfold zC5;rw[List.take_succ_eq_append_getElem h,List.filter_append];congr 1;by_cases q:okN out L[i]=true
 ·rw[if_pos q,List.filter_cons_of_pos (by simpa using q),List.filter_nil]
 ·rw[if_neg q,List.filter_cons_of_neg (by simpa using q),List.filter_nil]
theorem zKu (L:List Due) (out:List UInt8):(zC5 L out).length≤L.length:=List.length_filter_le _ _
theorem zN0 {c:Cat} {fs:List Fac} {y:Cho} {d x yd:D} (I:CIn c fs y d x yd) (h0:yL c fs y true=0):(zDL c fs y).length≤33554432:=by
 have hco:=zC4 h0 I.ysm;have h1:=zNx (zAA c fs y) (zAA c fs y).length;have h2:=zMb (c:=c) (fs:=fs) (y:=y) (m:=64) (I.n16 h0) (fun a ha=>by
  by_cases q:a.ts= []
  ·rw[q];simp
  ·exact(hco.okk a ha q).2) (by
  have:=zCL hco.case;unfold wk at this;split at this
  ·exact absurd this (by decide)
  ·rename_i q;unfold Cat.big at q;simp only[Bool.or_eq_true,decide_eq_true_eq,not_or] at q;omega)
 exact Nat.le_trans h1 (by omega)
theorem zMd (L:List Due):∀x∈L.map qz,zCj x:=fun x hx=>by
 obtain⟨v,_,rfl⟩:=List.mem_map.1 hx;exact⟨rfl,by simp[qz,yB,below],rfl⟩
set_option maxHeartbeats 8000000 in
theorem zJX {c:Cat} {fs:List Fac} {y:Cho} {d x yd:D} (I:CIn c fs y d x yd) {l:List Con} {ld:D} (hl:zX 8 (cons l) ld) (hln:l.length≤1048576) (hlo:∀x∈l,x.Ok) (out:List UInt8) (g:Heap):
  zA Tryz.prog 35 [d,x,yd,ld, .str out] g fun r h'=>h'=g∧∃r0,r= .tuple [r0, .int .i64 (zDz c fs y l out)]∧(zDz c fs y l out=0→Fin 7 ((zC5 (zDL c fs y) out).map qz) r0)∧(zDz c fs y l out≠0→r0= .nilsl):=by
 refine zA.pure (by kernel_rfl) fun hok'=>zA.strip ?_;refine zA.post fun Q hQ=> ?_;have hof:=fun h=>zaP I h;have hho:=fun comp h=>zH6 hl hln hlo comp h;have hdl:=zN0 I;obtain⟨a,b,e,p,rfl,_⟩:=I.cat;obtain⟨ta,oa,rfl,_,_⟩:=I.cho;have hv4:ze true 4 [a,b,e,p] 0=some (.agg [a,b,e,p]):=zB rfl (by omega);have hv2:ze true 2 [ta,oa] 0=some (.agg [ta,oa]):=zB rfl (by omega);have hQe:∀ {k:Int} {h':Heap},Ext g h'→zDz c fs y l out=k→k≠0→Q (.tuple [.nilsl, .int .i64 k]) h':=fun {k h'} hE hk h0=>hQ _ _ ⟨hE,⟨trivial,trivial,trivial⟩,_,by rw[hk];rfl,fun q=>absurd (by rw[←hk];exact q) h0,fun _=>rfl⟩
 refine zA.of_fn (g:=zUv) mix Tryz.func35 zib rfl rfl ?_;simp only[Tryz.f35,gJ];cases he:(yL c fs y true==0) with
 |false=>
  have hne:yL c fs y true≠0:=by simpa using he
  have hfin:=hQe (Ext.refl g) (show zDz c fs y l out=yL c fs y true by unfold zDz;rw[he];rfl) hne;clear hQe hQ hdl
  repeat' first|simp only[go_sem,zQi, *]|apply bc<;>intro hc
  refine(hof _).mono ?_;rintro r h1 ⟨hq,l0,rfl,_⟩;subst hq
  repeat' first|simp only[go_sem,zQi, *]|apply bc<;>intro hc
 |true=>
  have h0:yL c fs y true=0:=by simpa using he
  have hL:=hdl h0;have hnE:zDz c fs y l out=if(zC5 (zDL c fs y) out).any (zXl l)=true then 7 else 0:=by unfold zDz;rw[he];rfl
  rw[h0] at hof
  repeat' first|simp only[go_sem,zQi, *]|apply bc<;>intro hc
  refine(hof _).mono ?_;rintro r h1 ⟨hq,l0,rfl,hF⟩;subst hq;have hls:=(hF rfl).isSl;obtain⟨L,hLL⟩:∃L,zDL c fs y=L:=⟨_,rfl⟩;have hLL':ofS (zAA c fs y) (zAA c fs y).length=L:=hLL;rw[hLL'] at hls;rw[hLL] at hL hnE;have hll:∀h,zAd Tryz.prog 45 l0 h=some (.int .i64 (L.length:Int)):=fun h=>by rw[zP hls Tryz.underlying45,List.length_map]
  have hQf:∀ {d0:D} {h':Heap},NDt h1 L out l L.length d0 h'→Q (.tuple [d0, .int .i64 0]) h':=fun {d0 h'} hN=>by
   obtain⟨k1,k2⟩:=hN;rw[List.take_length] at k1 k2;have k0:zDz c fs y l out=0:=by rw[hnE,k2];rfl
   obtain⟨f1,f2,f3⟩:=k1.fin (zMd _);exact hQ _ _ ⟨f1,⟨f2,trivial,trivial⟩,yC d0,by rw[k0];rfl,fun _=>by rw[hLL];exact f3,fun q=>absurd k0 q⟩
  have hQb:∀ {i:Nat} (hi:i<L.length) {h':Heap},Ext h1 h'→okN out L[i]=true→zXl l L[i]=true→Q (.tuple [.nilsl, .int .i64 7]) h':=fun {i} hi {h'} hE k1 k2=>by
   refine hQe hE ?_ (by decide);rw[hnE,if_pos];exact List.any_eq_true.2 ⟨L[i],List.mem_filter.2 ⟨List.getElem_mem hi,k1⟩,k2⟩
  have hN0:NDt h1 L out l 0 .nilsl h1:=⟨Own.start (Ext.refl h1) 7,rfl⟩;clear hQ hQe hof hF hLL hLL' hnE hdl h0 he
  repeat' first|simp only[go_sem,zQi, *]|apply bc<;>intro hc
  refine zD (fun i fr h=>fr 3=ld∧fr 4= .str out∧fr 29=l0∧fr 30= .int .i64 (L.length:Int)∧fr 31= .int .i64 (i:Int)∧NDt h1 L out l i (fr 14) h) L.length (by omega) ?_ ?_ ?_
  ·simp only[go_sem,zQi,true_and,and_true,Int.ofNat_zero,hN0]
  ·clear hN0;rintro i fr h2 hlt ec ew ⟨f3,f4,f29,f30,f31,hN⟩;obtain⟨d0,hd0⟩:∃d0,fr 14=d0:=⟨_,rfl⟩;rw[hd0] at hN;obtain⟨hO,hB⟩:=hN;have a1:zR Tryz.prog 45 l0 (.int .i64 (i:Int))=some (.iptr (qz L[i]) 0):=zE hls zAr zBT (by simp[hlt]);have hns:=zT0 (out:=out) hlt;have hQb:=fun {h':Heap} =>hQb hlt (h':=h');generalize L[i]=v at *
   have hvD:ze true 7 (qz v) 0=some (.agg (qz v)):=zB rfl (by omega);have w0:(qz v)[0]? =some (.str v.1):=rfl;have w1:(qz v)[1]? =some (.str v.2.1):=rfl;have w6:(qz v)[6]? =some (.int .i64 v.2.2.2.2.2.2):=rfl;have hst3:zW Tryz.prog 53 (.ptr h2.next 0) (.agg (qz v)) (h2.new h2.next (.row [.str [], .str [], .str [], .str [], .int .i64 0, .int .i64 0, .int .i64 0]))=some (h2.new h2.next (.row (qz v))):=zg zBT (by omega) rfl rfl rfl;obtain⟨G,hG,hGn,q1,hE⟩:=qx h2 (.row (qz v));rw[hG] at hst3;have hOG:=hO.ext hE;have hEG:=hOG.1;have hnl:=zKu (L.take i) out;rw[List.length_take] at hnl
   have hno:okN out v=false→NDt h1 L out l (i+1) d0 G:=fun q=>⟨by rw[hns,q,if_neg (by decide),List.append_nil];exact hOG,by rw[hns,q,if_neg (by decide),List.append_nil];exact hB⟩;obtain⟨d',h6,va,hO6,_,_⟩:=hOG.app1 (P:=Tryz.prog) (t:=45) (tk:= .full) (ys:=[qz v]) zAr zNA zBT (by omega) (fun y hy=>by rw[List.mem_singleton.1 hy];rfl) (by simp) (by rw[zHJ,List.length_map,List.length_singleton];unfold lim;omega) (by rw[List.length_map,List.length_singleton];unfold lim;omega);rw[hGn] at va
   have hyes:okN out v=true→zXl l v=false→NDt h1 L out l (i+1) d' h6:=fun k1 k2=>⟨by rw[hns,if_pos k1,List.map_append];exact hO6,by rw[hns,if_pos k1,List.any_append,hB];simp[k2]⟩;have hbs1:∀nid h,zS Tryz.prog false nid 45 1 [(0, .agg (qz v))] h=some (.sl 7 [qz v] .full,h):=fun nid h=>yR zAr zGX zBT rfl rfl (by omega) (by omega) rfl rfl;have hhv:=hho v.2.1;obtain⟨hd,hhd⟩:∃hd,zMc l v.2.1= .tuple [hd, .bool (zDy l v.2.1).isSome]:=by
    unfold zMc;cases zDy l v.2.1 with
    |none=>exact⟨_,rfl⟩
    |some x=>exact⟨_,rfl⟩
   rw[hhd] at hhv;have hok:okN out v=(v.1==out&&(v.2.2.2.2.2.2==0||v.2.2.2.2.2.2==1||v.2.2.2.2.2.2==2)):=rfl;have hbd:zXl l v=(v.2.2.2.2.2.2==1&&(zDy l v.2.1).isNone):=rfl;obtain⟨n,hn⟩:∃n,v.2.2.2.2.2.2=n:=⟨_,rfl⟩;rw[hn] at w6 hok hbd;obtain⟨s,hs⟩:∃s,(zDy l v.2.1).isSome=s:=⟨_,rfl⟩;rw[hs] at hhv;have hsn:(zDy l v.2.1).isNone= !s:=by rw[←hs];cases zDy l v.2.1<;>rfl
   rw[hsn] at hbd;clear hs hsn hhd hns hO hB hOG hO6 hE hG hls hn hho hnl hQf hL;cases c0:(v.1==out) with
   |false=>
    have hfin:=hno (by rw[hok,c0];rfl);clear hno hyes hQb hok hbd
    repeat' first|simp only[go_sem,zQi, *]|apply bc<;>intro hc
   |true=>
   cases c1:(n==0) with
   |true=>
    have c1:n=0:=by simpa using c1
    subst c1;have hfin:=hyes (by rw[hok,c0];rfl) (by rw[hbd];rfl);clear hno hyes hQb hok hbd
    repeat' first|simp only[go_sem,zQi, *]|apply bc<;>intro hc|(refine zA.mono (hhv _) ?_;rintro r h ⟨hq,rfl⟩)
   |false=>
   cases c2:(n==1) with
   |true=>
    have c2:n=1:=by simpa using c2
    subst c2;cases s with
    |true=>
     have hfin:=hyes (by rw[hok,c0];rfl) (by rw[hbd];rfl);clear hno hyes hQb hok hbd
     repeat' first|simp only[go_sem,zQi, *]|apply bc<;>intro hc|(refine zA.mono (hhv _) ?_;rintro r h ⟨hq,rfl⟩)
    |false=>
     have hfin:=hQb hEG (by rw[hok,c0];rfl) (by rw[hbd];rfl);clear hno hyes hQb hok hbd
     repeat' first|simp only[go_sem,zQi, *]|apply bc<;>intro hc|(refine zA.mono (hhv _) ?_;rintro r h ⟨hq,rfl⟩)
   |false=>
   cases c3:(n==2) with
   |true=>
    have c3:n=2:=by simpa using c3
    subst c3;have hfin:=hyes (by rw[hok,c0];rfl) (by rw[hbd];rfl);clear hno hyes hQb hok hbd
    repeat' first|simp only[go_sem,zQi, *]|apply bc<;>intro hc|(refine zA.mono (hhv _) ?_;rintro r h ⟨hq,rfl⟩)
   |false=>
    have hfin:=hno (by rw[hok,c0,c1,c2,c3];rfl);clear hno hyes hQb hok hbd
    repeat' first|simp only[go_sem,zQi, *]|apply bc<;>intro hc
  ·clear hN0;rintro fr h2 ec ⟨f3,f4,f29,f30,f31,hN⟩;have hfin:=hQf hN;clear hQf hQb hN
   repeat' first|simp only[go_sem,zQi, *]|apply bc<;>intro hc
theorem zaQ {c:Cat} (h0:wk c=0) {k:List UInt8} (hk:zBe c.m k=true):∃x∈c.ls,w7 c k=some x∧x.name=k:=by
 unfold zBe at hk;obtain⟨v,hv⟩:=Option.isSome_iff_exists.1 hk;obtain⟨j,hj,rfl,hn⟩:=zKa hv;refine⟨c.ls[j],List.getElem_mem hj,?_,?_⟩
 ·unfold w7;rw[h0,if_neg (by decide),hv];simp only[Int.toNat_natCast,List.getElem?_eq_getElem hj]
 ·rw[←hn,List.getD_eq_getElem?_getD,List.getElem?_map,List.getElem?_eq_getElem hj];rfl
theorem zaR {c:Cat} (h0:wk c=0) {x:Cla} (hx:x∈c.cs):zBe c.m x.lic=true:=by
 obtain⟨i,hi,rfl⟩:=List.mem_iff_getElem.1 hx;have h3:c.e3=0:=by
  unfold wk at h0;split at h0
  ·exact absurd h0 (by decide)
  ·split at h0
   ·rename_i q;rw[h0] at q;exact absurd q (by decide)
   ·split at h0
    ·rename_i q;rw[h0] at q;exact absurd q (by decide)
    ·split at h0
     ·rename_i q;rw[h0] at q;exact absurd q (by decide)
     ·rename_i q;simpa using q
 unfold Cat.e3 at h3;have:=zEu h3 i hi;rw[zMD hi] at this;unfold zEi at this;split at this
 ·exact absurd this (by decide)
 ·rename_i q;simpa using q
theorem zXm {c:Cat} {fs:List Fac} {y:Cho} {v:Due} (hv:v∈zAA c fs y):(∃x∈c.cs,x.lic=v.2.2.1)∧(∃f∈fs,f.comp=v.2.1)∧∃f∈fs,f.out=v.1:=by
 obtain⟨i,hi,hv⟩:=List.mem_flatMap.1 hv;have hi:=List.mem_range.1 hi;unfold zQX at hv;rw[List.getElem?_eq_getElem hi] at hv;simp only at hv;split at hv
 ·obtain⟨⟨u,wy⟩,hp,hv⟩:=List.mem_flatMap.1 hv;obtain⟨t,_,hv⟩:=List.mem_flatMap.1 hv;obtain⟨n,hn,hv⟩:=List.mem_flatMap.1 hv;unfold zH4 at hv;split at hv
  ·cases List.mem_singleton.1 hv;unfold zC3 at hn;obtain⟨x,hx,_⟩:=List.mem_map.1 hn;refine⟨?_,⟨_,List.getElem_mem hi,rfl⟩,⟨u,zJW hp,rfl⟩⟩;unfold zBL at hx;split at hx
   ·cases hx
   ·obtain⟨h1,h2⟩:=List.mem_filter.1 hx;unfold zPE at h2;simp only[Bool.and_eq_true,beq_iff_eq] at h2;exact⟨x,h1,h2.1.1.1⟩
  ·cases hv
 ·cases hv
def zGm (F:List Due):List (List UInt8):=(F.filter fun d=>d.2.2.2.2.2.2==0).map fun d=>d.2.2.1
def zQZ (l:List Con) (comp:List UInt8):List (List UInt8):=match zDy l comp with
 |none=>[]
 |some x=>x.hs
def zJY (l:List Con) (F:List Due):List (List UInt8):=(F.filter fun d=>d.2.2.2.2.2.2==1).flatMap fun d=>zQZ l d.2.1
def zK2 (F:List Due):List (List UInt8):=(F.filter fun d=>d.2.2.2.2.2.2==2).map fun d=>d.2.1
def zFZ (c:Cat) (s:List UInt8):List UInt8:=match w7 c s with
 |some x=>x.text
 |none=>[]
def mkN (c:Cat) (l:List Con) (F:List Due):Note:=⟨zV (zGm F),(zV (zGm F)).map (zFZ c),zV (zJY l F),zV (zK2 F)⟩
def Note.zero':Note:=⟨[],[],[],[]⟩
def zD0 (c:Cat) (fs:List Fac) (y:Cho) (l:List Con) (out:List UInt8):Int:=
 if(!(zDz c fs y l out==0))=true then zDz c fs y l out else zw (mkN c l (zC5 (zDL c fs y) out))
def zKv (c:Cat) (fs:List Fac) (y:Cho) (l:List Con) (out:List UInt8):Note:=
 if(zD0 c fs y l out==0)=true then mkN c l (zC5 (zDL c fs y) out) else Note.zero'
theorem zV9 {n:Note} {d:D} (hd:zBw n d) (h1:∀s∈n.ls,s.length≤1048576) (h2:∀s∈n.ts,s.length≤1048576) (h3:∀s∈n.hs,s.length≤1048576) (h4:∀s∈n.cs,s.length≤1048576) (h:Heap):
  zA Tryz.prog 26 [d] h fun r h'=>h'=h∧r= .int .i64 (zw n):=by
 by_cases hm:max (max (max n.ls.length n.ts.length) n.hs.length) n.cs.length>1024
 ·have e1:decide (((max (max (max n.ls.length n.ts.length) n.hs.length) n.cs.length:Nat):Int)>1024)=true:=decide_eq_true (by omega);have hk:zw n=10:=by rw[zw,if_pos hm]
  obtain⟨a,b,c,e,rfl,ha,hb,hc,he⟩:=hd;have l1:=yA ha;have l2:=yA hb;have l3:=yA hc;have l4:=yA he;have hv:=wv n.ls.length n.ts.length n.hs.length n.cs.length;rw[hk];refine zA.of_fn (g:=zSd) mix Tryz.func26 zg0 rfl rfl ?_;simp only[Tryz.f26,gJ]
  repeat' first|simp only[go_sem,zU8, *]|apply bc<;>intro hc
 ·exact zHa hd ⟨⟨by omega,h1⟩,⟨by omega,h2⟩,⟨by omega,h3⟩,⟨by omega,h4⟩⟩ h
theorem Ows.app4 {P:Program} {h0 h:Heap} {L:List (Nat×List (List D) ×D)} {sz:Nat} {xs ys:List (List D)} {d x:D} {t e:TypeId} (ho:Ows h0 h ((sz,xs,d)::L)) (he:yr P t=some e) (hz:zGM P e=true) (hs:szT P e=sz) (hp:0<sz) (hys:∀y∈ys,y.length=sz) (hx:(x= .nilsl∧ys= [])∨(ys≠[]∧∃tk,x= .sl sz ys tk))
  (hb:(xs.length+ys.length)*yY P e≤lim) (hl:xs.length+ys.length≤lim):∃d' h',zZ P false h.next t d x h=some (d',h')∧Ows h0 h' ((sz,xs++ys,d')::L)∧h.next≤h'.next∧∀i,i<h.next→h.at' i≠some .tok→h'.at' i=h.at' i:=by
 have hd:=ho.own (sz,xs,d) (by simp);obtain⟨w2,w3⟩:=List.pairwise_cons.1 ho.dis;obtain⟨d',h',hv,o,n,keep,tkn,c,f⟩:=hd.1.app4 (P:=P) he hz hs hp hys hx hb hl;refine⟨d',h',hv,⟨⟨Nat.le_trans ho.ext.1 n,fun i hi=> ?_⟩,fun p q=> ?_,?_⟩,n,fun i hi hne=>keep i hi fun e=>hne (hd.1.tok e).2⟩
 ·rw[keep i (Nat.lt_of_lt_of_le hi ho.ext.1) (fun q=>by have:=hd.2 i q;omega)];exact ho.ext.2 i hi
 ·rcases List.mem_cons.1 q with rfl|q
  ·exact⟨o,fun i hi=>Nat.le_trans ho.ext.1 (tkn i hi)⟩
  ·obtain⟨a1,a2⟩:=ho.own p (List.mem_cons_of_mem _ q);exact⟨a1.loc n fun i hi=>keep i (a1.tok hi).1 fun z=>w2 p q i z hi,a2⟩
 ·refine List.pairwise_cons.2 ⟨fun p q i hi hj=> ?_,w3⟩;have:=tkn i hi;have:=((ho.own p (List.mem_cons_of_mem _ q)).1.tok hj).1;omega
theorem zQa {P:Program} {m:Bool} {nid sz:Nat} {t e:TypeId} {d:D} {tk:Tk} {h:Heap} (he:yr P t=some e) (hs:szT P e=sz):zZ P m nid t d (.sl sz [] tk) h=zZ P m nid t d .nilsl h:=by
 simp[zZ,he,hs,zKy]
theorem zQb {P:Program} {m:Bool} {nid:Nat} {t e:TypeId} {h:Heap} (he:yr P t=some e) (hz:zGM P e=true):zZ P m nid t .nilsl .nilsl h=some (.nilsl,h):=by
 simp[zZ,he,hz,zKy,yk]
theorem zeA {α:Type} {a b c:α} : [a,b,c].Perm [b,a,c]:=List.Perm.swap _ _ _
theorem zeB {α:Type} {a b c:α} : [a,b,c].Perm [c,a,b]:=List.perm_middle (l₁:=[a,b]) (l₂:=[])
structure St3 (g:Heap) (A B C:List (List UInt8)) (n10 n14:Nat) (a b c:D) (h:Heap):Prop where
 ows:Ows g h [(1,zt A,a),(1,zt B,b),(1,zt C,c)]
 za:A= []→a= .nilsl
 zb:B= []→b= .nilsl
 zc:C= []→c= .nilsl
 r14:h.at' n14=some (.row [a, .nilsl,b,c])
 r10:h.at' n10=some (.row [.nilsl, .nilsl, .nilsl, .nilsl])
 l14:n14<h.next
 l10:n10<h.next
 g14:g.next≤n14
 n:n10≠n14
section
variable {g h:Heap} {A B C:List (List UInt8)} {n10 n14:Nat} {a b c:D}
theorem Ows.exts {h0 h h':Heap} {L:List (Nat×List (List D) ×D)} (ho:Ows h0 h L) (he:Ext h h'):Ows h0 h' L:=
 ⟨ho.ext.trans he,fun p q=>⟨(ho.own p q).1.loc he.1 fun i hi=>he.2 i ((ho.own p q).1.tok hi).1,(ho.own p q).2⟩,ho.dis⟩
theorem St3.ext {h':Heap} (s:St3 g A B C n10 n14 a b c h) (e:Ext h h'):St3 g A B C n10 n14 a b c h':=by
 have e1:=e.1;have l1:=s.l14;have l2:=s.l10;exact⟨s.ows.exts e,s.za,s.zb,s.zc,by rw[e.2 _ s.l14];exact s.r14,by rw[e.2 _ s.l10];exact s.r10,by omega,by omega,s.g14,s.n⟩
theorem zEw {l:List (List UInt8)} (h:l≠[]):zt l≠[]:=fun e=>h (List.map_eq_nil_iff.1 e)
theorem St3.appA (s:St3 g A B C n10 n14 a b c h) {ys:List (List UInt8)} {tk:Tk} (hy:ys≠[]) (hl:A.length+ys.length≤1099511627776):∃a' h',zZ Tryz.prog false h.next 31 a (.sl 1 (zt ys) tk) h=some (a',h')∧zW Tryz.prog 31 (.ptr n14 0) a' h'=some (h'.set n14 (.row [a', .nilsl,b,c]))∧St3 g (A++ys) B C n10 n14 a' b c (h'.set n14 (.row [a', .nilsl,b,c])):=by
 obtain⟨a',h',hv,o,n,keep⟩:=s.ows.app4 (P:=Tryz.prog) (t:=31) (ys:=zt ys) (x:= .sl 1 (zt ys) tk) zd zBq yu (by omega) (zEk ys) (.inr ⟨zEw hy,tk,rfl⟩) (by rw[wO,zJ,zJ];unfold lim;omega) (by rw[zJ,zJ];unfold lim;omega);have r14:h'.at' n14=some (.row [a, .nilsl,b,c]):=by rw[keep _ s.l14 (by rw[s.r14];simp)];exact s.r14
 have r10:h'.at' n10=some (.row [.nilsl, .nilsl, .nilsl, .nilsl]):=by rw[keep _ s.l10 (by rw[s.r10];simp)];exact s.r10
 obtain⟨f1,f2,_⟩:=o.flat (sz:=1) (xs:=zt A++zt ys) (d:=a') (by simp);have l1:=s.l14;have l2:=s.l10;refine⟨a',h',hv,by rw[zh r14 zCQ (by simp) f2 f1];rfl,⟨?_,fun e=>absurd (List.append_eq_nil_iff.1 e).2 hy,s.zb,s.zc,zF _ _ _,by rw[zH s.n];exact r10,by rw[z8];omega,by rw[z8];omega,s.g14,s.n⟩⟩;have e:zt (A++ys)=zt A++zt ys:=by simp[zt]
 rw[e];exact o.set s.g14 r14 (by simp)
theorem St3.appC (s:St3 g A B C n10 n14 a b c h) {ys:List (List UInt8)} {tk:Tk} (hy:ys≠[]) (hl:C.length+ys.length≤1099511627776):∃c' h',zZ Tryz.prog false h.next 31 c (.sl 1 (zt ys) tk) h=some (c',h')∧zW Tryz.prog 31 (.ptr n14 3) c' h'=some (h'.set n14 (.row [a, .nilsl,b,c']))∧St3 g A B (C++ys) n10 n14 a b c' (h'.set n14 (.row [a, .nilsl,b,c'])):=by
 obtain⟨c',h',hv,o,n,keep⟩:=(s.ows.perm zeB).app4 (P:=Tryz.prog) (t:=31) (ys:=zt ys) (x:= .sl 1 (zt ys) tk) zd zBq yu (by omega) (zEk ys) (.inr ⟨zEw hy,tk,rfl⟩) (by rw[wO,zJ,zJ];unfold lim;omega) (by rw[zJ,zJ];unfold lim;omega);have r14:h'.at' n14=some (.row [a, .nilsl,b,c]):=by rw[keep _ s.l14 (by rw[s.r14];simp)];exact s.r14
 have r10:h'.at' n10=some (.row [.nilsl, .nilsl, .nilsl, .nilsl]):=by rw[keep _ s.l10 (by rw[s.r10];simp)];exact s.r10
 obtain⟨f1,f2,_⟩:=o.flat (sz:=1) (xs:=zt C++zt ys) (d:=c') (by simp);have l1:=s.l14;have l2:=s.l10;refine⟨c',h',hv,by rw[zh r14 zCQ (by simp) f2 f1];rfl,⟨?_,s.za,s.zb,fun e=>absurd (List.append_eq_nil_iff.1 e).2 hy,zF _ _ _,by rw[zH s.n];exact r10,by rw[z8];omega,by rw[z8];omega,s.g14,s.n⟩⟩;have e:zt (C++ys)=zt C++zt ys:=by simp[zt]
 rw[e];exact(o.set s.g14 r14 (by simp)).perm (zeB.symm)
theorem St3.appB (s:St3 g A B C n10 n14 a b c h) {ys:List (List UInt8)} {x:D} (hx:zX 1 (zt ys) x) (hl:B.length+ys.length≤1099511627776):∃b' h',zZ Tryz.prog false h.next 31 b x h=some (b',h')∧zW Tryz.prog 31 (.ptr n14 2) b' h'=some (h'.set n14 (.row [a, .nilsl,b',c]))∧St3 g A (B++ys) C n10 n14 a b' c (h'.set n14 (.row [a, .nilsl,b',c])):=by
 have key:∀x',(x'= .nilsl∧zt ys= [])∨(zt ys≠[]∧∃tk,x'= .sl 1 (zt ys) tk)→(B++ys= []→False)→∃b' h',zZ Tryz.prog false h.next 31 b x' h=some (b',h')∧zW Tryz.prog 31 (.ptr n14 2) b' h'=some (h'.set n14 (.row [a, .nilsl,b',c]))∧St3 g A (B++ys) C n10 n14 a b' c (h'.set n14 (.row [a, .nilsl,b',c])):=fun x' hx' hne=>by
  obtain⟨b',h',hv,o,n,keep⟩:=(s.ows.perm zeA).app4 (P:=Tryz.prog) (t:=31) (ys:=zt ys) (x:=x') zd zBq yu (by omega) (zEk ys) hx' (by rw[wO,zJ,zJ];unfold lim;omega) (by rw[zJ,zJ];unfold lim;omega);have r14:h'.at' n14=some (.row [a, .nilsl,b,c]):=by rw[keep _ s.l14 (by rw[s.r14];simp)];exact s.r14
  have r10:h'.at' n10=some (.row [.nilsl, .nilsl, .nilsl, .nilsl]):=by rw[keep _ s.l10 (by rw[s.r10];simp)];exact s.r10
  obtain⟨f1,f2,_⟩:=o.flat (sz:=1) (xs:=zt B++zt ys) (d:=b') (by simp);have l1:=s.l14;have l2:=s.l10;refine⟨b',h',hv,by rw[zh r14 zCQ (by simp) f2 f1];rfl,⟨?_,s.za,fun e=>(hne e).elim,s.zc,zF _ _ _,by rw[zH s.n];exact r10,by rw[z8];omega,by rw[z8];omega,s.g14,s.n⟩⟩;have e:zt (B++ys)=zt B++zt ys:=by simp[zt]
  rw[e];exact(o.set s.g14 r14 (by simp)).perm zeA
 by_cases hy:ys= []
 ·subst hy;have e0:zZ Tryz.prog false h.next 31 b x h=zZ Tryz.prog false h.next 31 b .nilsl h:=by
   rcases hx with⟨rfl,_⟩ | ⟨tk,rfl⟩
   ·rfl
   ·exact zQa zd yu
  rw[e0];by_cases hB:B= []
  ·subst hB;have hb:=s.zb rfl;subst hb;refine⟨.nilsl,h,zQb zd zBq,by rw[zh s.r14 zCQ (by simp) rfl rfl];rfl,?_⟩;rw[zEX s.r14];exact s
  ·exact key .nilsl (.inl ⟨rfl,rfl⟩) fun e=>hB (List.append_eq_nil_iff.1 e).1
 ·refine key x (.inr ⟨zEw hy,?_⟩) fun e=>hy (List.append_eq_nil_iff.1 e).2;rcases hx with⟨_,e⟩ | ⟨tk,rfl⟩
  ·exact absurd e (zEw hy)
  ·exact⟨tk,rfl⟩
end
theorem zT1 {F:List Due} {i:Nat} (h:i<F.length):zGm (F.take (i+1))=zGm (F.take i)++if((F[i]).2.2.2.2.2.2==0)=true then [(F[i]).2.2.1] else []:=by
 unfold zGm;rw[List.take_succ_eq_append_getElem h,List.filter_append,List.map_append];congr 1;by_cases q:((F[i]).2.2.2.2.2.2==0)=true
 ·rw[if_pos q,List.filter_cons_of_pos (by simpa using q)];rfl
 ·rw[if_neg q,List.filter_cons_of_neg (by simpa using q)];rfl
theorem zT2 {F:List Due} {i:Nat} (h:i<F.length):zK2 (F.take (i+1))=zK2 (F.take i)++if((F[i]).2.2.2.2.2.2==2)=true then [(F[i]).2.1] else []:=by
 unfold zK2;rw[List.take_succ_eq_append_getElem h,List.filter_append,List.map_append];congr 1;by_cases q:((F[i]).2.2.2.2.2.2==2)=true
 ·rw[if_pos q,List.filter_cons_of_pos (by simpa using q)];rfl
 ·rw[if_neg q,List.filter_cons_of_neg (by simpa using q)];rfl
theorem zT3 {l:List Con} {F:List Due} {i:Nat} (h:i<F.length):zJY l (F.take (i+1))=zJY l (F.take i)++if((F[i]).2.2.2.2.2.2==1)=true then zQZ l (F[i]).2.1 else []:=by
 unfold zJY;rw[List.take_succ_eq_append_getElem h,List.filter_append,List.flatMap_append];congr 1;by_cases q:((F[i]).2.2.2.2.2.2==1)=true
 ·rw[if_pos q,List.filter_cons_of_pos (by simpa using q)];simp
 ·rw[if_neg q,List.filter_cons_of_neg (by simpa using q)];rfl
def fz (l:List (List UInt8)):D:=if l= [] then .nilsl else .sl 1 (zt l) .no
theorem zIA.fz {l:List (List UInt8)} {d:D} (h:zIA l d):d=V.fz l:=by
 unfold V.fz;rcases h with⟨e,rfl⟩ | ⟨e,rfl⟩
 ·rw[if_pos e]
 ·rw[if_neg e]
theorem zWA (l:List (List UInt8)):zIA l (fz l):=by
 unfold fz;by_cases e:l= []
 ·rw[if_pos e];exact .inl ⟨e,rfl⟩
 ·rw[if_neg e];exact .inr ⟨e,rfl⟩
theorem zKw (l:List (List UInt8)):yC (fz l)=fz l∧below 0 (fz l)∧(fz l).flat=true∧(fz l).cells= [fz l]:=by
 rcases zWA l with⟨_,h⟩ | ⟨_,h⟩
 ·rw[h];exact⟨rfl,trivial,rfl,rfl⟩
 ·rw[h];have:=yN (sz:=1) (yW (l:=l)) .no;exact⟨this.1,this.2,rfl,rfl⟩
abbrev nl4:List D:=[.nilsl, .nilsl, .nilsl, .nilsl]
def MSt (g:Heap) (l:List Con) (F:List Due) (n10 n14 i:Nat) (h:Heap):Prop:=∃a b c,St3 g (zGm (F.take i)) (zJY l (F.take i)) (zK2 (F.take i)) n10 n14 a b c h
def TSt (g:Heap) (c:Cat) (LS:List (List UInt8)) (A B C:D) (n10 n14 i:Nat) (h:Heap):Prop:=∃t,Own g h 1 (zt ((LS.take i).map (zFZ c))) t∧h.at' n14=some (.row [A,t,B,C])∧h.at' n10=some (.row nl4)∧n14<h.next∧n10<h.next
theorem zZf.of {l:List (List UInt8)} {h:Heap} {d:D} (o:wI h 1 (zt l) d) (z:l= []→d= .nilsl):zZf l d:=by
 by_cases e:l= []
 ·exact .inl ⟨e,z e⟩
 ·refine .inr ⟨e,?_⟩;rcases o with⟨_,q⟩ | ⟨t,q,_⟩
  ·exact absurd q (zEw e)
  ·exact⟨_,q⟩
theorem zPW (F:List Due):(zGm F).length≤F.length:=by unfold zGm;rw[List.length_map];exact List.length_filter_le _ _
theorem zPX (F:List Due):(zK2 F).length≤F.length:=by unfold zK2;rw[List.length_map];exact List.length_filter_le _ _
theorem zWB {l:List Con} {m:Nat} (h:∀x∈l,x.hs.length≤m) (comp:List UInt8):(zQZ l comp).length≤m:=by
 unfold zQZ zDy;split
 ·simp
 ·rename_i x hx;exact h x (List.mem_of_find?_eq_some hx)
theorem zPY {l:List Con} {m:Nat} (h:∀x∈l,x.hs.length≤m) (F:List Due):(zJY l F).length≤F.length*m:=by
 unfold zJY;refine Nat.le_trans (zDx (m:=m) fun d _=>zWB h _) (Nat.mul_le_mul_right _ (List.length_filter_le _ _))
theorem zT4 {c:Cat} {fs:List Fac} {y:Cho} {l:List Con} {out:List UInt8} (hc:wk c=0) (hs:c.Sm) (hok:∀f∈fs,f.Ok) (hlo:∀x∈l,x.Ok):
  (∀s∈zGm (zC5 (zDL c fs y) out),∃x∈c.ls,w7 c s=some x∧x.name=s∧s.length≤1048576)∧(∀s∈zJY l (zC5 (zDL c fs y) out),s.length≤1048576)∧∀s∈zK2 (zC5 (zDL c fs y) out),s.length≤1048576:=by
 have hm:∀v∈zC5 (zDL c fs y) out,v∈zAA c fs y:=fun v hv=>zaO.1 (List.mem_filter.1 hv).1;refine⟨fun s h=> ?_,fun s h=> ?_,fun s h=> ?_⟩
 ·obtain⟨v,hv,rfl⟩:=List.mem_map.1 h;obtain⟨⟨x,hx,e⟩,_⟩:=zXm (hm v (List.mem_filter.1 hv).1);obtain⟨k,hk,h1,h2⟩:=zaQ hc (zaR hc hx);rw[e] at h1 h2;exact⟨k,hk,h1,h2,by rw[←h2];exact(hs.ls.2 k hk).1⟩
 ·obtain⟨v,hv,h⟩:=List.mem_flatMap.1 h;unfold zQZ zDy at h;split at h
  ·cases h
  ·rename_i x hx;exact(hlo x (List.mem_of_find?_eq_some hx)).sm s h
 ·obtain⟨v,hv,rfl⟩:=List.mem_map.1 h;obtain⟨_,⟨f,hf,e⟩,_⟩:=zXm (hm v (List.mem_filter.1 hv).1);rw[←e];exact(hok f hf).comp
theorem zT5 {l:List (List UInt8)} {d:D} (h:Fin 1 (zt l) d):below 0 d:=by
 rcases h with⟨rfl,_⟩ |rfl
 ·trivial
 ·exact(yN (sz:=1) yW .no).2
set_option maxHeartbeats 16000000 in
theorem zXn {c:Cat} {fs:List Fac} {y:Cho} {d x yd:D} (I:CIn c fs y d x yd) {l:List Con} {ld:D} (hl:zX 8 (cons l) ld) (hln:l.length≤1048576) (hlo:∀x∈l,x.Ok) (h25:∀x∈l,x.hs.length≤1025) (out:List UInt8) (g:Heap):
  zA Tryz.prog 8 [d,x,yd,ld, .str out] g fun r h'=>h'=g∧∃r0,r= .tuple [r0, .int .i64 (zD0 c fs y l out)]∧zBw (zKv c fs y l out) r0∧below 0 r0:=by
 refine zA.pure (by kernel_rfl) fun hok'=>zA.strip ?_;refine zA.post fun Q hQ=> ?_;have hnd:=fun h=>zJX I hl hln hlo out h;have hho:=fun comp h=>zH6 hl hln hlo comp h;have hfd:=fun k h=>zME I.cat I.sm k h;have hdl:=zN0 I;have hIs:=I.sm;have hIk:=I.ok;have hIy:=I.ysm;obtain⟨a,b,e,p,rfl,_⟩:=I.cat;obtain⟨ta,oa,rfl,_,_⟩:=I.cho;have hv4:∀a b c e:D,ze true 4 [a,b,c,e] 0=some (.agg [a,b,c,e]):=fun a b c e=>zB rfl (by omega);have hv2:ze true 2 [ta,oa] 0=some (.agg [ta,oa]):=zB rfl (by omega);have hb0:yn Tryz.prog 36 []=some (.agg nl4):=by simp[yn,zFD,zGW,wl,D.notTuple,D.cells]
 have hQz:∀ {k:Int} {h':Heap},Ext g h'→zD0 c fs y l out=k→k≠0→Q (.tuple [.agg nl4, .int .i64 k]) h':=fun {k h'} hE hk h0=>by
  have hn:zKv c fs y l out=Note.zero':=by unfold zKv;rw[hk,if_neg (by simpa using h0)]
  exact hQ _ _ ⟨hE,⟨⟨trivial,trivial,trivial,trivial,trivial⟩,trivial,trivial⟩, .agg nl4,by rw[hk];rfl,by rw[hn];exact⟨_,_,_,_,rfl,zX.nil,zX.nil,zX.nil,zX.nil⟩,trivial,trivial,trivial,trivial,trivial⟩
 obtain⟨G0,hG0,hG0n,r10,hE0⟩:=qx g (.row nl4);have hst0:zW Tryz.prog 36 (.ptr g.next 0) (.agg nl4) G0=some (G0.set g.next (.row nl4)):=qQ r10 zBE rfl (by decide) rfl;have r10':(G0.set g.next (.row nl4)).at' g.next=some (.row nl4):=zF _ _ _;have hE0':Ext g (G0.set g.next (.row nl4)):=hE0.set (Nat.le_refl _) _;refine zA.of_fn (g:=zem) mix Tryz.func8 ok8 rfl rfl ?_;simp only[Tryz.f8,gJ];cases he:(zDz c fs y l out==0) with
 |false=>
  have hne:zDz c fs y l out≠0:=by simpa using he
  have hfin:=hQz hE0' (show zD0 c fs y l out=zDz c fs y l out by unfold zD0;rw[he];rfl) hne;clear hQz hQ hdl hfd hho I hIs hIk hIy
  repeat' first|simp only[go_sem,mu8, *]|apply bc<;>intro hc
  refine(hnd _).mono ?_;rintro r h1 ⟨hq,l0,rfl,_,hz⟩;have hz:=hz hne;subst hz hq
  repeat' first|simp only[go_sem,mu8, *]|apply bc<;>intro hc
 |true=>
  have h0:zDz c fs y l out=0:=by simpa using he
  have hch:yL c fs y true=0:=by
   unfold zDz at h0;split at h0
   ·rename_i q;rw[h0] at q;exact absurd q (by decide)
   ·rename_i q;simpa using q
  have hL:=hdl hch;have hbad:(zC5 (zDL c fs y) out).any (zXl l)=false:=by
   unfold zDz at h0;rw[hch,if_neg (by decide)] at h0;split at h0
   ·exact absurd h0 (by decide)
   ·rename_i q;simpa using q
  have hcat:=zCL (zC4 hch hIy).case;have hsm:=zT4 (y:=y) (out:=out) hcat hIs hIk hlo;have hmE:zD0 c fs y l out=zw (mkN c l (zC5 (zDL c fs y) out)):=by unfold zD0;rw[he];rfl
  have hFl:=zKu (zDL c fs y) out;have hokF:∀v∈zC5 (zDL c fs y) out,okN out v=true:=fun v hv=>(List.mem_filter.1 hv).2;have hmN:zD0 c fs y l out=0→zKv c fs y l out=mkN c l (zC5 (zDL c fs y) out):=fun q=>by unfold zKv;rw[q];rfl
  rw[h0] at hnd he
  repeat' first|simp only[go_sem,mu8, *]|apply bc<;>intro hc
  refine(hnd _).mono ?_;rintro r h1 ⟨hq,l0,rfl,hF,_⟩;subst hq;have hls:=(hF rfl).isSl;obtain⟨F,hFF⟩:∃F,zC5 (zDL c fs y) out=F:=⟨_,rfl⟩;rw[hFF] at hls hbad hsm hmE hFl hokF hmN;have hFl:F.length≤33554432:=Nat.le_trans hFl hL;have hll:∀h,zAd Tryz.prog 45 l0 h=some (.int .i64 (F.length:Int)):=fun h=>by rw[zP hls Tryz.underlying45,List.length_map]
  clear hnd hF hdl hL hFF h0 hch;obtain⟨G1,hG1,hG1n,r14,hE1⟩:∃G1,h1.new (g.next+1) (.row nl4)=G1∧G1.next=g.next+2∧G1.at' (g.next+1)=some (.row nl4)∧Ext h1 G1:=by
   have:=qx h1 (.row nl4);rw[hG0n] at this;exact this
  have r10b:G1.at' g.next=some (.row nl4):=by rw[hE1.2 _ (by omega)];exact r10
  have s0:MSt g l F g.next (g.next+1) 0 G1:=by
   refine⟨.nilsl, .nilsl, .nilsl,⟨⟨hE0.trans hE1,fun p hp=> ?_,?_⟩,fun _=>rfl,fun _=>rfl,fun _=>rfl,r14,r10b,by omega,by omega,by omega,by omega⟩⟩
   ·have:p.2.2= .nilsl∧p.2.1= []:=by
     simp only[List.mem_cons,List.not_mem_nil,or_false] at hp;rcases hp with rfl|rfl|rfl<;>exact⟨rfl,rfl⟩
    obtain⟨e1,e2⟩:=this;rw[e1,e2];exact⟨.inl ⟨rfl,rfl⟩,fun i hi=>hi.elim⟩
   ·simp[wm]
  clear r10' hE0' hst0
  repeat' first|simp only[go_sem,mu8, *]|apply bc<;>intro hc
  refine zD (fun i fr h=>fr 3=ld∧fr 5= .iptr [a,b,e,p] 0∧fr 10= .ptr g.next 0∧fr 14= .ptr (g.next+1) 0∧fr 37=l0∧fr 38= .int .i64 (F.length:Int)∧fr 39= .int .i64 (i:Int)∧MSt g l F g.next (g.next+1) i h) F.length (by omega) ?_ ?_ ?_
  ·simp only[go_sem,mu8,true_and,and_true,Int.ofNat_zero,s0]
  ·clear s0 r14 r10b hE1 hG1n hG1 hsm hmE hQ hmN hfd hQz;rintro i fr h2 hlt ec ew ⟨f3,f5,f10,f14,f37,f38,f39,A,B,C,hS⟩;have a1:zR Tryz.prog 45 l0 (.int .i64 (i:Int))=some (.iptr (qz F[i]) 0):=zE hls zAr zBT (by simp[hlt]);have hvm:=List.getElem_mem hlt;have e1:=zT1 hlt;have e2:=zT3 (l:=l) hlt;have e3:=zT2 hlt;generalize F[i]=v at *
   have hvD:ze true 7 (qz v) 0=some (.agg (qz v)):=zB rfl (by omega);have w1:(qz v)[1]? =some (.str v.2.1):=rfl;have w2:(qz v)[2]? =some (.str v.2.2.1):=rfl;have w6:(qz v)[6]? =some (.int .i64 v.2.2.2.2.2.2):=rfl;have hst3:zW Tryz.prog 53 (.ptr h2.next 0) (.agg (qz v)) (h2.new h2.next (.row [.str [], .str [], .str [], .str [], .int .i64 0, .int .i64 0, .int .i64 0]))=some (h2.new h2.next (.row (qz v))):=zg zBT (by omega) rfl rfl rfl;obtain⟨G,hG,hGn,q1,hE⟩:=qx h2 (.row (qz v));rw[hG] at hst3;have hSG:=hS.ext hE;have q14:=hSG.r14;have n1:=zPW (F.take i);have n2:=zPY (l:=l) h25 (F.take i)
   have n3:=zPX (F.take i);rw[List.length_take] at n1 n2 n3;have n2':(zJY l (F.take i)).length≤34393292800:=Nat.le_trans n2 (Nat.le_trans (Nat.mul_le_mul_right _ (show min i F.length≤33554432 by omega)) (by decide));have hon:=hokF v hvm;have hn1:v.2.2.2.2.2.2=0∨v.2.2.2.2.2.2=1∨v.2.2.2.2.2.2=2:=by
    unfold okN at hon;simp only[Bool.and_eq_true,Bool.or_eq_true,beq_iff_eq] at hon;omega
   rcases hn1 with hn1|hn1|hn1
   ·rw[hn1] at w6 e1 e2 e3;simp only[Int.reduceBEq,if_true,Bool.false_eq_true,if_false,List.append_nil] at e1 e2 e3;obtain⟨A',h6,va,vs,hS6⟩:=hSG.appA (tk:= .full) (ys:=[v.2.2.1]) (by simp) (by rw[List.length_singleton];omega);rw[hGn] at va;have hob:=zCq v.2.2.1;have va:zZ Tryz.prog false (h2.next+1) 31 A (.sl 1 [[.str v.2.2.1]] .full) G=some (A',h6):=va;have hfin:MSt g l F g.next (g.next+1) (i+1) (h6.set (g.next+1) (.row [A', .nilsl,B,C])):=⟨A',B,C,by
     rw[e1,e2,e3];exact hS6⟩
    clear e1 e2 e3 hS hSG hS6 hE hG n1 n2 n2' n3 hon hvm hls hlt hokF hbad hho hn1
    repeat' first|simp only[go_sem,mu8, *]|apply bc<;>intro hc
   ·rw[hn1] at w6 e1 e2 e3;simp only[Int.reduceBEq,if_true,Bool.false_eq_true,if_false,List.append_nil] at e1 e2 e3;have hb:=List.any_eq_false.1 hbad v hvm;obtain⟨k,hk⟩:∃k,zDy l v.2.1=some k:=by
     unfold zXl at hb;rw[hn1] at hb;cases q:zDy l v.2.1 with
     |none=>rw[q] at hb;exact absurd rfl hb
     |some k=>exact⟨k,rfl⟩
    have hhv:=hho v.2.1;have hhd:zMc l v.2.1= .tuple [k.hd, .bool true]:=by unfold zMc;rw[hk]
    have hho2:zQZ l v.2.1=k.hs:=by unfold zQZ;rw[hk]
    rw[hhd] at hhv;have hkm:k∈l:=List.mem_of_find?_eq_some hk;have h25k:=h25 k hkm;obtain⟨B',h6,va,vs,hS6⟩:=hSG.appB (hlo k hkm).sl (by omega);rw[hGn] at va;have hfin:MSt g l F g.next (g.next+1) (i+1) (h6.set (g.next+1) (.row [A, .nilsl,B',C])):=⟨A,B',C,by
     rw[e1,e2,e3,hho2];exact hS6⟩
    obtain⟨kd,hkd⟩:∃kd,k.hd=kd:=⟨_,rfl⟩;rw[hkd] at hhv va;clear e1 e2 e3 hS hSG hS6 hE hG n1 n2 n2' n3 hon hvm hls hlt hokF hbad hho hn1 hb hk hhd hho2
    repeat' first|simp only[go_sem,mu8, *]|apply bc<;>intro hc|(refine zA.mono (hhv _) ?_;rintro r h ⟨hq,rfl⟩)
   ·rw[hn1] at w6 e1 e2 e3;simp only[Int.reduceBEq,if_true,Bool.false_eq_true,if_false,List.append_nil] at e1 e2 e3;obtain⟨C',h6,va,vs,hS6⟩:=hSG.appC (tk:= .full) (ys:=[v.2.1]) (by simp) (by rw[List.length_singleton];omega);rw[hGn] at va;have hob:=zCq v.2.1;have va:zZ Tryz.prog false (h2.next+1) 31 C (.sl 1 [[.str v.2.1]] .full) G=some (C',h6):=va;have hfin:MSt g l F g.next (g.next+1) (i+1) (h6.set (g.next+1) (.row [A, .nilsl,B,C'])):=⟨A,B,C',by
     rw[e1,e2,e3];exact hS6⟩
    clear e1 e2 e3 hS hSG hS6 hE hG n1 n2 n2' n3 hon hvm hls hlt hokF hbad hho hn1
    repeat' first|simp only[go_sem,mu8, *]|apply bc<;>intro hc
  ·clear s0 r14 r10b hE1 hG1n hG1 hbad hokF hho hls hll;rintro fr h2 ec ⟨f3,f5,f10,f14,f37,f38,f39,A,B,C,hS⟩;rw[List.take_length] at hS;have tA:=zZf.of (hS.ows.sl (sz:=1) (xs:=zt (zGm F)) (d:=A) (by simp)) hS.za;have tB:=zZf.of (hS.ows.sl (sz:=1) (xs:=zt (zJY l F)) (d:=B) (by simp)) hS.zb;have tC:=zZf.of (hS.ows.sl (sz:=1) (xs:=zt (zK2 F)) (d:=C) (by simp)) hS.zc;have n1:=zPW F;have n2:=zPY (l:=l) h25 F;have n3:=zPX F;have n2':(zJY l F).length≤34393292800:=Nat.le_trans n2 (Nat.le_trans (Nat.mul_le_mul_right _ hFl) (by decide))
   have sA:∀h,zA Tryz.prog 37 [A] h fun r h'=>h'=h∧r=fz (zV (zGm F)):=fun h=>(zEc tA (by omega) h).mono fun r h' q=>⟨q.1,q.2.fz⟩;have sB:∀h,zA Tryz.prog 37 [B] h fun r h'=>h'=h∧r=fz (zV (zJY l F)):=fun h=>(zEc tB (by omega) h).mono fun r h' q=>⟨q.1,q.2.fz⟩;have sC:∀h,zA Tryz.prog 37 [C] h fun r h'=>h'=h∧r=fz (zV (zK2 F)):=fun h=>(zEc tC (by omega) h).mono fun r h' q=>⟨q.1,q.2.fz⟩;have fA:=zKw (zV (zGm F));have fB:=zKw (zV (zJY l F));have fC:=zKw (zV (zK2 F));have iA:=(zWA (zV (zGm F))).isSl;have iB:=(zWA (zV (zJY l F))).isSl;have iC:=(zWA (zV (zK2 F))).isSl
   have mA:∀s∈zV (zGm F),∃x∈c.ls,w7 c s=some x∧x.name=s∧s.length≤1048576:=fun s hs=>hsm.1 s (zl.1 hs);have mB:∀s∈zV (zJY l F),s.length≤1048576:=fun s hs=>hsm.2.1 s (zl.1 hs);have mC:∀s∈zV (zK2 F),s.length≤1048576:=fun s hs=>hsm.2.2 s (zl.1 hs);have hmk:mkN c l F= ⟨zV (zGm F),(zV (zGm F)).map (zFZ c),zV (zJY l F),zV (zK2 F)⟩:=rfl;have nS:(zV (zGm F)).length≤33554432:=by have:=zCF (zGm F);omega
   generalize zV (zGm F)=LA at *
   generalize zV (zJY l F)=LB at *
   generalize zV (zK2 F)=LC at *
   generalize fz LA=A2 at *
   generalize fz LB=B2 at *
   generalize fz LC=C2 at *
   have q14:=hS.r14;have q10:=hS.r10;have st1:zW Tryz.prog 31 (.ptr (g.next+1) 0) A2 h2=some (h2.set (g.next+1) (.row [A2, .nilsl,B,C])):=by
    rw[zh q14 zCQ (by simp) fA.2.2.2 fA.2.2.1];rfl
   have st2:zW Tryz.prog 31 (.ptr (g.next+1) 2) B2 (h2.set (g.next+1) (.row [A2, .nilsl,B,C]))=some (h2.set (g.next+1) (.row [A2, .nilsl,B2,C])):=by
    rw[zh (zF _ _ _) zCQ (by simp) fB.2.2.2 fB.2.2.1,zKf];rfl
   obtain⟨H3,hH3,r14,r10c,hH3n,hE3⟩:∃H3,h2.set (g.next+1) (.row [A2, .nilsl,B2,C2])=H3∧H3.at' (g.next+1)=some (.row [A2, .nilsl,B2,C2])∧H3.at' g.next=some (.row nl4)∧H3.next=h2.next∧Ext g H3:=⟨_,rfl,zF _ _ _,by rw[zH (by omega)];exact q10,z8 _ _ _,hS.ows.ext.set (by omega) _⟩;have st3:zW Tryz.prog 31 (.ptr (g.next+1) 3) C2 (h2.set (g.next+1) (.row [A2, .nilsl,B2,C]))=some H3:=by
    rw[zh (zF _ _ _) zCQ (by simp) fC.2.2.2 fC.2.2.1,zKf,←hH3];rfl
   have hone:=zS7 (g.next+1) (.row [A, .nilsl,B,C]);have hle:HLe (Heap.one (g.next+1) (.row [A, .nilsl,B,C])) h2:=by rw[zS8];exact q14
   have l14:=hS.l14;have l10:=hS.l10;have hlA:=yA iA;have T0:TSt g c LA A2 B2 C2 g.next (g.next+1) 0 H3:=⟨.nilsl,Own.start hE3 1,r14,r10c,by omega,by omega⟩;clear tA tB tC hS hH3 r10c hE3 hH3n n1 n2 n2' n3
   repeat' first|simp only[go_sem,mu8, *]|apply bc<;>intro hc
   refine qG (Heap.one (g.next+1) (.row [A, .nilsl,B,C])) [(0, .no,true),(1, .no,true),(3, .no,true),(4, .st,true),(6, .no,true),(7, .st,true),(2, .no,true),(9, .no,true),(5, .no,true),(8, .no,true),(10, .no,false),(11, .no,false),(12, .no,false),(13, .no,false),(14, .no,false)] (by kernel_rfl) (by kernel_rfl) hle ?_
   repeat' first|simp only[go_sem,mu8, *]|apply bc<;>intro hc|(refine zA.mono (sA _) ?_;rintro r h ⟨hq,hr⟩)|(refine zA.mono (sB _) ?_;rintro r h ⟨hq2,hr2⟩)|(refine zA.mono (sC _) ?_;rintro r h ⟨hq3,hr3⟩)
   clear sA sB sC st1 st2 st3 hone hle q14 q10;refine zD (fun i fr h=>fr 5= .iptr [a,b,e,p] 0∧fr 10= .ptr g.next 0∧fr 14= .ptr (g.next+1) 0∧fr 92=A2∧fr 93= .int .i64 (LA.length:Int)∧fr 94= .int .i64 (i:Int)∧TSt g c LA A2 B2 C2 g.next (g.next+1) i h) LA.length (by omega) ?_ ?_ ?_
   ·simp only[go_sem,mu8,true_and,and_true,Int.ofNat_zero,f5,f10,f14,T0]
   ·clear f3 f5 f10 f14 f37 f38 f39 T0 r14 l14 l10 hQz hQ hmE hmN hsm mB mC hlA;rintro i fr h3 hlt ec ew ⟨f5,f10,f14,f92,f93,f94,t,hO,u14,u10,l14,l10⟩;have a1:=yz iA hlt;obtain⟨k,hkm,hk,hkn,hkl⟩:=mA _ (List.getElem_mem hlt);clear hkn hkl;have hts:(LA.take (i+1)).map (zFZ c)=(LA.take i).map (zFZ c)++ [k.text]:=by
     rw[List.take_succ_eq_append_getElem hlt,List.map_append]
     have:zFZ c LA[i]=k.text:=by unfold zFZ;rw[hk]
     rw[List.map_cons,List.map_nil,this]
    have hfs:=hfd LA[i];unfold zBx at hfs;rw[hk] at hfs;generalize LA[i]=s at *
    have hst4:=zCT k h3 h3.next;obtain⟨G,hG,hGn,q1,hE⟩:=qx h3 (.row [.str k.name, .str k.fam, .int .i64 k.ver, .str k.text]);rw[hG] at hst4;have hOG:=hO.ext hE;have v14:G.at' (g.next+1)=some (.row [A2,t,B2,C2]):=by rw[hE.2 _ l14];exact u14
    have v10:G.at' g.next=some (.row nl4):=by rw[hE.2 _ l10];exact u10
    have hlen:((LA.take i).map (zFZ c)).length≤33554432:=by rw[List.length_map,List.length_take];omega
    obtain⟨t',h6,va,hO6,hn6,keep⟩:=hOG.app1 (P:=Tryz.prog) (t:=31) (tk:= .full) (ys:=[[.str k.text]]) zd zBq yu (by omega) (fun y hy=>by rw[List.mem_singleton.1 hy];rfl) (by simp) (by rw[wO,zJ,List.length_singleton];unfold lim;omega) (by rw[zJ,List.length_singleton];unfold lim;omega);have w14:h6.at' (g.next+1)=some (.row [A2,t,B2,C2]):=by rw[keep _ (by omega) (by rw[v14];simp)];exact v14
    have w10:h6.at' g.next=some (.row nl4):=by rw[keep _ (by omega) (by rw[v10];simp)];exact v10
    have hf6:=hO6.flat;have hst5:zW Tryz.prog 31 (.ptr (g.next+1) 1) t' h6=some (h6.set (g.next+1) (.row [A2,t',B2,C2])):=by
     rw[zh w14 zCQ (by simp) hf6.2.1 hf6.1];rfl
    have hfin:TSt g c LA A2 B2 C2 g.next (g.next+1) (i+1) (h6.set (g.next+1) (.row [A2,t',B2,C2])):=⟨t',by
     have hO7:Own g h6 1 (zt ((LA.take (i+1)).map (zFZ c))) t':=by
      rw[hts,zO7];exact hO6
     exact hO7.setK (by omega) w14 (by simp) _,zF _ _ _,by rw[zH (by omega)];exact w10,by rw[z8];omega,by rw[z8];omega⟩
    have hob:=zCq k.text;rw[hGn] at va;clear hfd hts hk hO hOG hO6 hE hG u14 u10 v10 w10 w14 keep hf6 hlt mA hkm hlen hn6 hcat hIs hIk hIy I fA fB fC
    repeat' first|simp only[go_sem,mu8, *]|apply bc<;>intro hc|(refine zA.mono (hfs _) ?_;rintro r h ⟨hq,rfl⟩)
   ·clear f3 f5 f10 f14 f37 f38 f39 T0 r14 l14 l10 hfd hsm;rintro fr h3 ec ⟨f5,f10,f14,f92,f93,f94,t,hO,u14,u10,l14,l10⟩;rw[List.take_length] at hO;have hEh:=hO.1;have hn0:zBw (mkN c l F) (.agg [A2,t,B2,C2]):=by rw[hmk];exact⟨A2,t,B2,C2,rfl,iA,hO.isSl,iB,iC⟩
    have hck:=fun h=>zV9 hn0 (by
     rw[hmk];intro s hs;obtain⟨_,_,_,_,q⟩:=mA s hs;exact q) (by
     rw[hmk];intro s hs;obtain⟨s0,h0,rfl⟩:=List.mem_map.1 hs;obtain⟨k,hkm,hk,_,_⟩:=mA s0 h0;unfold zFZ;rw[hk];exact(hIs.ls.2 k hkm).2.2) (by rw[hmk];exact mB) (by rw[hmk];exact mC) h
    have hst0:zW Tryz.prog 36 (.ptr g.next 0) (.agg nl4) h3=some (h3.set g.next (.row nl4)):=qQ u10 zBE rfl (by decide) rfl;have hft:=hO.flat;have hst6:zW Tryz.prog 36 (.ptr g.next 0) (.agg [A2,t,B2,C2]) h3=some (h3.set g.next (.row [A2,t,B2,C2])):=qQ u10 zBE rfl (by simp) (by show(A2.flat&&(t.flat&&(B2.flat&&(C2.flat&&true))))=true;rw[fA.2.2.1,hft.1,fB.2.2.1,fC.2.2.1];rfl);cases hz:(zw (mkN c l F)==0) with
    |false=>
     have hfin:=hQz (hEh.set (Nat.le_refl _) (.row nl4)) hmE (by simpa using hz);obtain⟨K,hK⟩:∃K,zw (mkN c l F)=K:=⟨_,rfl⟩;rw[hK] at hck hfin hz;clear hK hQz hQ hmE hmN hn0 hEh hO mA mB mC hmk hst6 hft fA fB fC
     repeat' first|simp only[go_sem,mu8,zF, *]|apply bc<;>intro hc|(refine zA.mono (hck _) ?_;rintro r h ⟨hq,rfl⟩)
    |true=>
     have hz0:zw (mkN c l F)=0:=by simpa using hz
     rw[hz0] at hck hmE;obtain⟨p1,p2,p3⟩:=hO.fin yW;have e:yC (.tuple [.agg [A2,t,B2,C2], .int .i64 0])= .tuple [.agg [A2,yC t,B2,C2], .int .i64 0]:=by simp only[yC,yh,fA.1,fB.1,fC.1]
     have hfin:Q (.tuple [.agg [A2,t,B2,C2], .int .i64 0]) (h3.set g.next (.row [A2,t,B2,C2])):=hQ _ _ ⟨hEh.set (Nat.le_refl _) _,by
      rw[e];exact⟨⟨zu (Nat.zero_le _) _ fA.2.1,p2,zu (Nat.zero_le _) _ fB.2.1,zu (Nat.zero_le _) _ fC.2.1,trivial⟩,trivial,trivial⟩, .agg [A2,yC t,B2,C2],by rw[e,hmE],by
      rw[hmN hmE,hmk];exact⟨_,_,_,_,rfl,iA,p3.isSl,iB,iC⟩,zu (Nat.zero_le _) _ fA.2.1,zT5 p3,zu (Nat.zero_le _) _ fB.2.1,zu (Nat.zero_le _) _ fC.2.1,trivial⟩
     clear hQz hQ hmE hmN hn0 hEh hO mA mB mC hmk hst0 hft fA fB fC e p1 p2 p3 hz hz0
     repeat' first|simp only[go_sem,mu8,zF, *]|apply bc<;>intro hc|(refine zA.mono (hck _) ?_;rintro r h ⟨hq,rfl⟩)
theorem zN1 {l : List (List UInt8)} {d : D} (hd : zX 1 (zt l) d) (hl : l.length ≤ 1048576) (g : Heap) : zA Tryz.prog 82 [d] g fun r h' => h' = g ∧ ∃ b, r = .bool b ∧ (b = true → l.length ≤ 1025) := by
  refine zA.post fun Q hQ => ?_;have hf : Q (.bool false) g := hQ _ _ ⟨rfl, _, rfl, fun q => by cases q⟩;have hfin : l.length ≤ 1025 → ∀ b, Q (.bool b) g := fun q b => hQ _ _ ⟨rfl, b, rfl, fun _ => q⟩;have hlen := yA hd;clear hQ;refine zA.of_fn (g := zZM) mix Tryz.func82 zjr rfl rfl ?_;simp only [Tryz.f82, Option.getD_some];cases h1 : decide ((l.length : Int) > 30) with
  | true =>
    cases h2 : ((l.length : Int) == 1025) with
    | false =>
      clear hfin
      repeat' first| simp only [go_sem, zU4, *]| refine bc (fun hc => ?_) fun hc => ?_
    | true =>
      have hfin := hfin (by have : (l.length : Int) = 1025 := by simpa using h2
                            omega)
      repeat' first| simp only [go_sem, zU4, *]| refine bc (fun hc => ?_) fun hc => ?_
      refine zD (fun i fr h => fr 0 = d ∧ (∃ s, fr 3 = .int .i64 s) ∧ fr 4 = .int .i64 (i : Int) ∧ h = g) l.length (by omega) ?_ ?_ ?_
      · simp only [go_sem, zU4, true_and, and_true, Int.ofNat_zero]
        exact ⟨0, rfl⟩
      · rintro i fr h hlt e1 ew ⟨f0, ⟨s, f3⟩, f4, rfl⟩
        have a1 := yz hd hlt;generalize l[i] = z at *
        have hz : ∀ h, zAd Tryz.prog 9 (.str z) h = some (.int .i64 z.length) := fun h => z7 Tryz.underlying9
        repeat' first| simp only [go_sem, zU4, *]| refine bc (fun hc => ?_) fun hc => ?_
        exact ⟨_, rfl⟩
      · rintro fr h e1 ⟨f0, ⟨s, f3⟩, f4, rfl⟩
        repeat' first| simp only [go_sem, zU4, *]| refine bc (fun hc => ?_) fun hc => ?_
  | false =>
    have hfin := hfin (by have := of_decide_eq_false h1
                          omega)
    repeat' first| simp only [go_sem, zU4, *]| refine bc (fun hc => ?_) fun hc => ?_
    refine zD (fun i fr h => fr 0 = d ∧ (∃ s, fr 3 = .int .i64 s) ∧ fr 4 = .int .i64 (i : Int) ∧ h = g) l.length (by omega) ?_ ?_ ?_
    · simp only [go_sem, zU4, true_and, and_true, Int.ofNat_zero]
      exact ⟨0, rfl⟩
    · rintro i fr h hlt e1 ew ⟨f0, ⟨s, f3⟩, f4, rfl⟩
      have a1 := yz hd hlt;generalize l[i] = z at *
      have hz : ∀ h, zAd Tryz.prog 9 (.str z) h = some (.int .i64 z.length) := fun h => z7 Tryz.underlying9
      repeat' first| simp only [go_sem, zU4, *]| refine bc (fun hc => ?_) fun hc => ?_
      exact ⟨_, rfl⟩
    · rintro fr h e1 ⟨f0, ⟨s, f3⟩, f4, rfl⟩
      repeat' first| simp only [go_sem, zU4, *]| refine bc (fun hc => ?_) fun hc => ?_
theorem zN2 {l:List Con} {ld:D} (hl:zX 8 (cons l) ld) (hn:l.length≤1048576) (hok:∀x∈l,x.Ok) (g:Heap):zA Tryz.prog 34 [ld] g fun r h'=>h'=g∧∃b,r= .bool b∧(b=true→∀x∈l,x.hs.length≤1025):=by
 refine zA.post fun Q hQ=> ?_;have hf:Q (.bool false) g:=hQ _ _ ⟨rfl,_,rfl,fun q=>by cases q⟩;have hfin:(∀j (hj:j<l.length),j<l.length→(l[j]).hs.length≤1025)→Q (.bool true) g:=fun q=>hQ _ _ ⟨rfl,_,rfl,fun _ x hx=>by
  obtain⟨j,hj,rfl⟩:=List.mem_iff_getElem.1 hx;exact q j hj hj⟩
 have hlen:=zPV hl;clear hQ;refine zA.of_fn (g:=zY7) mix Tryz.func34 zjV rfl rfl ?_;simp only[Tryz.f34,gJ];cases h1:decide ((l.length:Int)>12) with
 |true=>
  clear hfin
  repeat' first|simp only[go_sem,zWz, *]|apply bc<;>intro hc
 |false=>
  repeat' first|simp only[go_sem,zWz, *]|apply bc<;>intro hc
  refine zD (fun i fr h=>fr 0=ld∧fr 3= .int .i64 (i:Int)∧h=g∧∀j (hj:j<l.length),j<i→(l[j]).hs.length≤1025) l.length (by omega) ?_ ?_ ?_
  ·simp only[go_sem,zWz,true_and,and_true,Int.ofNat_zero];exact fun j hj h0=>by omega
  ·rintro i fr h hlt e1 ew ⟨f0,f3,rfl,hj⟩;have a1:=zNz hl hlt;have hx:=hok _ (List.getElem_mem hlt);have hsh:=fun h=>zN1 hx.sl hx.len h;have hnx:(l[i]).hs.length≤1025→∀j (hj:j<l.length),j<i+1→(l[j]).hs.length≤1025:=fun q j hj1 hj2=>by
    rcases Nat.lt_succ_iff_lt_or_eq.1 hj2 with h|rfl
    ·exact hj j hj1 h
    ·exact q
   have k0:(l[i]).cells[0]? =some (.str (l[i]).path):=rfl;have k5:(l[i]).cells[5]? =some (l[i]).hd:=rfl;obtain⟨q1,q2,_⟩:=zY hx.sl;generalize l[i]=z at *
   have hz:∀h,zAd Tryz.prog 9 (.str z.path) h=some (.int .i64 z.path.length):=fun h=>z7 Tryz.underlying9;clear hj hfin hx hok;cases c1:decide ((z.path.length:Int)>300) with
   |true=>
    clear hnx
    repeat' first|simp only[go_sem,zWz, *]|apply bc<;>intro hc
   |false=>
    repeat' first|simp only[go_sem,zWz, *]|apply bc<;>intro hc
    refine(hsh _).mono ?_;rintro r h2 ⟨hq,b,rfl,hb⟩;subst hq;cases b with
    |true=>
     have hnx:=hnx (hb rfl);clear hb
     repeat' first|simp only[go_sem,zWz, *]|apply bc<;>intro hc
     exact hnx
    |false=>
     clear hb hnx
     repeat' first|simp only[go_sem,zWz, *]|apply bc<;>intro hc
  ·rintro fr h e1 ⟨f0,f3,rfl,hj⟩;have hfin:=hfin hj;clear hj
   repeat' first|simp only[go_sem,zWz, *]|apply bc<;>intro hc
set_option maxHeartbeats 4000000 in
theorem zQc {l:List Alt} {d:D} (hd:zX 1 (yp l) d) (hl:l.length≤1048576) (hs:∀a∈l,a.Sm) (g:Heap):zA Tryz.prog 81 [d] g fun r h'=>h'=g∧∃b,r= .bool b:=by
 refine zA.post fun Q hQ=> ?_;have hfin:∀b,Q (.bool b) g:=fun b=>hQ _ _ ⟨rfl,b,rfl⟩;have hlen:=zCJ hd;clear hQ;refine zA.of_fn (g:=zZJ) mix Tryz.func81 zjk rfl rfl ?_;simp only[Tryz.f81,gJ];simp only[zBa];refine zBG (fun fr h=>fr 0=d∧h=g) ?_ ?_
 ·clear hfin
  repeat' first|simp only[go_sem,zSE, *]|apply bc<;>intro hc
 rintro fr h ⟨f0,hq⟩;subst hq;simp only[zBa];refine zBG (fun fr h'=>fr 0=d∧zbI (fr 18)∧h'=h) ?_ ?_
 ·have b0:=zbJ;clear hfin
  repeat' first|simp only[go_sem,zSE, *]|apply bc<;>intro hc
 rintro fr h2 ⟨f0,⟨b,f18⟩,hq⟩;subst hq;cases b with
 |true=>
  repeat' first|simp only[go_sem,zSE, *]|apply bc<;>intro hc
 |false=>
  repeat' first|simp only[go_sem,zSE, *]|apply bc<;>intro hc
  refine zD (fun i fr h=>fr 0=d∧(∃s,fr 3= .int .i64 s)∧fr 4= .int .i64 (i:Int)∧h=h2) l.length (by omega) ?_ ?_ ?_
  ·simp only[go_sem,zSE,true_and,and_true,Int.ofNat_zero,f0];exact⟨0,rfl⟩
  ·clear f0 f18;rintro i fr h hlt e1 ew ⟨f0,⟨s,f3⟩,f4,rfl⟩;have a1:=zDv hd hlt;have hsm:=hs _ (List.getElem_mem hlt);generalize l[i]=a at *
   obtain⟨q1,q2,_⟩:=zY hsm.sl;have hla:=wb hsm.sl;have htl:=hsm.len;simp only[zBa,go_sem]
   repeat' first|simp only[go_sem,zSE, *]|apply bc<;>intro hc
   all_goals
    refine zD (fun k fr h'=>fr 0=d∧(∃s,fr 3= .int .i64 s)∧fr 4= .int .i64 (i:Int)∧fr 5= .int .i64 (k:Int)∧h'=h) a.ts.length (by omega) ?_ ?_ ?_
    ·simp only[go_sem,zSE,true_and,and_true,Int.ofNat_zero,f0];exact⟨⟨_,f3⟩,f4⟩
    ·clear f0 f3 f4 s;rintro k fr h3 hlk e1 ew ⟨f0,⟨s,f3⟩,f4,f5,rfl⟩;have at1:=zCv hsm.sl hlk;generalize a.ts[k]=t at *
     simp only[Trm.cells] at at1;simp only[zBa,go_sem]
     repeat' first|simp only[go_sem,zSE, *]|apply bc<;>intro hc
     refine zi (by kernel_rfl) ?_
     repeat' first|simp only[go_sem,zSE, *]|apply bc<;>intro hc
     exact⟨_,rfl⟩
    ·clear f0 f3 f4 s;rintro fr h3 e1 ⟨f0,⟨s,f3⟩,f4,f5,rfl⟩
     repeat' first|simp only[go_sem,zSE, *]|apply bc<;>intro hc
     exact⟨_,rfl⟩
  ·clear f0 f18;rintro fr h e1 ⟨f0,⟨s,f3⟩,f4,rfl⟩
   repeat' first|simp only[go_sem,zSE, *]|apply bc<;>intro hc
set_option maxHeartbeats 4000000 in
theorem zIZ {y:Cho} {yd:D} (hy:zNt y yd) (hs:y.Sm) (g:Heap):zA Tryz.prog 33 [yd] g fun r h'=>h'=g∧∃b,r= .bool b:=by
 refine zA.post fun Q hQ=> ?_;have hfin:∀b,Q (.bool b) g:=fun b=>hQ _ _ ⟨rfl,b,rfl⟩;obtain⟨a,b,rfl,ha,hb⟩:=hy;have hfw:=fun h=>zQc ha hs.tl hs.ts h;have hlen:=yA hb;have hol:=hs.ol;clear hQ;refine zA.of_fn (g:=zY2) mix Tryz.func33 zjO rfl rfl ?_;simp only[Tryz.f33,gJ];simp only[zBa];refine zBG (fun fr h=>fr 1= .iptr [a,b] 0∧h=g) ?_ ?_
 ·clear hfin
  repeat' first|simp only[go_sem,zUi, *]|apply bc<;>intro hc
 rintro fr h ⟨f1,hq⟩;subst hq;simp only[zBa];refine zBG (fun fr h'=>fr 1= .iptr [a,b] 0∧zbI (fr 13)∧h'=h) ?_ ?_
 ·have b0:=zbJ;clear hfin
  repeat' first|simp only[go_sem,zUi, *]|apply bc<;>intro hc
  refine(hfw _).mono ?_;rintro r h2 ⟨hq,x,rfl⟩;subst hq;cases x with
  |true=>
   repeat' first|simp only[go_sem,zUi, *]|apply bc<;>intro hc
  |false=>
   repeat' first|simp only[go_sem,zUi, *]|apply bc<;>intro hc
 rintro fr h2 ⟨f1,⟨x,f13⟩,hq⟩;subst hq;clear hfw;cases x with
 |true=>
  repeat' first|simp only[go_sem,zUi, *]|apply bc<;>intro hc
 |false=>
  repeat' first|simp only[go_sem,zUi, *]|apply bc<;>intro hc
  refine zD (fun i fr h=>fr 1= .iptr [a,b] 0∧fr 3= .int .i64 (i:Int)∧h=h2) y.own.length (by omega) ?_ ?_ ?_
  ·simp only[go_sem,zUi,true_and,and_true,Int.ofNat_zero,f1]
  ·clear f1 f13;rintro i fr h hlt e1 ew ⟨f1,f3,rfl⟩;have a1:=yz hb hlt;generalize y.own[i]=z at *
   have hz:∀h,zAd Tryz.prog 9 (.str z) h=some (.int .i64 z.length):=fun h=>z7 Tryz.underlying9
   repeat' first|simp only[go_sem,zUi, *]|apply bc<;>intro hc
  ·clear f1 f13;rintro fr h e1 ⟨f1,f3,rfl⟩
   repeat' first|simp only[go_sem,zUi, *]|apply bc<;>intro hc
set_option maxHeartbeats 4000000 in
theorem zaS {c:Cat} {d x yd:D} (hc:wR c d) (hs:c.Sm) {fs:List Fac} (hx:zX 12 (zK1 fs) x) (hln:fs.length≤1048576) (hok:∀f∈fs,f.Ok0) {y:Cho} (hy:zNt y yd) (hys:y.Sm) {l:List Con} {ld:D} (hl:zX 8 (cons l) ld) (hn:l.length≤1048576) (hlo:∀x∈l,x.Ok) (out:List UInt8) (g:Heap):
  zA Tryz.prog 7 [d,x,yd,ld, .str out] g fun r h'=>h'=g∧∃b,r= .bool b∧(b=true→zhX fs∧∀x∈l,x.hs.length≤1025):=by
 refine zA.post fun Q hQ=> ?_;have hf:Q (.bool false) g:=hQ _ _ ⟨rfl,_,rfl,fun q=>by cases q⟩;have hfin:zhX fs→(∀x∈l,x.hs.length≤1025)→∀b,Q (.bool b) g:=fun q1 q2 b=>hQ _ _ ⟨rfl,b,rfl,fun _=>⟨q1,q2⟩⟩;have h1:=fun h=>zVt hc hs hx hln hok h;have h2:=fun h=>zIZ hy hys h;have h3:=fun h=>zN2 hl hn hlo h;have hz:∀h,zAd Tryz.prog 9 (.str out) h=some (.int .i64 out.length):=fun h=>z7 Tryz.underlying9;obtain⟨ca,cb,cc,cp,rfl,_,_,_,_⟩:=hc;obtain⟨a,b,rfl,ha,hb⟩:=hy;have hv4:ze true 4 [ca,cb,cc,cp] 0=some (.agg [ca,cb,cc,cp]):=zB rfl (by omega)
 have hv2:ze true 2 [a,b] 0=some (.agg [a,b]):=zB rfl (by omega);clear hQ;refine zA.of_fn (g:=zgk) mix Tryz.func7 ok7 rfl rfl ?_;simp only[Tryz.f7,gJ]
 repeat' first|simp only[go_sem,mu7, *]|apply bc<;>intro hc
 refine(h1 _).mono ?_;rintro r h0 ⟨hq,z,rfl,hz1⟩;subst hq;clear h1;cases z with
 |false=>
  clear hfin h2 h3 hz1
  repeat' first|simp only[go_sem,mu7, *]|apply bc<;>intro hc
 |true=>
  have hfin:=hfin (hz1 rfl);clear hz1
  repeat' first|simp only[go_sem,mu7, *]|apply bc<;>intro hc
  refine(h2 _).mono ?_;rintro r h0 ⟨hq,z,rfl⟩;subst hq;clear h2;cases z with
  |false=>
   clear hfin h3
   repeat' first|simp only[go_sem,mu7, *]|apply bc<;>intro hc
  |true=>
   repeat' first|simp only[go_sem,mu7, *]|apply bc<;>intro hc
   refine(h3 _).mono ?_;rintro r h0 ⟨hq,z,rfl,hz1⟩;subst hq;clear h3;cases z with
   |false=>
    clear hfin hz1
    repeat' first|simp only[go_sem,mu7, *]|apply bc<;>intro hc
   |true=>
    have hfin:=hfin (hz1 rfl);clear hz1
    repeat' first|simp only[go_sem,mu7, *]|apply bc<;>intro hc
end Go.V
