/- None, part 3. No condition. -/
import Derived.Test.YtmhkjfajejaniaaGreatDoorW41
import Derived.Test.YtmhkjfajejaniaaGreatDoorW38
import Derived.Test.YtmhkjfajejaniaaGreatDoorW21
import Derived.Test.YtmhkjfajejaniaaGreatDoorW34
import Derived.Test.YtmhkjfajejaniaaGreatDoorW30
import Derived.Test.YtmhkjfajejaniaaGreatDoorW31
import Derived.Test.YtmhkjfajejaniaaGreatDoorW29
set_option linter.all false
namespace Go.V
set_option maxRecDepth 100000
section
variable {c:Cat} {fs:List Fac} {y:Cho}
theorem zNZ {comp:List UInt8} {p:Fac×Int} :p∈qr fs comp↔∃u h,fs[u]? =some p.1∧wT fs u=0∧qH fs u=comp∧wT fs h=2∧qX fs h=qX fs u∧zBh fs h=p.2:=by
 unfold qr;rw[List.mem_flatMap];constructor
 ·rintro⟨f,hf,hp⟩;obtain⟨u,hu⟩:=List.mem_iff_getElem?.1 hf;unfold zAg at hp;split at hp
  ·rename_i q;simp only[Bool.and_eq_true,beq_iff_eq] at q;obtain⟨s,hs,hp⟩:=List.mem_flatMap.1 hp;obtain⟨h,hh⟩:=List.mem_iff_getElem?.1 hs;unfold zBA at hp;split at hp
   ·rename_i q2;simp only[Bool.and_eq_true,beq_iff_eq] at q2;cases List.mem_singleton.1 hp;refine⟨u,h,hu,?_,?_,?_,?_,?_⟩
    ·unfold wT;rw[hu];exact q.1
    ·unfold qH;rw[hu];exact q.2
    ·unfold wT;rw[hh];exact q2.1
    ·unfold qX;rw[hh,hu];exact q2.2
    ·unfold zBh;rw[hh]
   ·cases hp
  ·cases hp
 ·rintro⟨u,h,hu,h1,h2,h3,h4,h5⟩;refine⟨p.1,List.mem_of_getElem? hu,?_⟩;unfold zAg;have hul:h<fs.length:=zDZ h3 (by decide);have hh:fs[h]? =some fs[h]:=List.getElem?_eq_getElem hul;unfold wT at h1;unfold qH at h2;unfold wT at h3;unfold qX at h4;unfold zBh at h5;rw[hu] at h1 h2;rw[hh] at h3 h5;rw[hh,hu] at h4;rw[if_pos (by simp only[Bool.and_eq_true,beq_iff_eq];exact⟨h1,h2⟩),List.mem_flatMap];refine⟨fs[h],List.getElem_mem hul,?_⟩;unfold zBA;rw[if_pos (by simp only[Bool.and_eq_true,beq_iff_eq];exact⟨h3,h4⟩),List.mem_singleton];obtain⟨p1,p2⟩:=p;simp only at h5⊢;rw[h5]
theorem zLc {v:Due} :v∈wR c fs y↔∃i u h t n,TriP fs (alS fs y) i u h∧t∈zIT (alS fs y) i∧n∈(wV c t.a t.b (zBh fs h) (zAH fs u)).map Cla.duty∧(!(n==2)||zLQ fs u)=true∧v=(qX fs u,qH fs i,t.a,t.b,zBh fs h,zAH fs u,n):=by
 unfold wR;rw[List.mem_flatMap];constructor
 ·rintro⟨i,hi,hv⟩;have hi:=List.mem_range.1 hi;unfold zQp at hv;rw[List.getElem?_eq_getElem hi] at hv;simp only at hv;split at hv
  ·rename_i hk;obtain⟨⟨f,wy⟩,hp,hv⟩:=List.mem_flatMap.1 hv;obtain⟨u,h,hu,h1,h2,h3,h4,h5⟩:=zNZ.1 hp;obtain⟨t,ht,hv⟩:=List.mem_flatMap.1 hv;obtain⟨n,hn,hv⟩:=List.mem_flatMap.1 hv;unfold zG7 at hv;split at hv
   ·rename_i hq;have hv:=List.mem_singleton.1 hv;have hu:fs[u]? =some f:=hu;have h5:zBh fs h=wy:=h5;have e1:zAH fs u=f.rel:=by unfold zAH;rw[hu]
    have e2:zLQ fs u=f.chg:=by unfold zLQ;rw[hu]
    have e3:qX fs u=f.out:=by unfold qX;rw[hu]
    have hal:alS fs y i=some (zCx y (zCE fs i)):=by
     rw[zVE hi,if_pos hk,if_pos (decide_eq_true (by have:=List.length_pos_of_mem ht;omega))]
    refine⟨i,u,h,t,n,⟨hi,by rw[hal];rfl,h1,by rw[h2,zCH hi],h3,h4⟩,by unfold zIT;rw[hal];exact ht,by rw[h5,e1];exact hn,by rw[e2];exact hq,by rw[hv,e3,h5,e1,zCH hi]⟩
   ·cases hv
  ·cases hv
 ·rintro⟨i,u,h,t,n,T,ht,hn,hq,rfl⟩;have hi:=T.lt;refine⟨i,List.mem_range.2 hi,?_⟩;have hal:=T.al;unfold zIT at ht;rw[zVE hi] at hal ht;unfold zQp;rw[List.getElem?_eq_getElem hi];simp only;split at hal
  ·rename_i hk;rw[if_pos hk] at ht⊢;split at hal
   ·rename_i hl;rw[if_pos hl] at ht;have hul:=zDZ T.ku (by decide);have hu:fs[u]? =some fs[u]:=List.getElem?_eq_getElem hul;have e1:zAH fs u=fs[u].rel:=by unfold zAH;rw[hu]
    have e2:zLQ fs u=fs[u].chg:=by unfold zLQ;rw[hu]
    have e3:qX fs u=fs[u].out:=by unfold qX;rw[hu]
    rw[List.mem_flatMap];refine⟨(fs[u],zBh fs h),zNZ.2 ⟨u,h,hu,T.ku,by rw[T.cu,zCH hi],T.kh,T.oh,rfl⟩,?_⟩;unfold zOy;rw[List.mem_flatMap];refine⟨t,ht,?_⟩;unfold zR0;rw[List.mem_flatMap];refine⟨n,by unfold zDX;rw[←e1];exact hn,?_⟩;unfold zG7;rw[if_pos (by rw[←e2];exact hq),List.mem_singleton,e1,e3,zCH hi]
   ·cases hal
  ·cases hal
theorem zO6 {ts:List Trm} {way rel n:Int} :zNH c ts way rel n (fun _=>true)=true↔∃t∈ts,n∈(wV c t.a t.b way rel).map Cla.duty:=by
 unfold zNH;rw[List.any_eq_true];constructor
 ·rintro⟨t,ht,h⟩;unfold zbG at h;obtain⟨l,hl,h⟩:=List.any_eq_true.1 h;unfold zRs at h;exact⟨t,ht,List.mem_map.2 ⟨l,hl,by simpa using h⟩⟩
 ·rintro⟨t,ht,h⟩;obtain⟨l,hl,rfl⟩:=List.mem_map.1 h;refine⟨t,ht,?_⟩;unfold zbG;exact List.any_eq_true.2 ⟨l,hl,by simp[zRs]⟩
def zIh (L:List Due):Bool:=L.any fun v=>v.2.2.2.2.2.2==5
def zO7 (v:Due) (k:Fac):Bool:=k.kind==4&&k.comp==v.2.1&&k.duty==v.2.2.2.2.2.2
def zLd (fs:List Fac) (L:List Due):Bool:=L.any fun v=>fs.any (zO7 v)
theorem zVX {r:Nat} {l:List Nat} (hr:r<6) (h:zLl c fs (alS fs y) (zW y fs fs.length).O r l):∃v∈zDw c fs y,v.row=(r:Int):=
 ⟨⟨(r:Int),zDv (l.map fun n:Nat=>(n:Int))⟩,zLb.2 ⟨r,hr,rfl,l,h,rfl⟩,rfl⟩
theorem zQw:zIh (ofS (wR c fs y) (wR c fs y).length)=true↔∃v∈zDw c fs y,v.row=0:=by
 unfold zIh;rw[List.any_eq_true];constructor
 ·rintro⟨v,hv,h5⟩;obtain⟨i,u,h,t,n,T,ht,hn,hq,rfl⟩:=zLc.1 (zO2.1 hv);have h5:n=5:=by simpa using h5
  subst h5;have hr:zLl c fs (alS fs y) (zW y fs fs.length).O 0 [i,u,h]:=by
   simp only[zLl];exact⟨i,u,h,T,zO6.2 ⟨t,ht,hn⟩,rfl⟩
  exact zVX (by decide) hr
 ·rintro⟨v,hv,h0⟩;obtain⟨i,h6,hi,l,hr,_⟩:=zLb.1 hv
  have:i=0:=by omega
  subst this;simp only[zLl] at hr;obtain⟨i,u,h,T,hh,_⟩:=hr;obtain⟨t,ht,hn⟩:=zO6.1 hh;exact⟨_,zO2.2 (zLc.2 ⟨i,u,h,t,5,T,ht,hn,rfl,rfl⟩),rfl⟩
theorem zSA {num:Int} {lx:D} (hh:(vcs (zDw c fs y)).head?.getD zLV= [.int .i64 num,lx]):zIh (ofS (wR c fs y) (wR c fs y).length)=((vcs (zDw c fs y)).head?.isSome&&num==0):=by
 have key:=zQw (c:=c) (fs:=fs) (y:=y);have hinc:=zVT (c:=c) (fs:=fs) (y:=y);have hrow:∀v∈zDw c fs y,0≤v.row:=fun v hv=>by
  obtain⟨i,_,hi,_⟩:=zLb.1 hv;omega
 rw[Bool.eq_iff_iff,key];cases hX:zDw c fs y with
 |nil=>simp[vcs]
 |cons v0 rest=>
  rw[hX] at hh hinc hrow;have e:num=v0.row:=by
   have hh:v0.cells= [.int .i64 num,lx]:=hh;unfold Vio.cells at hh;injection hh with h1 _;injection h1 with _ h2;exact h2.symm
  have hs:(vcs (v0::rest)).head?.isSome=true:=rfl;rw[hs,Bool.true_and,beq_iff_eq,e];constructor
  ·rintro⟨v,hv,h0⟩;rcases List.mem_cons.1 hv with rfl|hv
   ·exact h0
   ·have h1:=(List.pairwise_cons.1 hinc).1 v hv;have h2:=hrow v0 (by simp);by_cases q:v0.row=0
    ·exact q
    ·have h3:=zQs (a:=v) (b:=v0) (by omega);have h4:=zbi.anti v v0;omega
  ·intro h0;exact⟨v0,by simp,h0⟩
theorem zSB (hX:zDw c fs y= []):zIh (ofS (wR c fs y) (wR c fs y).length)=false∧zLd fs (ofS (wR c fs y) (wR c fs y).length)=false:=by
 constructor
 ·rw[Bool.eq_false_iff];intro h;obtain⟨v,hv,_⟩:=zQw.1 h;rw[hX] at hv;cases hv
 ·rw[Bool.eq_false_iff];intro h;unfold zLd at h;obtain⟨v,hv,h⟩:=List.any_eq_true.1 h;obtain⟨k,hk,h⟩:=List.any_eq_true.1 h;obtain⟨i,u,g,t,n,T,ht,hn,hq,rfl⟩:=zLc.1 (zO2.1 hv);obtain⟨j,hj⟩:=List.mem_iff_getElem?.1 hk;unfold zO7 at h;simp only[Bool.and_eq_true,beq_iff_eq] at h;obtain⟨⟨k1,k2⟩,k3⟩:=h;have e1:wT fs j=4:=by unfold wT;rw[hj];exact k1
  have e2:qH fs j=qH fs i:=by
   have:qH fs j=k.comp:=by unfold qH;rw[hj]
   rw[this];exact k2
  have e3:zGS fs j=n:=by unfold zGS;rw[hj];exact k3
  have hr:zLl c fs (alS fs y) (zW y fs fs.length).O 2 [i,u,g,j]:=by
   simp only[zLl];refine⟨i,u,g,j,T,e1,e2,?_,rfl⟩;rw[e3,hq,Bool.true_and];exact zO6.2 ⟨t,ht,hn⟩
  obtain⟨v,hv,_⟩:=zVX (by decide) hr;rw[hX] at hv;cases hv
end
open Go.Proofs
set_option maxHeartbeats 2000000 in
theorem zSC:∀ (n:Nat) {e:Ex},e.size≤n→e.Ok→e.size≤1048576→∀g:Heap,zA Tryz.prog 35 [.agg e.cells] g fun r h'=>h'=g∧r= .int .i64 (e.size:Int):=by
 intro n
 induction n with
 |zero=>intro e h;cases e;simp only[Ex.size] at h;omega
 |succ n ih=>
 intro e hn hok hsz g;obtain⟨k,nm,x,l,d⟩:=e;simp only[Ex.size,Ex.Ok] at hn hok hsz;obtain⟨hd,hl,_,_,hks⟩:=hok;have hlen:=zDK hd;have hv4:∀a b c e:D,zO true 4 [a,b,c,e] 0=some (.agg [a,b,c,e]):=fun a b c e=>zB rfl (by omega);have hR:(Ex.mk k nm x l d).size=zp l+1:=by simp only[Ex.size]
 rw[hR];clear hR;refine zA.of_fn (g:=zaB) mix Tryz.func35 zlT rfl rfl ?_;simp only[Tryz.f35,gJ];simp only[Ex.cells,Ex.kind,Ex.name,Ex.exc,Ex.d]
 repeat' first|simp only[go_sem,zga, *]|apply bc<;>intro hc
 refine zG (fun i fr h=>fr 1= .iptr [.int .i64 k, .str nm, .str x,d] 0∧fr 4= .int .i64 (i:Int)∧fr 3= .int .i64 ((zp (l.take i)+1:Nat):Int)∧h=g) l.length (by omega) ?_ ?_ ?_
 ·have hz:zp (l.take 0)+1=1:=by simp[zp]
  simp only[go_sem,zga,true_and,and_true,Int.ofNat_zero,hz];rfl
 ·rintro i fr h hlt ec ew ⟨f1,f4,f3,rfl⟩;have a1:=zJn hd hlt;have hm:l[i]∈l:=List.getElem_mem hlt;have hq:=ih (e:=l[i]) (by have:=zAD hm;omega) (zDJ hks _ hm) (by have:=zAD hm;omega);have htk:zp (l.take (i+1))=zp (l.take i)+l[i].size:=by rw[List.take_succ_eq_append_getElem hlt,zFu]
  have hle:zp (l.take (i+1))≤zp l:=by
   have:=List.take_append_drop (i+1) l;have key:∀a b:List Ex,zp a≤zp (a++b):=fun a b=>by
    induction a with
    |nil=>simp[zp]
    |cons x a ih=>simp only[List.cons_append,zp];omega
   have h2:=key (l.take (i+1)) (l.drop (i+1));rw[this] at h2;exact h2
  have hadd:IntKind.i64.wrap (((zp (l.take i)+1:Nat):Int)+(l[i].size:Int))=((zp (l.take (i+1))+1:Nat):Int):=by rw[htk,zZ (by omega) (by omega)];omega
  simp only[Ex.cells] at a1 hq;clear ih hd hm htk hle
  repeat' first|simp only[go_sem,zga, *]|apply bc<;>intro hc|(refine zA.mono (hq _) ?_;rintro r h ⟨hq2,rfl⟩)
 ·rintro fr h ec ⟨f1,f4,f3,rfl⟩;rw[List.take_length] at f3;clear ih
  repeat' first|simp only[go_sem,zga, *]|apply bc<;>intro hc
set_option maxHeartbeats 4000000 in
theorem zSD {c:Cat} {d x:D} (hc:qW c d) (hs:c.Sm) {fs:List Fac} (hx:zf 12 (zFC fs) x) (hl:fs.length≤1048576) (hok:∀f∈fs,f.Ok0) (g:Heap):zA Tryz.prog 9 [d,x] g fun r h'=>h'=g∧∃b,r= .bool b∧(b=true→zg5 fs):=by
 refine zA.post fun Q hQ=> ?_;have hf:Q (.bool false) g:=hQ _ _ ⟨rfl,_,rfl,fun q=>by cases q⟩;have hfin:zg5 fs→∀b,Q (.bool b) g:=fun hv b=>hQ _ _ ⟨rfl,b,rfl,fun _=>hv⟩;have hlx:=zAi hx;have hfc:=zXC hc hs hx hl hok;have hcs:=hs.cs;obtain⟨ca,cb,ce,cp,rfl,_,_,he,_⟩:=hc;have hv4:∀a b c e:D,zO true 4 [a,b,c,e] 0=some (.agg [a,b,c,e]):=fun a b c e=>zB rfl (by omega);have h47:=zG4;have l3:=zBn he;have s3:=hcs.1;have hI:=isI;clear hQ hs;refine zA.of_fn (g:=zhd) mix Tryz.func9 ok9 rfl rfl ?_;simp only[Tryz.f9,gJ]
 repeat' first|simp only[go_sem,mu9, *]|apply bc<;>intro hc
 refine(hfc _).mono ?_;rintro r h ⟨hq,b,rfl,hb⟩;subst hq;clear hfc;cases b with
 |false=>
  clear hfin hb hcs hok
  repeat' first|simp only[go_sem,mu9, *]|apply bc<;>intro hc
 |true=>
 have hF:=hb rfl;have hfin:=hfin hF;clear hf hb
 repeat' first|simp only[go_sem,mu9, *]|apply bc<;>intro hc
 refine zG (fun i fr h'=>fr 1=x∧fr 2= .iptr [ca,cb,ce,cp] 0∧fr 7= .int .i64 (i:Int)∧IsI (fr 5)∧IsI (fr 6)∧h'=h) c.cs.length (by omega) ?_ ?_ ?_
 ·simp only[go_sem,mu9,true_and,and_true,Int.ofNat_zero,isI]
 ·rintro i fr h hlt ec ew ⟨f1,f2,f7,⟨n5,f5⟩,⟨n6,f6⟩,hq⟩;subst hq;have a1:=zCf he hlt;have o1:=yw (hcs.2 _ (List.getElem_mem hlt)).1;generalize c.cs[i]=y at *
  simp only[Cla.cells] at a1;clear hfin hok hcs
  repeat' first|simp only[go_sem,mu9, *]|apply bc<;>intro hc
 rintro fr h ec ⟨f1,f2,f7,⟨n5,f5⟩,⟨n6,f6⟩,hq⟩;subst hq;clear hcs
 repeat' first|simp only[go_sem,mu9, *]|apply bc<;>intro hc
 clear f7 ec;refine zG (fun i fr h'=>fr 1=x∧fr 8= .int .i64 (i:Int)∧IsI (fr 5)∧IsI (fr 6)∧h'=h) fs.length (by omega) ?_ ?_ ?_
 ·simp only[go_sem,mu9,true_and,and_true,Int.ofNat_zero,isI,f1,f5,f6]
 ·clear f1 f2 f5 f6 n5 n6;rintro i fr h hlt ec ew ⟨f1,f8,⟨n5,f5⟩,⟨n6,f6⟩,hq⟩;subst hq;have a1:=yy hx hlt;have hm:=List.getElem_mem hlt;have hN:=zSC _ (Nat.le_refl _) (hok _ hm).e (by have:=hF.2 _ hm;omega);generalize fs[i]=f at *
  simp only[Fac.cells] at a1;simp only[Ex.cells] at hN;clear hfin hok hm hF
  repeat' first|simp only[go_sem,mu9, *]|apply bc<;>intro hc|(refine zA.mono (hN _) ?_;rintro r h ⟨hq2,rfl⟩)
 ·clear f1 f2 f5 f6 n5 n6;rintro fr h ec ⟨f1,f8,⟨n5,f5⟩,⟨n6,f6⟩,hq⟩;subst hq;clear hok hF
  repeat' first|simp only[go_sem,mu9, *]|apply bc<;>intro hc
theorem zbm {n:Nat} (hn:n≤65535):we Tryz.prog 30 3 (.int .u16 (n:Int))=some (.int .i64 (n:Int)):=by
 simp only[we,Tryz.underlying30,Tryz.underlying3];rw[zZ (by omega) (by omega)]
theorem zf3 {l:List (List Trm)} :∀a∈l.map mkA,a.d.cells= [a.d]∧a.d.notTuple=true∧a.d.flat=true∧yr [a.d]:=fun a ha=>by
 obtain⟨t,_,rfl⟩:=List.mem_map.1 ha;exact⟨rfl,rfl,rfl,zIJ t⟩
theorem zLe {l:List Fac} {d:D} (hd:zf 12 (zFC l) d) (hl:l.length≤1048576) {f:FuncId} {cap:List D} {p:Fac→Bool} {g:Heap} (hp:∀s∈l,zA Tryz.prog f ([]++ [.agg s.cells]++cap) g fun r h'=>h'=g∧r= .bool (p s)):
  zA Tryz.prog 52 [d, .fn (.func f) [] cap] g fun r h'=>h'=g∧r= .int .i64 (zLi p l):=by
 have hlen:=zAi hd;refine zA.of_fn (g:=zZ8) mix Tryz.func52 zlO rfl rfl ?_;simp only[Tryz.f52,gJ]
 repeat' first|simp only[go_sem,zdl, *]|apply bc<;>intro hc
 refine zG (fun i fr h=>fr 1= .fn (.func f) [] cap∧fr 0=d∧fr 6=d∧fr 7= .int .i64 (l.length:Int)∧fr 8= .int .i64 (i:Int)∧h=g∧∀j (hj:j<l.length),j<i→p l[j]=false) l.length (by omega) ?_ ?_ ?_
 ·simp only[go_sem,zdl,true_and,and_true,Int.ofNat_zero];exact fun j hj h0=>by omega
 ·rintro i fr h hlt e1 ew ⟨f1,f0,f6,f7,f8,rfl,hj⟩;have a1:=yy hd hlt;have hq:=hp _ (List.getElem_mem hlt);simp only[List.nil_append,List.cons_append] at hq;have hv12:zO true 12 l[i].cells 0=some (.agg l[i].cells):=zB rfl (by omega);cases hb:p l[i] with
  |true=>
   have hx:=zCd hlt hj hb;rw[hb] at hq;clear hj hp hd
   repeat' first|simp only[go_sem,zdl, *]|apply bc<;>intro hc|(refine zA.mono hq ?_;rintro r h ⟨rfl,rfl⟩)
  |false=>
   have hn:=yi (p:=p) hlt hj hb;rw[hb] at hq;clear hj hp hd
   repeat' first|simp only[go_sem,zdl, *]|apply bc<;>intro hc|(refine zA.mono hq ?_;rintro r h ⟨rfl,rfl⟩)
   exact hn
 ·rintro fr h e1 ⟨f1,f0,f6,f7,f8,rfl,hj⟩;have hx:=zCe (p:=p) fun j hj'=>hj j hj' hj';clear hj hp hd
  repeat' first|simp only[go_sem,zdl, *]|apply bc<;>intro hc
theorem zGj {l:List Fac} {d:D} (hd:zf 12 (zFC l) d) (hl:l.length≤1048576) {f:FuncId} {cap:List D} {p:Fac→Bool} {g:Heap} (hp:∀s∈l,zA Tryz.prog f ([]++ [.agg s.cells]++cap) g fun r h'=>h'=g∧r= .bool (p s)):
  zA Tryz.prog 31 [d, .fn (.func f) [] cap] g fun r h'=>h'=g∧r= .bool (l.any p):=by
 have hix:=zLe hd hl hp;have hge:=zDG (l:=l) (p:=p);refine zA.of_fn (g:=zaK) mix Tryz.func31 zli rfl rfl ?_;simp only[Tryz.f31,gJ]
 repeat' first|simp only[go_sem,zlh, *]|apply bc<;>intro hc|(refine zA.mono hix ?_;rintro r h ⟨rfl,rfl⟩)
theorem zVY {v:Due} {k:Fac} {id:Nat} {h:Heap} (hr:h.at' id=some (.row (zCy v))):zA Tryz.prog 32 ([]++ [.agg k.cells]++ [.ptr id 0]) h fun r h'=>h'=h∧r= .bool (zO7 v k):=by
 have k0:k.cells[0]? =some (.int .i64 k.kind):=rfl;have k1:k.cells[1]? =some (.str k.comp):=rfl;have k5:k.cells[5]? =some (.int .i64 k.duty):=rfl;have v1:(zCy v)[1]? =some (.str v.2.1):=rfl;have v6:(zCy v)[6]? =some (.int .i64 v.2.2.2.2.2.2):=rfl;have hl:zO7 v k=(k.kind==4&&k.comp==v.2.1&&k.duty==v.2.2.2.2.2.2):=rfl;rw[hl];clear hl;show zA _ _ [.agg k.cells, .ptr id 0] _ _;generalize k.cells=kc at *
 generalize zCy v=vc at *
 refine zA.of_fn (g:=zaP) mix Tryz.func32 zls rfl rfl ?_;simp only[Tryz.f32,gJ]
 repeat' first|simp only[go_sem,zlr, *]|apply bc<;>intro hc
theorem zSE {L:List Due} {i:Nat} (h:i<L.length):zIh (L.take (i+1))=(zIh (L.take i)||(L[i]).2.2.2.2.2.2==5):=by
 unfold zIh;rw[List.take_succ_eq_append_getElem h,List.any_append];simp
theorem zSF {fs:List Fac} {L:List Due} {i:Nat} (h:i<L.length):zLd fs (L.take (i+1))=(zLd fs (L.take i)||fs.any (zO7 L[i])):=by
 unfold zLd;rw[List.take_succ_eq_append_getElem h,List.any_append];simp
set_option maxHeartbeats 8000000 in
theorem zI4 {c:Cat} {d x:D} (hc:qW c d) (hs:c.Sm) {fs:List Fac} (hx:zf 12 (zFC fs) x) (hl:fs.length≤1048576) (hok:∀f∈fs,f.Ok0) {n:Nat} (hn:n≤65535) (g:Heap):zA Tryz.prog 7 [d,x, .int .u16 (n:Int)] g fun r _=>r= .bool true:=by
 refine zA.post fun Q hQ=> ?_;have hT:∀h,Q (.bool true) h:=fun h=>hQ _ _ rfl;have haw:=zGe;have hsh:=zSD hc hs hx hl hok;have hc0:=hc;obtain⟨ca,cb,ce,cp,rfl,_,_,_,_⟩:=hc0;have hv4:∀a b c e:D,zO true 4 [a,b,c,e] 0=some (.agg [a,b,c,e]):=fun a b c e=>zB rfl (by omega);have hv2:∀a b:D,zO true 2 [a,b] 0=some (.agg [a,b]):=fun a b=>zB rfl (by omega);have hcv:=zbm hn;clear hQ;refine zA.of_fn (g:=zif) mix Tryz.func7 ok7 rfl rfl ?_;simp only[Tryz.f7,gJ]
 repeat' first|simp only[go_sem,mu7, *]|apply bc<;>intro hc|(refine zA.mono (haw _) ?_;rintro r h ⟨rfl,hq⟩)
 refine(hsh _).mono ?_;rintro r h ⟨hq,b,rfl,hF⟩;subst hq;clear haw hsh;cases b with
 |false=>
  clear hF
  repeat' first|simp only[go_sem,mu7, *]|apply bc<;>intro hc
 |true=>
 have hF:=hF rfl;have hok1:∀f∈fs,f.Ok:=fun f hf=>(hok f hf).ok (hF.2 f hf);have hct:=zbE hc hs hx (by have:=hF.1.2;omega) hok1;unfold zNE at hct;cases e0:(wv c fs==0) with
 |false=>
  rw[if_neg (by rw[e0];exact Bool.false_ne_true)] at hct
  repeat' first|simp only[go_sem,mu7, *]|apply bc<;>intro hc|(refine zA.mono (hct _) ?_;rintro r h ⟨hq,rfl⟩)
 |true=>
 rw[if_pos e0] at hct;cases m0:((zLM c fs:Int)==0) with
 |true=>
  repeat' first|simp only[go_sem,mu7, *]|apply bc<;>intro hc|(refine zA.mono (hct _) ?_;rintro r h ⟨hq,rfl⟩)
 |false=>
 have hrem:=zbj (n:=n) m0;have hk:=zVV e0 m0 n;have hnt:=zjS hc hs hx (by have:=hF.1.2;omega) hok1 ((n%zLM c fs:Nat):Int);rw[hk] at hnt;obtain⟨k,hkk⟩:∃k,n%zLM c fs=k:=⟨_,rfl⟩;rw[hkk] at hk hnt hrem
 repeat' first|simp only[go_sem,mu7, *]|apply bc<;>intro hc|(refine zA.mono (hct _) ?_;rintro r h ⟨hq,rfl⟩)
 subst hq;clear hct;have hle:∀h,HLe Heap.emp h:=fun h i ob e=>by cases e
 refine zCX (fun fr h=>∃td od n1 y,fr 1=x∧fr 3= .iptr [ca,cb,ce,cp] 0∧fr 8= .int .i64 0∧fr 9= .ptr n1 0∧h.at' n1=some (.row [td,od])∧n1<h.next∧CIn c fs y (.agg [ca,cb,ce,cp]) x (.agg [td,od])∧zi c fs y false=0) ?_ ?_
 ·refine zx Heap.emp [(0, .st,true),(1, .no,true),(2, .no,true),(3, .no,true),(4, .no,true),(5, .no,true),(6, .st,true),(7, .no,true),(8, .no,true),(9, .no,true),(10, .no,true),(11, .no,true),(12, .no,true)] (by kernel_rfl) (by kernel_rfl) (hle _) ?_
  repeat' first|simp only[go_sem,mu7, *]|apply bc<;>intro hc
  obtain⟨td,htd⟩:∃td,nd 1 (yO ((zXQ c fs ((k:Nat):Int).toNat).map mkA))=td:=⟨_,rfl⟩;obtain⟨od,hod⟩:∃od,nd 1 (yW (zXR c fs ((k:Nat):Int).toNat))=od:=⟨_,rfl⟩;have F1:zf 1 (yO ((zXQ c fs ((k:Nat):Int).toNat).map mkA)) td:=by rw[←htd];exact zVW
  have F2:zf 1 (yW (zXR c fs ((k:Nat):Int).toNat)) od:=by rw[←hod];exact zVW
  refine zad (.tuple [.agg [td,od], .int .i64 0]) (fun H=>(hnt H).mono fun r h2 hr=>by
   obtain⟨hq,td',od',rfl,hok2,_⟩:=hr;obtain⟨G1,G2⟩:=hok2 rfl;exact⟨hq,by rw[G1.det,G2.det,htd,hod]⟩) ?_
  have I:=zbl hc hs hx hF hok1 hk F1 F2;have e1:=zR9 hk;have hvo:=(zYz hk).1;obtain⟨y,hy⟩:∃y,zG8 c fs ((k:Nat):Int).toNat=y:=⟨_,rfl⟩;have htp:∀a∈(zG8 c fs ((k:Nat):Int).toNat).ts,a.d.cells= [a.d]∧a.d.notTuple=true∧a.d.flat=true∧yr [a.d]:=zf3;have F1:zf 1 (yO (zG8 c fs ((k:Nat):Int).toNat).ts) td:=F1;have F2:zf 1 (yW (zG8 c fs ((k:Nat):Int).toNat).own) od:=F2;rw[hy] at I e1 htp F1 F2;have W:=zNY.1 e1;have h16:=I.n16 e1
  have hst:zQ Tryz.prog 42 (.ptr h.next 0) (.agg [td,od]) (h.new h.next (.row [.nilsl, .nilsl]))=some (h.new h.next (.row [td,od])):=zU zPV (by omega) rfl rfl (by show(td.flat&&(od.flat&&true))=true;rw[(zM F1).2.2,(zM F2).2.2];rfl);obtain⟨G,hG,hGr,hGn⟩:∃G,h.new h.next (.row [td,od])=G∧G.at' h.next=some (.row [td,od])∧h.next<G.next:=⟨_,rfl,zJ _ _ _,by rw[zD];omega⟩;rw[hG] at hst;generalize h.next=n1 at *
  have hfin:∃td od n1_1 y,D.ptr n1 0=D.ptr n1_1 0∧G.at' n1_1=some (.row [td,od])∧n1_1<G.next∧CIn c fs y (.agg [ca,cb,ce,cp]) x (.agg [td,od])∧zi c fs y false=0:=⟨td,od,n1,y,rfl,hGr,hGn,I,e1⟩;clear htd hod hnt hy hk hrem hkk hG e0 m0 hc hs I e1 hvo F1 F2 htp hGr hGn W
  repeat' first|simp only[go_sem,mu7, *]|apply bc<;>intro hc
 rintro fr h ⟨td,od,n1,y,f1,f3,f8,f9,hGr,hGn,I,e1⟩;clear hnt hk hrem hkk e0 m0;have e2:=zNX e1;have hof:=zbd I;rw[e2] at hof;have hco:=zLX I;have hfi:=zR7 I;unfold zId at hfi;rw[e2] at hfi;unfold zIe at hco;rw[e1] at hco;simp only[beq_self_eq_true,Bool.not_true,Bool.false_eq_true,if_false] at hfi hco;rw[zNT] at hfi hco;obtain⟨num,lx,hh,_,hlf,_⟩:=zbh (c:=c) (fs:=fs) (y:=y);rw[zNT] at hh;rw[hh] at hfi;have hff:=zSA hh;have hno:(vcs (zDw c fs y)).head?.isSome=false→zDw c fs y= []:=fun h=>by
  cases q:zDw c fs y with
  |nil=>rfl
  |cons v r=>rw[q] at h;cases h
 have hnw:=fun h=>zSB (hno h);obtain⟨sm,hsm⟩:∃b,(vcs (zDw c fs y)).head?.isSome=b:=⟨_,rfl⟩;rw[hsm] at hfi hco hff hnw;obtain⟨L,hL⟩:∃L,ofS (wR c fs y) (wR c fs y).length=L:=⟨_,rfl⟩;rw[hL] at hff hnw hof;have hLl:L.length≤33554432:=by
  have h1:=zO1 (wR c fs y) (wR c fs y).length;have W:=zNY.1 e1;have h2:=zNP (c:=c) (fs:=fs) (y:=y) (m:=64) (I.n16 e1) (fun a ha=>by
   obtain⟨i,hi⟩:=List.mem_iff_getElem?.1 ha;obtain⟨hi1,rfl⟩:=List.getElem?_eq_some_iff.1 hi;have hf:i<(zIk fs).length:=by rw[←W.tl];exact hi1
   have hm:=W.ts i hi1 _ (List.getElem?_eq_getElem hf);have hlf:=List.mem_filter.1 (List.getElem_mem hf);have ho:=W.of _ hlf.1 (by simpa using hlf.2);exact((zYu (by rw[ho];rfl)).2.ts _ hm).2) (by
   have:=W.cat;unfold wb at this;split at this
   ·exact absurd this (by decide)
   ·rename_i q;unfold Cat.big at q;simp only[Bool.or_eq_true,decide_eq_true_eq,not_or] at q;omega)
  rw[←hL];omega
 clear hno hsm hL hh I e1 e2
 repeat' first|simp only[go_sem,mu7, *]|apply bc<;>intro hc
 refine(hof _).mono ?_;rintro r h ⟨hq,l,rfl,hl2⟩;subst hq;have hls:=(hl2 rfl).isSl;clear hof hl2
 repeat' first|simp only[go_sem,mu7, *]|apply bc<;>intro hc
 obtain⟨wr,hwr⟩:∃b,zLd fs L=b:=⟨_,rfl⟩;obtain⟨fb,hfb⟩:∃b,zIh L=b:=⟨_,rfl⟩;have hll:∀h,zCr Tryz.prog 75 l h=some (.int .i64 (L.length:Int)):=fun h=>by rw[yo hls Tryz.underlying75,List.length_map]
 have hst2:zQ Tryz.prog 33 (.ptr h.next 0) (.agg [.int .i64 num,lx]) (h.new h.next (.row [.int .i64 0, .nilsl]))=some (h.new h.next (.row [.int .i64 num,lx])):=zU zAB (by omega) rfl rfl (by show(true&&(lx.flat&&true))=true;rw[hlf];rfl);obtain⟨n2,hn2⟩:∃n,h.next=n:=⟨_,rfl⟩;rw[hn2] at hst2 hGn;obtain⟨G2,hG2,r2,hn3⟩:∃G2,h.new n2 (.row [.int .i64 num,lx])=G2∧G2.at' n2=some (.row [.int .i64 num,lx])∧n2<G2.next:=⟨_,rfl,zJ _ _ _,by rw[←hn2,zD];omega⟩;rw[hG2] at hst2;have hwz:IntKind.i64.wrap ((0:Int)+0)=0:=rfl;have hEnd:PLift ((sm=false→fb=false∧wr=false)∧(sm=true→fb=(num==0))):=⟨fun h=>by
  rw[←hfb,←hwr];exact hnw h,fun h=>by
  rw[←hfb,hff,h];rfl⟩
 have t0:zLd fs (L.take 0)=false:=rfl;have t1:zIh (L.take 0)=false:=rfl;clear hff hnw
 repeat' first|simp only[go_sem,mu7, *]|apply bc<;>intro hc|(refine zA.mono (hco _) ?_;rintro r h ⟨hq,rfl⟩)|(refine zA.mono (hfi _) ?_;rintro r h ⟨hq2,rfl⟩)
 refine zG (fun i fr h'=>fr 1=x∧fr 12= .bool (!sm)∧fr 14= .ptr n2 0∧fr 15= .bool sm∧fr 17= .bool (zLd fs (L.take i))∧fr 18= .bool (zIh (L.take i))∧fr 79=l∧fr 80= .int .i64 (L.length:Int)∧fr 81= .int .i64 (i:Int)∧h'.at' n2=some (.row [.int .i64 num,lx])∧n2<h'.next) L.length (by omega) ?_ ?_ ?_
 ·simp only[go_sem,mu7,true_and,and_true,Int.ofNat_zero,f1,t0,t1,r2,hn3]
 ·clear f1 f3 f8 f9 r2 hn3 t0 t1 hEnd hwr hfb hst2 hGn hn2 hll hco hfi;rintro i fr2 h3 hlt ec ew ⟨g1,g12,g14,g15,g17,g18,g79,g80,g81,hr2,hnx⟩;have a1:zT Tryz.prog 75 l (.int .i64 (i:Int))=some (.iptr (zCy L[i]) 0):=zY hls zKg zJX (by simp[hlt]);have hfs:=zSE hlt;have hlk:=zSF (fs:=fs) hlt;generalize L[i]=v at *
  have hvD:zO true 7 (zCy v) 0=some (.agg (zCy v)):=zB rfl (by omega);have v6:(zCy v)[6]? =some (.int .i64 v.2.2.2.2.2.2):=rfl;have hst3:zQ Tryz.prog 81 (.ptr h3.next 0) (.agg (zCy v)) (h3.new h3.next (.row [.str [], .str [], .str [], .str [], .int .i64 0, .int .i64 0, .int .i64 0]))=some (h3.new h3.next (.row (zCy v))):=zU zJX (by omega) rfl rfl rfl;obtain⟨G3,hG3,hG3n,q1,hE3⟩:=zDW h3 (.row (zCy v));rw[hG3] at hst3;have q2:G3.at' n2=some (.row [.int .i64 num,lx]):=by rw[hE3.2 _ hnx];exact hr2
  have q3:n2<h3.next+1:=by omega
  have hcf:=zGj hx hl (f:=32) (cap:=[.ptr h3.next 0]) (p:=zO7 v) (g:=G3) fun k hk=>zVY q1;obtain⟨b1,hb1⟩:∃b,zIh (L.take i)=b:=⟨_,rfl⟩;obtain⟨b2,hb2⟩:∃b,zLd fs (L.take i)=b:=⟨_,rfl⟩;obtain⟨b3,hb3⟩:∃b,fs.any (zO7 v)=b:=⟨_,rfl⟩;obtain⟨b4,hb4⟩:∃b,(v.2.2.2.2.2.2==5)=b:=⟨_,rfl⟩;rw[hb1] at g18 hfs;rw[hb2] at g17 hlk;rw[hb3] at hcf hlk;rw[hb4] at hfs;clear hb1 hb2 hb3 hls hx hl hlt hLl hE3 hG3 hr2 hnx hc hs hok hok1 hF hlf;cases b1 with
  |false=>
   cases b2 with
   |false=>
    repeat' first|simp only[go_sem,mu7, *]|apply bc<;>intro hc|(refine zA.mono hcf ?_;rintro r h ⟨hq,rfl⟩)
   |true=>
    repeat' first|simp only[go_sem,mu7, *]|apply bc<;>intro hc|(refine zA.mono hcf ?_;rintro r h ⟨hq,rfl⟩)
  |true=>
   cases b2 with
   |false=>
    repeat' first|simp only[go_sem,mu7, *]|apply bc<;>intro hc|(refine zA.mono hcf ?_;rintro r h ⟨hq,rfl⟩)
   |true=>
    repeat' first|simp only[go_sem,mu7, *]|apply bc<;>intro hc|(refine zA.mono hcf ?_;rintro r h ⟨hq,rfl⟩)
 ·clear f1 f3 f8 f9 r2 hn3 t0 t1 hst2 hGn hn2 hll hco hfi;rintro fr2 h3 ec ⟨g1,g12,g14,g15,g17,g18,g79,g80,g81,hr2,hnx⟩;rw[List.take_length] at g17 g18;rw[hwr] at g17;rw[hfb] at g18;obtain⟨⟨e1,e2⟩⟩:=hEnd;cases sm with
  |false=>
   obtain⟨rfl,rfl⟩:=e1 rfl;have hB2:eqB false false=true:=rfl;clear e1 e2 hwr hfb
   repeat' first|simp only[go_sem,mu7, *]|apply bc<;>intro hc
  |true=>
   have e3:=e2 rfl;obtain⟨X,hX⟩:∃X,(num==0)=X:=⟨_,rfl⟩;rw[hX] at e3;subst e3;have hXX:eqB fb fb=true:=by cases fb<;>rfl
   clear e1 e2 hwr hfb
   repeat' first|simp only[go_sem,mu7, *]|apply bc<;>intro hc
end Go.V
