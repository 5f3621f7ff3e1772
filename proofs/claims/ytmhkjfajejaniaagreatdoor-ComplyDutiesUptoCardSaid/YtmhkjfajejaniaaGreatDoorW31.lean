/- Rules of the machine of abstract values, part 7. No condition. -/
import Derived.Test.YtmhkjfajejaniaaGreatDoorW30
import Derived.Test.YtmhkjfajejaniaaGreatDoorW23
set_option linter.all false
namespace Go.V
theorem zEN (h:Heap) (i:Nat) (o o':Obj):(h.set i o).set i o'=h.set i o':=by
 unfold Heap.set;simp only[Heap.mk.injEq,true_and]
 funext j
 by_cases e:j=i<;>simp[e]
theorem zA.post {P:Program} {f:FuncId} {args:List D} {h:Heap} {R:D→Heap→Prop} (H:∀Q:D→Heap→Prop,(∀r h',R r h'→Q r h')→zA P f args h Q):zA P f args h R:=H R fun _ _ x=>x
section
variable {P:Program} {sz:Nat} {t e:TypeId} {id off len:Nat} {h:Heap} {xs:List (List D)}
theorem qv (he:qC P t=some e) (hz:szT P e=sz) {k:IntKind} {i:Nat} (hi:i<len):zT P t (.rs id sz off len) (.int k (i:Int))=some (.ptr id (off+i*sz)):=by
 simp[zT,he,hz,hi]
theorem wu (ha:zI5 P t=none) (he:qC P t=some e) (hz:szT P e=sz) {k:IntKind} {n:Nat} (hn:n≤len):yY P t (.rs id sz 0 len) (some (.int k (n:Int))) none none h=some (.rs id sz (n*sz) (len-n)):=by
 simp[yY,ha,zC0,he,hz,qx,zI6,zLf,hn]
theorem zCh (hx:∀x∈xs,x.length=sz) (h0:0<sz) {a i:Nat} {x:List D} (hi:xs[a+i]? =some x):zO true sz xs.flatten (a*sz+i*sz)=some (.agg x):=by
 rw[←Nat.add_mul];exact zBG hx h0 hi
theorem zUf (cs vs:List D) (off:Nat) (h:off+vs.length=cs.length):yX cs vs off=cs.take off++vs:=by
 unfold yX;rw[List.drop_of_length_le (by omega),List.append_nil]
theorem zUg (hx:∀x∈xs,x.length=sz):∀ {n:Nat},xs.flatten.take (n*sz)=(xs.take n).flatten:=by
 induction xs with
 |nil=>intro n;simp
 |cons x xs ih=>
  intro n;cases n with
  |zero=>simp
  |succ n=>
   have hl:=hx x (by simp);rw[List.flatten_cons,List.take_succ_cons,List.flatten_cons,Nat.succ_mul,List.take_append,List.take_of_length_le (by omega),show n*sz+sz-x.length=n*sz by omega,ih (fun y hy=>hx y (by simp[hy]))]
theorem zIF {z:D} (he:qC P t=some e) (hz:qD P e=some z) (hzt:z.notTuple=true) (hzl:z.cells.length=sz) (hi:h.at' id=some (.row xs.flatten)) (hx:∀x∈xs,x.length=sz) {n:Nat} (hn:n≤xs.length):
  ∃rest,zDy P t (.rs id sz (n*sz) (xs.length-n)) h=some (h.set id (.row ((xs.take n).flatten++rest))):=by
 by_cases h0:xs.length-n=0
 ·refine⟨[],?_⟩;have hnl:n=xs.length:=by omega
  have hs:h.set id (.row ((xs.take n).flatten++ []))=h:=by
   rw[hnl,List.take_length,List.append_nil];exact zA7 hi
  rw[hs];simp only[zDy,he,hz,h0,if_true]
 ·refine⟨zBC (xs.length-n) z.cells,?_⟩;have hr:∀m,(zBC m z.cells).length=m*sz:=by
   intro m
   induction m with
   |zero=>simp[zBC]
   |succ m ih=>
    change (List.replicate m z.cells).flatten.length=m*sz at ih;change (List.replicate (m+1) z.cells).flatten.length=(m+1)*sz;rw[List.replicate_succ,List.flatten_cons,List.length_append,hzl,Nat.succ_mul];omega
  have hfl:=yv hx;have hmul:n*sz+(xs.length-n)*sz=xs.length*sz:=by rw[←Nat.add_mul];congr 1;omega
  simp only[zDy,he,hz];rw[if_neg h0,if_pos (by simp[hzt,hzl]),hi];simp only;rw[if_pos (by omega),zUf _ _ _ (by rw[hr];omega),zUg hx]
end
theorem zM {sz:Nat} {xs:List (List D)} {d:D} (h:zf sz xs d):d.cells= [d]∧d.notTuple=true∧d.flat=true:=by
 rcases h with⟨rfl,_⟩ | ⟨tk,rfl⟩ <;>exact⟨rfl,rfl,rfl⟩
open Go.Proofs
set_option maxRecDepth 100000
theorem zFu (e:Ex):∀l:List Ex,zp (l++ [e])=zp l+e.size
 | []=>by simp[zp]
 |x::l=>by
  have:=zFu e l;simp only[List.cons_append,zp,this];omega
theorem zff {a:Nat} (ha:a≤4194304):wx .quo .i64 .i64 (a:Int) 40=some (.int .i64 ((a/40:Nat):Int)):=by
 have hb:((a:Int)).tdiv 40=((a/40:Nat):Int):=by
  rw[Int.tdiv_eq_ediv_of_nonneg (by omega)];omega
 have hq:a/40≤4194304:=Nat.le_trans (Nat.div_le_self _ _) ha;simp only[wx,zLm,if_true];rw[if_neg (by decide),hb];generalize a/40=z at *
 rw[zZ (by omega) (by omega)]
set_option maxHeartbeats 4000000 in
theorem zOf:∀ (deep:Nat),deep≤40→∀ {e:Ex},e.Ok→∀ (most:Nat),most≤120→∀g:Heap,zA Tryz.prog 102 [.agg e.cells, .int .i64 (most:Int), .int .i64 (deep:Int)] g fun r h'=>h'=g∧∃n:Nat,r= .int .i64 (n:Int)∧n≤most+100001∧(n≤most→e.size≤n):=by
 intro deep
 induction deep with
 |zero=>
  intro _ e hok most hm g;refine zA.post fun Q hQ=> ?_;obtain⟨k,nm,x,l,d⟩:=e;simp only[Ex.Ok] at hok;obtain⟨hd,hl,h1,h2,hks⟩:=hok;have ew:IntKind.i64.wrap ((most:Int)+1)=((most+1:Nat):Int):=zh (by unfold lim;omega);have hw1:IntKind.i64.wrap ((nm.length:Int)+(x.length:Int))=((nm.length+x.length:Nat):Int):=by rw[zZ (by omega) (by omega)];omega
  have hq:=zff (a:=nm.length+x.length) (by omega);have hd0:(((0:Nat):Int)==0)=true:=rfl;have hfin:=hQ (.int .i64 ((most+1:Nat):Int)) g ⟨rfl,most+1,rfl,by omega,fun q=>by omega⟩;clear hQ;refine zA.of_fn (g:=zPt) mix Tryz.func102 zeO rfl rfl ?_;simp only[Tryz.f102,gJ];simp only[Ex.cells,Ex.kind,Ex.name,Ex.exc,Ex.d]
  repeat' first|simp only[go_sem,zOG, *]|apply bc<;>intro hc
 |succ deep ih=>
  intro hdp e hok most hm g;refine zA.post fun Q hQ=> ?_;obtain⟨k,nm,x,l,d⟩:=e;simp only[Ex.Ok] at hok;obtain⟨hd,hl,h1,h2,hks⟩:=hok;have hlen:=zDK hd;have hv4:∀a b c e:D,zO true 4 [a,b,c,e] 0=some (.agg [a,b,c,e]):=fun a b c e=>zB rfl (by omega);have hw1:IntKind.i64.wrap ((nm.length:Int)+(x.length:Int))=((nm.length+x.length:Nat):Int):=by rw[zZ (by omega) (by omega)];omega
  have hq:=zff (a:=nm.length+x.length) (by omega);have hzb:(nm.length+x.length)/40≤52429:=by omega
  have hw2:IntKind.i64.wrap (1+(((nm.length+x.length)/40:Nat):Int))=((1+(nm.length+x.length)/40:Nat):Int):=by
   generalize(nm.length+x.length)/40=z at *
   rw[zZ (by omega) (by omega)];omega
  have hd0:(((deep+1:Nat):Int)==0)=false:=by simp;omega
  have hdw:IntKind.i64.wrap (((deep+1:Nat):Int)-1)=(deep:Int):=by rw[zZ (by omega) (by omega)];omega
  have hsz:(Ex.mk k nm x l d).size=zp l+1:=by simp only[Ex.size]
  rw[hsz] at hQ;clear hsz;generalize hz:1+(nm.length+x.length)/40=z at *
  have hz1:1≤z:=by omega
  have hz2:z≤52430:=by omega
  clear hz hzb;refine zA.of_fn (g:=zPt) mix Tryz.func102 zeO rfl rfl ?_;simp only[Tryz.f102,gJ];simp only[Ex.cells,Ex.kind,Ex.name,Ex.exc,Ex.d]
  repeat' first|simp only[go_sem,zOG, *]|apply bc<;>intro hc
  refine zy (fun i fr h=>fr 1= .int .i64 (most:Int)∧fr 2= .int .i64 ((deep+1:Nat):Int)∧fr 3= .iptr [.int .i64 k, .str nm, .str x,d] 0∧fr 8= .int .i64 (i:Int)∧h=g∧∃n:Nat,fr 7= .int .i64 (n:Int)∧n≤most+100001∧(n≤most→zp (l.take i)+1≤n)) l.length ?_ ?_
  ·have hres:∃n:Nat,D.int .i64 (z:Int)= .int .i64 (n:Int)∧n≤most+100001∧(n≤most→zp (l.take 0)+1≤n):=⟨z,rfl,by omega,fun _=>by simp[zp];omega⟩;simp only[go_sem,zOG,true_and,and_true,Int.ofNat_zero];exact hres
  rintro i fr h hi ⟨f1,f2,f3,f8,rfl,n,f7,n1,n2⟩;by_cases hlt:i<l.length
  ·have e1:decide ((i:Int)<(l.length:Int))=true:=decide_eq_true (by omega);have ew:IntKind.i64.wrap ((i:Int)+1)=((i+1:Nat):Int):=zh (by unfold lim;omega);cases e2:decide ((n:Int)≤(most:Int)) with
   |true=>
    have e2':=of_decide_eq_true e2;have a1:=zJn hd hlt;have hm0:l[i]∈l:=List.getElem_mem hlt;have hsub:IntKind.i64.wrap ((most:Int)- (n:Int))=((most-n:Nat):Int):=by rw[zZ (by omega) (by omega)];omega
    have hq2:=ih (by omega) (e:=l[i]) (zDJ hks _ hm0) (most-n) (by omega) h;have htk:zp (l.take (i+1))=zp (l.take i)+l[i].size:=by rw[List.take_succ_eq_append_getElem hlt,zFu]
    simp only[Ex.cells] at a1 hq2;generalize l[i]=e at *
    clear hQ ih hm0
    repeat' first|simp only[go_sem,zOG, *]|apply bc<;>intro hc
    refine hq2.mono ?_;rintro r h3 ⟨hq3,m,rfl,m1,m2⟩;subst hq3;have hadd:IntKind.i64.wrap ((n:Int)+(m:Int))=((n+m:Nat):Int):=by rw[zZ (by omega) (by omega)];omega
    have hres:i<l.length∧∃n':Nat,D.int .i64 ((n+m:Nat):Int)= .int .i64 (n':Int)∧n'≤most+100001∧(n'≤most→zp (l.take (i+1))+1≤n'):=⟨hlt,n+m,rfl,by omega,fun q=>by have:=m2 (by omega);have:=n2 (by omega);omega⟩;clear n2 m2 htk m1 n1 hq2
    repeat' first|simp only[go_sem,zOG, *]|apply bc<;>intro hc
   |false=>
    have e2':=of_decide_eq_false e2;have hfin:=hQ (.int .i64 (n:Int)) h ⟨rfl,n,rfl,n1,fun q=>by omega⟩;clear hQ ih n2 n1 e2'
    repeat' first|simp only[go_sem,zOG, *]|apply bc<;>intro hc
  ·have e1:decide ((i:Int)<(l.length:Int))=false:=decide_eq_false (by omega);have hfin:=hQ (.int .i64 (n:Int)) h ⟨rfl,n,rfl,n1,fun q=>by have:=n2 q;rw[List.take_of_length_le (by omega)] at this;exact this⟩;clear hQ ih n2 n1
   repeat' first|simp only[go_sem,zOG, *]|apply bc<;>intro hc
theorem zUh {e:Ex} (hok:e.Ok) (g:Heap):zA Tryz.prog 66 [.agg e.cells] g fun r h'=>h'=g∧∃b,r= .bool b∧(b=true→e.size≤120):=by
 refine zA.post fun Q hQ=> ?_;have hc:=zOf 40 (by omega) hok 120 (by omega);have hv4:zO true 4 e.cells 0=some (.agg e.cells):=zB rfl (by omega);have h120:((120:Nat):Int)=120:=rfl;have h40:((40:Nat):Int)=40:=rfl;rw[h120,h40] at hc;clear h120 h40;refine zA.of_fn (g:=zaI) mix Tryz.func66 zld rfl rfl ?_;simp only[Tryz.f66,gJ]
 repeat' first|simp only[go_sem,zkd, *]|apply bc<;>intro hc
 refine(hc _).mono ?_;rintro r h ⟨hq,n,rfl,n1,n2⟩;subst hq;have hfin:=hQ (.bool (decide ((n:Int)≤120))) h ⟨rfl,_,rfl,fun q=>by have:=of_decide_eq_true q;have:=n2 (by omega);omega⟩;clear hQ hc n2
 repeat' first|simp only[go_sem,zkd, *]|apply bc<;>intro hc
theorem zFF {c:Cat} {d:D} (hc:qW c d) (hs:c.Sm) (s:List UInt8) (g:Heap):zA Tryz.prog 261 [d, .str s] g fun r h'=>h'=g∧r= .int .i64 (zLi (fun x:Lic=>x.name==s) c.ls):=by
 obtain⟨a,b,e,p,rfl,ha,hb,he,hp⟩:=hc;have hlen:=wl ha;have hl:=hs.ls.1;obtain⟨q1,q2,_⟩:=zM ha;refine zA.of_fn (g:=zT0) mix Tryz.func261 zis rfl rfl ?_;simp only[Tryz.f261,gJ]
 repeat' first|simp only[go_sem,zT1, *]|apply bc<;>intro hc
 refine zG (fun i fr h=>fr 1= .str s∧fr 2= .iptr [a,b,e,p] 0∧fr 5= .int .i64 (i:Int)∧h=g∧∀j (hj:j<c.ls.length),j<i→(c.ls[j].name==s)=false) c.ls.length (by omega) ?_ ?_ ?_
 ·simp only[go_sem,zT1,true_and,and_true,Int.ofNat_zero];exact fun j hj h0=>by omega
 ·rintro i fr h hlt e1 ew ⟨f1,f2,f5,rfl,hj⟩;have a1:=wp ha hlt;have k0:c.ls[i].cells[0]? =some (.str c.ls[i].name):=rfl;cases hb1:(c.ls[i].name==s) with
  |true=>
   have hx:=zCd (p:=fun x:Lic=>x.name==s) hlt hj hb1;clear hj
   repeat' first|simp only[go_sem,zT1, *]|apply bc<;>intro hc
  |false=>
   have hn:=yi (p:=fun x:Lic=>x.name==s) hlt hj hb1;clear hj
   repeat' first|simp only[go_sem,zT1, *]|apply bc<;>intro hc
   exact hn
 ·rintro fr h e1 ⟨f1,f2,f5,rfl,hj⟩;have hx:=zCe (p:=fun x:Lic=>x.name==s) fun j hj'=>hj j hj' hj';clear hj
  repeat' first|simp only[go_sem,zT1, *]|apply bc<;>intro hc
theorem zMq (x y:Apt) (g:Heap):zA Tryz.prog 340 [.agg x.cells, .agg y.cells] g fun r h'=>h'=g∧∃b,r= .bool b:=by
 refine zA.post fun Q hQ=> ?_;have hfin:∀b,Q (.bool b) g:=fun b=>hQ _ _ ⟨rfl,b,rfl⟩;clear hQ;refine zA.of_fn (g:=zT3) mix Tryz.func340 ziv rfl rfl ?_;simp only[Tryz.f340,gJ];simp only[Apt.cells]
 repeat' first|simp only[go_sem,ziu, *]|apply bc<;>intro hc
theorem zUi {c:Cat} {d:D} (hc:qW c d) (hs:c.Sm) {i:Nat} (hi:i<c.ps.length) (g:Heap):zA Tryz.prog 316 [d, .int .i64 (i:Int)] g fun r h'=>h'=g∧∃n,r= .int .i64 n:=by
 refine zA.pure (by kernel_rfl) fun hok=>zA.strip ?_;refine zA.post fun Q hQ=> ?_;have hfi:=zFF hc hs;have hfin:∀n h,Ext g h→Q (.int .i64 n) h:=fun n h hE=>hQ _ _ ⟨hE,trivial,n,rfl⟩;have hbe:=zMq;obtain⟨a,b,e,p,rfl,ha,hb,he,hp⟩:=hc;clear hQ;have a1:=zFt hp hi;have hv4:zO true 4 [a,b,e,p] 0=some (.agg [a,b,e,p]):=zB rfl (by omega);have hv2:∀z:Apt,zO true 2 z.cells 0=some (.agg z.cells):=fun z=>zB rfl (by omega);have k0:c.ps[i].cells[0]? =some (.str c.ps[i].a):=rfl;have k1:c.ps[i].cells[1]? =some (.str c.ps[i].b):=rfl
 have hst:zQ Tryz.prog 135 (.ptr g.next 0) (.agg c.ps[i].cells) (g.new g.next (.row [.str [], .str []]))=some (g.new g.next (.row c.ps[i].cells)):=zU zKh (by omega) rfl rfl rfl;refine zA.of_fn (g:=zT2) mix Tryz.func316 zit rfl rfl ?_;simp only[Tryz.f316,gJ];obtain⟨G,hG,hGr,hE⟩:∃G:Heap,g.new g.next (.row c.ps[i].cells)=G∧G.at' g.next=some (.row c.ps[i].cells)∧Ext g G:=⟨_,rfl,zJ _ _ _,(Ext.refl g).new (Nat.le_refl _) _⟩;rw[hG] at hst;have hfn:=fun n=>hfin n G hE;clear hfin hG;rcases i with _|j
 ·have h0:decide (((0:Nat):Int)>0)=false:=rfl
  repeat' first|simp only[go_sem,zWg, *]|apply bc<;>intro hc|(refine zA.mono (hfi _ _) ?_;rintro r h ⟨hq,rfl⟩)
  refine zx Heap.emp [(0, .no,false),(1, .no,false),(2, .no,false),(3, .no,false),(4, .no,false),(5, .no,false),(6, .no,false),(7, .no,false),(8, .no,false),(15, .no,false),(9, .no,false),(10, .no,false),(11, .no,false),(12, .no,false),(13, .no,false),(14, .no,false),(16, .no,false),(17, .no,false),(18, .no,false),(19, .no,false)] (by kernel_rfl) (by kernel_rfl) (fun i ob e=>by cases e) ?_
  repeat' first|simp only[go_sem,zWg, *]|apply bc<;>intro hc
 ·have h0:decide (((j+1:Nat):Int)>0)=true:=decide_eq_true (by omega);have ew:IntKind.i64.wrap (((j+1:Nat):Int)-1)=(j:Int):=by rw[zZ (by have:=hs.ps;omega) (by have:=hs.ps;omega)];omega
  have a2:=zFt hp (show j<c.ps.length by omega);have hb2:=hbe c.ps[j] c.ps[j+1]
  repeat' first|simp only[go_sem,zWg, *]|apply bc<;>intro hc|(refine zA.mono (hfi _ _) ?_;rintro r h ⟨hq,rfl⟩)
  refine zx Heap.emp [(0, .no,false),(1, .no,false),(2, .no,false),(3, .no,false),(4, .no,false),(5, .no,false),(6, .no,false),(7, .no,false),(8, .no,false),(15, .no,false),(9, .no,false),(10, .no,false),(11, .no,false),(12, .no,false),(13, .no,false),(14, .no,false),(16, .no,false),(17, .no,false),(18, .no,false),(19, .no,false)] (by kernel_rfl) (by kernel_rfl) (fun i ob e=>by cases e) ?_
  repeat' first|simp only[go_sem,zWg, *]|apply bc<;>intro hc|(refine zA.mono (hb2 _) ?_;rintro r h ⟨hq,w,rfl⟩)
theorem zUj (x y:Cla) (g:Heap):zA Tryz.prog 339 [.agg x.cells, .agg y.cells] g fun r h'=>h'=g∧∃b,r= .bool b:=by
 refine zA.post fun Q hQ=> ?_;have hfin:∀b,Q (.bool b) g:=fun b=>hQ _ _ ⟨rfl,b,rfl⟩;clear hQ;refine zA.of_fn (g:=zTt) mix Tryz.func339 zie rfl rfl ?_;simp only[Tryz.f339,gJ];simp only[Cla.cells]
 repeat' first|simp only[go_sem,zid, *]|apply bc<;>intro hc
theorem zOg (s:List UInt8) (hl:s.length≤1048576) (g:Heap):zA Tryz.prog 338 [.str s] g fun r h'=>h'=g∧∃b,r= .bool b:=by
 refine zA.post fun Q hQ=> ?_;have hfin:∀b,Q (.bool b) g:=fun b=>hQ _ _ ⟨rfl,b,rfl⟩;have hlen:∀h,zCr Tryz.prog 9 (.str s) h=some (.int .i64 s.length):=fun h=>wC Tryz.underlying9;clear hQ;refine zA.of_fn (g:=zTi) mix Tryz.func338 ziO rfl rfl ?_;simp only[Tryz.f338,gJ]
 repeat' first|simp only[go_sem,zWT, *]|apply bc<;>intro hc
 refine zG (fun i fr h=>fr 0= .str s∧fr 3= .int .i64 (i:Int)∧h=g) s.length (by omega) ?_ ?_ ?_
 ·simp only[go_sem,zWT,true_and,and_true,Int.ofNat_zero]
 ·rintro i fr h hlt e1 ew ⟨f0,f3,rfl⟩;have a1:zBi Tryz.prog 9 (.str s) (.int .i64 (i:Int))=some (.int .u8 s[i].toNat):=zAa Tryz.underlying9 (List.getElem?_eq_getElem hlt)
  repeat' first|simp only[go_sem,zWT, *]|apply bc<;>intro hc
 ·rintro fr h e1 ⟨f0,f3,rfl⟩
  repeat' first|simp only[go_sem,zWT, *]|apply bc<;>intro hc
set_option maxHeartbeats 1000000 in
theorem zEO (s:List UInt8) (hl:s.length≤1048576) (g:Heap):zA Tryz.prog 336 [.str s] g fun r h'=>h'=g∧∃b,r= .bool b:=by
 refine zA.post fun Q hQ=> ?_;have hfin:∀b,Q (.bool b) g:=fun b=>hQ _ _ ⟨rfl,b,rfl⟩;have hlen:∀h,zCr Tryz.prog 9 (.str s) h=some (.int .i64 s.length):=fun h=>wC Tryz.underlying9;clear hQ;refine zA.of_fn (g:=zTO) mix Tryz.func336 zhu rfl rfl ?_;simp only[Tryz.f336,gJ];cases h0:decide ((s.length:Int)<1) with
 |true=>
  repeat' first|simp only[go_sem,zTP, *]|apply bc<;>intro hc
 |false=>
  have h0':=of_decide_eq_false h0;have hp:0<s.length:=by omega
  have a0:zBi Tryz.prog 9 (.str s) (.int .i64 0)=some (.int .u8 s[0].toNat):=zAa (n:=0) Tryz.underlying9 (List.getElem?_eq_getElem hp)
  repeat' first|simp only[go_sem,zTP, *]|apply bc<;>intro hc
  refine zG (fun i fr h=>fr 0= .str s∧fr 3= .int .i64 (i:Int)∧h=g) s.length (by omega) ?_ ?_ ?_
  ·simp only[go_sem,zTP,true_and,and_true,Int.ofNat_zero]
  ·rintro i fr h hlt e1 ew ⟨f0,f3,rfl⟩;have a1:zBi Tryz.prog 9 (.str s) (.int .i64 (i:Int))=some (.int .u8 s[i].toNat):=zAa Tryz.underlying9 (List.getElem?_eq_getElem hlt)
   repeat' first|simp only[go_sem,zTP, *]|apply bc<;>intro hc
  ·rintro fr h e1 ⟨f0,f3,rfl⟩
   repeat' first|simp only[go_sem,zTP, *]|apply bc<;>intro hc
theorem zMr {s:List UInt8} (hl:s.length≤1048576) (g:Heap):zA Tryz.prog 337 [.str s] g fun r h'=>h'=g∧∃ps:List (List UInt8),zf 1 (yW ps) r∧ps.length≤s.length+1:=by
 refine zA.pure (by kernel_rfl) fun hok=>zA.strip ?_;refine zA.post fun Q hQ=> ?_;have hnil:Q .nilsl g:=hQ _ _ ⟨Ext.refl g,trivial,[], .inl ⟨rfl,rfl⟩,by simp⟩;have hfin:∀ps d h,Own g h 1 (yW ps) d→ps.length≤s.length+1→Q d h:=fun ps d h ho hp=>hQ _ _ ⟨(ho.fin qe).1,(ho.fin qe).2.1,ps,(ho.fin qe).2.2.isSl,hp⟩;clear hQ;refine zA.of_fn (g:=zTa) mix Tryz.func337 ziA rfl rfl ?_;simp only[Tryz.f337,gJ]
 repeat' first|simp only[go_sem,zOF, *]|apply bc<;>intro hc
 clear hnil;refine zG (fun i fr h'=>fr 0= .str s∧fr 5= .int .i64 (i:Int)∧∃ (d:D) (ps:List (List UInt8)) (f:Nat),fr 3=d∧fr 4= .int .i64 (f:Int)∧f≤i∧ps.length≤i∧Own g h' 1 (yW ps) d) s.length (by omega) ?_ ?_ ?_
 ·simp only[go_sem,zOF,true_and,and_true,Int.ofNat_zero];exact⟨.nilsl,[],0,rfl,rfl,Nat.le_refl _,Nat.le_refl _,Own.start (Ext.refl g) 1⟩
 ·rintro i fr h' hlt e1 ew ⟨f0,f5,d,ps,f,f3,f4,hf,hps,ho⟩;have h10:((s[i].toNat:Int)==10)=(s[i]==10):=zjD s[i] 10;cases hc:(s[i]==10) with
  |true=>
   repeat' first|simp only[go_sem,zOF,zYn hlt,h10,zag hf (Nat.le_of_lt hlt),zEL,ew, *]|apply bc<;>intro hc
   refine ho.str (by omega) fun d' h' ho'=> ?_
   repeat' first|simp only[go_sem,zOF,ew, *]|apply bc<;>intro hc
   exact⟨d',_,i+1,rfl,rfl,Nat.le_refl _,by simp;omega,ho'⟩
  |false=>
   repeat' first|simp only[go_sem,zOF,zYn hlt,h10,ew, *]|apply bc<;>intro hc
   exact⟨d,ps,f,rfl,rfl,by omega,by omega,ho⟩
 ·rintro fr h' e1 ⟨f0,f5,d,ps,f,f3,f4,hf,hps,ho⟩
  repeat' first|simp only[go_sem,zOF,zfV hf,zEL, *]|apply bc<;>intro hc
  refine ho.str (by omega) fun d' h' ho'=> ?_;have hq:=hfin _ _ _ ho' (by simp;omega);clear hfin
  repeat' first|simp only[go_sem,zOF, *]|apply bc<;>intro hc
set_option maxHeartbeats 2000000 in
theorem zW8 {c:Cat} {d:D} (hc:qW c d) (hs:c.Sm) {i:Nat} (hi:i<c.ls.length) (g:Heap):zA Tryz.prog 313 [d, .int .i64 (i:Int)] g fun r h'=>h'=g∧∃n,r= .int .i64 n∧(n=0→0≤(c.ls[i]).ver∧(c.ls[i]).ver≤999):=by
 refine zA.pure (by kernel_rfl) fun hok=>zA.strip ?_;refine zA.post fun Q hQ=> ?_;have hsm:=hs.ls.2 _ (List.getElem_mem hi);have hl:=hs.ls.1;obtain⟨a,b,e,p,rfl,ha,hb,he,hp⟩:=hc;have a1:=wp ha hi;have hv4:∀a b c e:D,zO true 4 [a,b,c,e] 0=some (.agg [a,b,c,e]):=fun a b c e=>zB rfl (by omega);have hprev:∀j,j<c.ls.length→∃y:Lic,zT Tryz.prog 22 a (.int .i64 (j:Int))=some (.iptr [.str y.name, .str y.fam, .int .i64 y.ver, .str y.text] 0):=fun j hj=>⟨_,wp ha hj⟩;generalize hx:c.ls[i]=x at *
 obtain⟨nm,fm,vr,tx⟩:=x;obtain⟨m1,m2,m3⟩:=hsm;have hst:=zDF ⟨nm,fm,vr,tx⟩ g g.next;have c1:=zEO nm m1;have c2:=zEO fm m2;have c3:=zMr m3;have c4:=zOg tx m3;simp only[Lic.cells] at a1 hst;obtain⟨G,hG,hGr,hE⟩:∃G:Heap,g.new g.next (.row [.str nm, .str fm, .int .i64 vr, .str tx])=G∧G.at' g.next=some (.row [.str nm, .str fm, .int .i64 vr, .str tx])∧Ext g G:=⟨_,rfl,zJ _ _ _,(Ext.refl g).new (Nat.le_refl _) _⟩;rw[hG] at hst;have hfin:∀n,n≠0→Q (.int .i64 n) G:=fun n hn=>hQ _ _ ⟨hE,trivial,n,rfl,fun q=>absurd q hn⟩;have f2:=hfin 2 (by decide);have f3:=hfin 3 (by decide);have f4:=hfin 4 (by decide)
 have f5:=hfin 5 (by decide);have f6:=hfin 6 (by decide);have f10:=hfin 10 (by decide);have f0:decide (vr<0)=false→decide (vr>999)=false→Q (.int .i64 0) G:=fun q1 q2=>hQ _ _ ⟨hE,trivial,0,rfl,fun _=>⟨show 0≤vr by have:=of_decide_eq_false q1;omega,show vr≤999 by have:=of_decide_eq_false q2;omega⟩⟩;clear hQ hG hx hfin;refine zA.of_fn (g:=zTZ) mix Tryz.func313 zh9 rfl rfl ?_;simp only[Tryz.f313,gJ];cases v1:decide (vr<0) with
 |true=>
  clear f0 hprev
  repeat' first|simp only[go_sem,zHl, *]|apply bc<;>intro hc|(refine zA.mono (c1 _) ?_;rintro r h ⟨hq,w,rfl⟩)|(refine zA.mono (c2 _) ?_;rintro r h ⟨hq,w,rfl⟩)
 |false=>
 cases v2:decide (vr>999) with
 |true=>
  clear f0 hprev
  repeat' first|simp only[go_sem,zHl, *]|apply bc<;>intro hc|(refine zA.mono (c1 _) ?_;rintro r h ⟨hq,w,rfl⟩)|(refine zA.mono (c2 _) ?_;rintro r h ⟨hq,w,rfl⟩)
 |false=>
 have f0:=f0 v1 v2
 repeat' first|simp only[go_sem,zHl, *]|apply bc<;>intro hc|(refine zA.mono (c1 _) ?_;rintro r h ⟨hq,w,rfl⟩)|(refine zA.mono (c2 _) ?_;rintro r h ⟨hq,w,rfl⟩)
 refine(c3 _).mono ?_;rintro r h2 ⟨hq2,ps,hps,_⟩;subst hq2;have hln:=yw hps;clear c3 hst;have hB:=zgx
 repeat' first|simp only[go_sem,zHl, *]|apply bc<;>intro hc|(refine zA.mono (c4 _) ?_;rintro r h ⟨hq,w,rfl⟩)
 clear c1 c2 c4;refine zCX (fun fr' h'=>zgw (fr' 58)∧fr' 1= .int .i64 (i:Int)∧fr' 2= .iptr [a,b,e,p] 0∧fr' 5= .ptr g.next 0∧h'=h2) ?_ ?_
 ·rcases i with _|j
  ·have h0:decide (((0:Nat):Int)>0)=false:=rfl;clear hprev;refine zS (by kernel_rfl) ?_
   repeat' first|simp only[go_sem,zHl, *]|apply bc<;>intro hc
  ·have h0:decide (((j+1:Nat):Int)>0)=true:=decide_eq_true (by omega);have ew:IntKind.i64.wrap (((j+1:Nat):Int)-1)=(j:Int):=by rw[zZ (by omega) (by omega)];omega
   obtain⟨y,a2⟩:=hprev j (by omega);clear hprev;refine zS (by kernel_rfl) ?_
   repeat' first|simp only[go_sem,zHl, *]|apply bc<;>intro hc
 rintro fr h' ⟨⟨b58,f58⟩,g1,g2,g5,hq⟩;generalize g.next=n0 at *
 subst hq
 repeat' first|simp only[go_sem,zHl, *]|apply bc<;>intro hc
 clear f58 hB;refine zG (fun k fr h=>fr 1= .int .i64 (i:Int)∧fr 2= .iptr [a,b,e,p] 0∧fr 5= .ptr n0 0∧fr 6= .int .i64 (k:Int)∧h=h') i (by omega) ?_ ?_ ?_
 ·simp only[go_sem,zHl,true_and,and_true,Int.ofNat_zero,g1,g2,g5]
 ·rintro k fr h hlt ec ew ⟨f1,f2,f5,f6,hq⟩;subst hq;obtain⟨y,a2⟩:=hprev k (by omega);clear hprev
  repeat' first|simp only[go_sem,zHl, *]|apply bc<;>intro hc
  refine zS (by kernel_rfl) ?_
  repeat' first|simp only[go_sem,zHl, *]|apply bc<;>intro hc
 ·rintro fr h ec ⟨f1,f2,f5,f6,hq⟩;subst hq;clear hprev
  repeat' first|simp only[go_sem,zHl, *]|apply bc<;>intro hc
set_option maxHeartbeats 2000000 in
theorem zW9 {c:Cat} {d:D} (hc:qW c d) (hs:c.Sm) {i:Nat} (hi:i<c.es.length) (g:Heap):zA Tryz.prog 314 [d, .int .i64 (i:Int)] g fun r h'=>h'=g∧∃n,r= .int .i64 n:=by
 refine zA.pure (by kernel_rfl) fun hok=>zA.strip ?_;refine zA.post fun Q hQ=> ?_;have hfi:=zFF hc hs;have hfin:∀n h,Ext g h→Q (.int .i64 n) h:=fun n h hE=>hQ _ _ ⟨hE,trivial,n,rfl⟩;obtain⟨o1,o2,o3⟩:=hs.es.2 _ (List.getElem_mem hi);have hl:=hs.es.1;obtain⟨a,b,e,p,rfl,ha,hb,he,hp⟩:=hc;have a1:=zFs hb hi;have hv4:∀a b c e:D,zO true 4 [a,b,c,e] 0=some (.agg [a,b,c,e]):=fun a b c e=>zB rfl (by omega);have hv3:∀a b c:D,zO true 3 [a,b,c] 0=some (.agg [a,b,c]):=fun a b c=>zB rfl (by omega)
 have hprev:∀j,j<c.es.length→∃y:Exc,zT Tryz.prog 23 b (.int .i64 (j:Int))=some (.iptr [.str y.name, .str y.lic,y.d] 0):=fun j hj=>⟨_,zFs hb hj⟩;generalize hx:c.es[i]=x at *
 obtain⟨nm,lc,lf,ld⟩:=x;have c1:=zEO nm o3;have o2:lf.length≤1048576:=o2;have hlen:=zAh o1;have hix:∀j,j<lf.length→∃z:Int,zT Tryz.prog 31 ld (.int .i64 (j:Int))=some (.iptr [.int .i64 z] 0):=fun j hj=>⟨_,zCb o1 hj⟩;simp only[Exc.cells] at a1;have hst:zQ Tryz.prog 129 (.ptr g.next 0) (.agg [.str nm, .str lc,ld]) (g.new g.next (.row [.str [], .str [], .nilsl]))=some (g.new g.next (.row [.str nm, .str lc,ld])):=zU zHk (by omega) rfl rfl (by show(true&&(true&&(ld.flat&&true)))=true;rw[zBb o1];rfl)
 obtain⟨G,hG,hGr,hE⟩:∃G:Heap,g.new g.next (.row [.str nm, .str lc,ld])=G∧G.at' g.next=some (.row [.str nm, .str lc,ld])∧Ext g G:=⟨_,rfl,zJ _ _ _,(Ext.refl g).new (Nat.le_refl _) _⟩;rw[hG] at hst;have hfn:=fun n=>hfin n G hE;clear hfin hQ hG hx hE hs;generalize hn:g.next=n0 at *
 refine zA.of_fn (g:=zTg) mix Tryz.func314 ziN rfl rfl ?_;simp only[Tryz.f314,gJ]
 repeat' first|simp only[go_sem,zHo, *]|apply bc<;>intro hc|(refine zA.mono (c1 _) ?_;rintro r h ⟨hq,w,rfl⟩)|(refine zA.mono (hfi _ _) ?_;rintro r h ⟨hq,rfl⟩)
 clear c1 hfi hst;refine zG (fun k fr h=>fr 1= .int .i64 (i:Int)∧fr 2= .iptr [a,b,e,p] 0∧fr 5= .ptr n0 0∧fr 6= .int .i64 (k:Int)∧h=G) lf.length (by omega) ?_ ?_ ?_
 ·simp only[go_sem,zHo,true_and,and_true,Int.ofNat_zero]
 ·rintro k fr h hlt ec ew ⟨f1,f2,f5,f6,hq⟩;subst hq;obtain⟨z,a2⟩:=hix k hlt;clear hix hprev
  repeat' first|simp only[go_sem,zHo, *]|apply bc<;>intro hc
 ·rintro fr h ec ⟨f1,f2,f5,f6,hq⟩;subst hq;have hB:=zgx
  repeat' first|simp only[go_sem,zHo, *]|apply bc<;>intro hc
  refine zCX (fun fr' h'=>zgw (fr' 62)∧fr' 5= .ptr n0 0∧h'=h) ?_ ?_
  ·rcases i with _|j
   ·have h0:decide (((0:Nat):Int)>0)=false:=rfl;clear hprev;refine zS (by kernel_rfl) ?_
    repeat' first|simp only[go_sem,zHo, *]|apply bc<;>intro hc
   ·have h0:decide (((j+1:Nat):Int)>0)=true:=decide_eq_true (by omega);have ew:IntKind.i64.wrap (((j+1:Nat):Int)-1)=(j:Int):=by rw[zZ (by omega) (by omega)];omega
    obtain⟨y,a2⟩:=hprev j (by omega);clear hprev;refine zS (by kernel_rfl) ?_
    repeat' first|simp only[go_sem,zHo, *]|apply bc<;>intro hc
  rintro fr' G ⟨⟨b62,f62⟩,f5',rfl⟩;clear hprev f1 f2 f5 f6 hB
  repeat' first|simp only[go_sem,zHo, *]|apply bc<;>intro hc
  clear f62;refine zJk (fun k fr h=>fr 5= .ptr n0 0∧fr 7= .int .i64 (k:Int)∧h=G) lf.length (by omega) ?_ ?_ ?_
  ·simp only[go_sem,zHo,true_and,and_true,Int.ofNat_zero,f5'];rfl
  ·rintro k fr h hlt ec ew e1 ⟨f5,f7,hq⟩;subst hq;obtain⟨z1,a2⟩:=hix k (by omega);obtain⟨z2,a3⟩:=hix (k+1) hlt;clear hix
   repeat' first|simp only[go_sem,zHo, *]|apply bc<;>intro hc
   all_goals
    refine zS (by kernel_rfl) ?_
    repeat' first|simp only[go_sem,zHo, *]|apply bc<;>intro hc
  ·rintro k fr h ec ⟨f5,f7,hq⟩;subst hq;clear hix
   repeat' first|simp only[go_sem,zHo, *]|apply bc<;>intro hc
def neB (p q:Bool):Bool:=p !=q
def eqB (p q:Bool):Bool:=p==q
@[go_sem] theorem zg3 (c p q:Bool):zCz Tryz.prog .neq 4 c (.bool p) (.bool q)=some (.bool (neB p q)):=by cases p<;>cases q<;>simp[zCz,zVi,zAJ,veq,Tryz.underlying4,neB]
@[go_sem] theorem zg4 (c p q:Bool):zCz Tryz.prog .eql 4 c (.bool p) (.bool q)=some (.bool (eqB p q)):=by cases p<;>cases q<;>simp[zCz,zVi,zAJ,veq,Tryz.underlying4,eqB]
set_option maxHeartbeats 2000000 in
theorem zXA {c:Cat} {d:D} (hc:qW c d) (hs:c.Sm) {i:Nat} (hi:i<c.cs.length) (g:Heap):zA Tryz.prog 315 [d, .int .i64 (i:Int)] g fun r h'=>h'=g∧∃n,r= .int .i64 n:=by
 refine zA.pure (by kernel_rfl) fun hok=>zA.strip ?_;refine zA.post fun Q hQ=> ?_;have hfi:=zFF hc hs;have hle:=zUj;have hfin:∀n h,Ext g h→Q (.int .i64 n) h:=fun n h hE=>hQ _ _ ⟨hE,trivial,n,rfl⟩;obtain⟨o1,o2⟩:=hs.cs.2 _ (List.getElem_mem hi);have hl:=hs.cs.1;obtain⟨a,b,e,p,rfl,ha,hb,he,hp⟩:=hc;have a1:=zCf he hi;have hv4:∀a b c e:D,zO true 4 [a,b,c,e] 0=some (.agg [a,b,c,e]):=fun a b c e=>zB rfl (by omega);have hv5:∀a b c e f:D,zO true 5 [a,b,c,e,f] 0=some (.agg [a,b,c,e,f]):=fun a b c e f=>zB rfl (by omega)
 have hprev:∀j,j<c.cs.length→∃y:Cla,zT Tryz.prog 24 e (.int .i64 (j:Int))=some (.iptr [.str y.lic, .int .i64 y.way, .int .i64 y.rel, .int .i64 y.duty,y.d] 0):=fun j hj=>⟨_,zCf he hj⟩;generalize hx:c.cs[i]=x at *
 obtain⟨lc,wy,rl,dt,li,ld⟩:=x;have hlen:=yw o1;have hix:∀j,j<li.length→∃z:List UInt8,zT Tryz.prog 40 ld (.int .i64 (j:Int))=some (.iptr [.str z] 0):=fun j hj=>⟨_,zAb o1 hj⟩;simp only[Cla.cells] at a1;have hst:zQ Tryz.prog 92 (.ptr g.next 0) (.agg [.str lc, .int .i64 wy, .int .i64 rl, .int .i64 dt,ld]) (g.new g.next (.row [.str [], .int .i64 0, .int .i64 0, .int .i64 0, .nilsl]))=some (g.new g.next (.row [.str lc, .int .i64 wy, .int .i64 rl, .int .i64 dt,ld])):=zU zEu (by omega) rfl rfl (by show(true&&(true&&(true&&(true&&(ld.flat&&true)))))=true;rw[zBb o1];rfl)
 obtain⟨G,hG,hGr,hE⟩:∃G:Heap,g.new g.next (.row [.str lc, .int .i64 wy, .int .i64 rl, .int .i64 dt,ld])=G∧G.at' g.next=some (.row [.str lc, .int .i64 wy, .int .i64 rl, .int .i64 dt,ld])∧Ext g G:=⟨_,rfl,zJ _ _ _,(Ext.refl g).new (Nat.le_refl _) _⟩;rw[hG] at hst;have hfn:=fun n=>hfin n G hE;have hB:=zgx;have o2:li.length≤1048576:=o2;clear hfin hQ hG hx hE hs;generalize hn:g.next=n0 at *
 refine zA.of_fn (g:=zTs) mix Tryz.func315 zic rfl rfl ?_;simp only[Tryz.f315,gJ]
 repeat' first|simp only[go_sem,zGc, *]|apply bc<;>intro hc|(refine zA.mono (hfi _ _) ?_;rintro r h ⟨hq,rfl⟩)
 clear hst;refine zG (fun k fr h=>fr 1= .int .i64 (i:Int)∧fr 2= .iptr [a,b,e,p] 0∧fr 5= .ptr n0 0∧fr 6= .int .i64 (k:Int)∧h=G) li.length (by omega) ?_ ?_ ?_
 ·simp only[go_sem,zGc,true_and,and_true,Int.ofNat_zero]
 ·rintro k fr h hlt ec ew ⟨f1,f2,f5,f6,hq⟩;subst hq;obtain⟨z,a2⟩:=hix k hlt;clear hix hprev
  repeat' first|simp only[go_sem,zGc, *]|apply bc<;>intro hc
  refine zx Heap.emp [(0, .no,false),(1, .no,false),(2, .no,false),(3, .no,false),(4, .no,false),(5, .no,false),(6, .no,false),(7, .no,false)] (by kernel_rfl) (by kernel_rfl) (fun i ob e=>by cases e) ?_
  repeat' first|simp only[go_sem,zGc, *]|apply bc<;>intro hc|(refine zA.mono (hfi _ _) ?_;rintro r h ⟨hq,rfl⟩)
 ·rintro fr h ec ⟨f1,f2,f5,f6,hq⟩;subst hq
  repeat' first|simp only[go_sem,zGc, *]|apply bc<;>intro hc
  clear f6;refine zJk (fun k fr' h'=>fr' 1= .int .i64 (i:Int)∧fr' 2= .iptr [a,b,e,p] 0∧fr' 5= .ptr n0 0∧fr' 7= .int .i64 (k:Int)∧h'=h) li.length (by omega) ?_ ?_ ?_
  ·simp only[go_sem,zGc,true_and,and_true,Int.ofNat_zero,f1,f2,f5];rfl
  ·rintro k fr h hlt ec ew e1 ⟨f1,f2,f5,f7,hq⟩;subst hq;obtain⟨z1,a2⟩:=hix k (by omega);obtain⟨z2,a3⟩:=hix (k+1) hlt;clear hix hprev
   repeat' first|simp only[go_sem,zGc, *]|apply bc<;>intro hc
   refine zS (by kernel_rfl) ?_
   repeat' first|simp only[go_sem,zGc, *]|apply bc<;>intro hc
  ·rintro k fr h ec ⟨f1,f2,f5,f7,hq⟩;subst hq;clear hix;rcases i with _|j
   ·have h0:decide (((0:Nat):Int)>0)=false:=rfl;clear hprev
    repeat' first|simp only[go_sem,zGc, *]|apply bc<;>intro hc
    refine zx Heap.emp [(0, .no,false),(1, .no,false),(2, .no,false),(9, .no,false),(3, .no,false),(4, .no,false),(5, .no,false),(6, .no,false),(7, .no,false),(8, .no,false),(10, .no,false),(11, .no,false),(12, .no,false)] (by kernel_rfl) (by kernel_rfl) (fun i ob e=>by cases e) ?_
    repeat' first|simp only[go_sem,zGc, *]|apply bc<;>intro hc
   ·have h0:decide (((j+1:Nat):Int)>0)=true:=decide_eq_true (by omega);have ew:IntKind.i64.wrap (((j+1:Nat):Int)-1)=(j:Int):=by rw[zZ (by omega) (by omega)];omega
    obtain⟨y,a2⟩:=hprev j (by omega);have hb2:=hle y ⟨lc,wy,rl,dt,li,ld⟩;simp only[Cla.cells] at hb2;clear hprev hle
    repeat' first|simp only[go_sem,zGc, *]|apply bc<;>intro hc
    refine zx Heap.emp [(0, .no,false),(1, .no,false),(2, .no,false),(9, .no,false),(3, .no,false),(4, .no,false),(5, .no,false),(6, .no,false),(7, .no,false),(8, .no,false),(10, .no,false),(11, .no,false),(12, .no,false)] (by kernel_rfl) (by kernel_rfl) (fun i ob e=>by cases e) ?_
    repeat' first|simp only[go_sem,zGc, *]|apply bc<;>intro hc|(refine zA.mono (hb2 _) ?_;rintro r h ⟨hq,w,rfl⟩)
set_option maxHeartbeats 2000000 in
theorem zK6 {c:Cat} {d:D} (hc:qW c d) (hs:c.Sm) (g:Heap):zA Tryz.prog 260 [d] g fun r h'=>h'=g∧∃n,r= .int .i64 n∧(n=0→∀x∈c.ls,0≤x.ver∧x.ver≤999):=by
 refine zA.post fun Q hQ=> ?_;have c1:=fun i hi=>zW8 (i:=i) hc hs hi;have c2:=fun i hi=>zW9 (i:=i) hc hs hi;have c3:=fun i hi=>zXA (i:=i) hc hs hi;have c4:=fun i hi=>zUi (i:=i) hc hs hi;have hfin:∀n,(n==0)=false→Q (.int .i64 n) g:=fun n hn=>hQ _ _ ⟨rfl,n,rfl,fun q=>by simp[q] at hn⟩;have hfin0:(∀x∈c.ls,0≤x.ver∧x.ver≤999)→Q (.int .i64 0) g:=fun hv=>hQ _ _ ⟨rfl,0,rfl,fun _=>hv⟩;have f10:=hfin 10 rfl;obtain⟨a,b,e,p,rfl,ha,hb,he,hp⟩:=hc;have hv4:∀a b c e:D,zO true 4 [a,b,c,e] 0=some (.agg [a,b,c,e]):=fun a b c e=>zB rfl (by omega);have l1:=wl ha;have l2:=zE7 hb;have l3:=zBn he;have l4:=zE8 hp
 have s1:=hs.ls.1;have s2:=hs.es.1;have s3:=hs.cs.1;have s4:=hs.ps;clear hQ;obtain⟨V,V0,Vs,Vf⟩:∃V:Nat→Prop,V 0∧(∀i (hi:i<c.ls.length),V i→(0≤(c.ls[i]).ver∧(c.ls[i]).ver≤999)→V (i+1))∧(V c.ls.length→∀x∈c.ls,0≤x.ver∧x.ver≤999):=by
  refine⟨fun i=>∀j (hj:j<c.ls.length),j<i→0≤(c.ls[j]).ver∧(c.ls[j]).ver≤999,fun j hj h0=>by omega,fun i hi hv hn j hj hji=> ?_,fun hv x hx=> ?_⟩
  ·rcases Nat.lt_succ_iff_lt_or_eq.1 hji with h|rfl
   ·exact hv j hj h
   ·exact hn
  ·obtain⟨j,hj,rfl⟩:=List.mem_iff_getElem.1 hx;exact hv j hj hj
 have f0:=fun hv=>hfin0 (Vf hv);clear hfin0 Vf;refine zA.of_fn (g:=zTr) mix Tryz.func260 zib rfl rfl ?_;simp only[Tryz.f260,gJ]
 repeat' first|simp only[go_sem,zBt, *]|apply bc<;>intro hc
 refine zG (fun i fr h=>fr 1= .iptr [a,b,e,p] 0∧fr 3= .int .i64 (i:Int)∧h=g∧V i) c.ls.length (by omega) ?_ ?_ ?_
 ·simp only[go_sem,zBt,true_and,and_true,Int.ofNat_zero,V0]
 ·rintro i fr h hlt ec ew ⟨f1,f3,hq,hv⟩;subst hq
  repeat' first|simp only[go_sem,zBt, *]|apply bc<;>intro hc
  refine(c1 i hlt _).mono ?_;rintro r h' ⟨hq,n,rfl,hn⟩;subst hq;cases hn0:(n==0) with
  |false=>
   have hf:=hfin n hn0;clear hfin f0 Vs
   repeat' first|simp only[go_sem,zBt, *]|apply bc<;>intro hc
  |true=>
   have hv':=Vs i hlt hv (hn (by simpa using hn0));clear hfin f0 Vs
   repeat' first|simp only[go_sem,zBt, *]|apply bc<;>intro hc
 rintro fr h ec ⟨f1,f3,hq,hv⟩;subst hq;have f0:=f0 hv;clear Vs c1 hv
 repeat' first|simp only[go_sem,zBt, *]|apply bc<;>intro hc
 clear f3;refine zG (fun i fr h'=>fr 1= .iptr [a,b,e,p] 0∧fr 5= .int .i64 (i:Int)∧h'=h) c.es.length (by omega) ?_ ?_ ?_
 ·simp only[go_sem,zBt,true_and,and_true,Int.ofNat_zero,f1]
 ·rintro i fr h hlt ec ew ⟨f1,f3,hq⟩;subst hq
  repeat' first|simp only[go_sem,zBt, *]|apply bc<;>intro hc
  refine(c2 i hlt _).mono ?_;rintro r h' ⟨hq,n,rfl⟩;subst hq;cases hn0:(n==0) with
  |false=>
   have hf:=hfin n hn0;clear hfin
   repeat' first|simp only[go_sem,zBt, *]|apply bc<;>intro hc
  |true=>
   clear hfin
   repeat' first|simp only[go_sem,zBt, *]|apply bc<;>intro hc
 rintro fr h ec ⟨f1,f3,hq⟩;subst hq;clear c2
 repeat' first|simp only[go_sem,zBt, *]|apply bc<;>intro hc
 clear f3;refine zG (fun i fr h'=>fr 1= .iptr [a,b,e,p] 0∧fr 7= .int .i64 (i:Int)∧h'=h) c.cs.length (by omega) ?_ ?_ ?_
 ·simp only[go_sem,zBt,true_and,and_true,Int.ofNat_zero,f1]
 ·rintro i fr h hlt ec ew ⟨f1,f3,hq⟩;subst hq
  repeat' first|simp only[go_sem,zBt, *]|apply bc<;>intro hc
  refine(c3 i hlt _).mono ?_;rintro r h' ⟨hq,n,rfl⟩;subst hq;cases hn0:(n==0) with
  |false=>
   have hf:=hfin n hn0;clear hfin
   repeat' first|simp only[go_sem,zBt, *]|apply bc<;>intro hc
  |true=>
   clear hfin
   repeat' first|simp only[go_sem,zBt, *]|apply bc<;>intro hc
 rintro fr h ec ⟨f1,f3,hq⟩;subst hq;clear c3
 repeat' first|simp only[go_sem,zBt, *]|apply bc<;>intro hc
 clear f3;refine zG (fun i fr h'=>fr 1= .iptr [a,b,e,p] 0∧fr 9= .int .i64 (i:Int)∧h'=h) c.ps.length (by omega) ?_ ?_ ?_
 ·simp only[go_sem,zBt,true_and,and_true,Int.ofNat_zero,f1]
 ·rintro i fr h hlt ec ew ⟨f1,f3,hq⟩;subst hq
  repeat' first|simp only[go_sem,zBt, *]|apply bc<;>intro hc
  refine(c4 i hlt _).mono ?_;rintro r h' ⟨hq,n,rfl⟩;subst hq;cases hn0:(n==0) with
  |false=>
   have hf:=hfin n hn0;clear hfin
   repeat' first|simp only[go_sem,zBt, *]|apply bc<;>intro hc
  |true=>
   clear hfin
   repeat' first|simp only[go_sem,zBt, *]|apply bc<;>intro hc
 rintro fr h ec ⟨f1,f3,hq⟩;subst hq;clear c4 hfin
 repeat' first|simp only[go_sem,zBt, *]|apply bc<;>intro hc
theorem zas {α:Type} {l:List α} {p:α→Bool} (h:decide (zLi p l<0)=false):∃j,∃_:j<l.length,zLi p l=(j:Int):=by
 unfold zLi at h⊢;cases hf:l.findIdx? p with
 |none=>rw[hf] at h;cases h
 |some i=>exact⟨i,(List.findIdx?_eq_some_iff_getElem.1 hf).1,rfl⟩
set_option maxHeartbeats 2000000 in
theorem zRf {c:Cat} {d:D} (hc:qW c d) (hs:c.Sm) (k:List UInt8) (g:Heap):zA Tryz.prog 199 [d, .str k] g fun r h'=>h'=g∧∃ (x:Lic) (b:Bool),r= .tuple [.agg [.str x.name, .str x.fam, .int .i64 x.ver, .str x.text], .bool b]∧(b=true→0≤x.ver∧x.ver≤999):=by
 refine zA.pure (by kernel_rfl) fun hok=> ?_;refine zA.post fun Q hQ=> ?_;have hck:=zK6 hc hs;have hfi:=zFF hc hs k;obtain⟨a,b,e,p,rfl,ha,hb,he,hp⟩:=hc;have hv4:∀a b c e:D,zO true 4 [a,b,c,e] 0=some (.agg [a,b,c,e]):=fun a b c e=>zB rfl (by omega);have hb0:yC Tryz.prog 124 []=some (.agg zFR):=by simp[yC,zHj,zHi,qS,D.notTuple,D.cells]
 have hst:∀ (x:Lic) (H:Heap),H.at' g.next=some (.row zFR)→zQ Tryz.prog 124 (.ptr g.next 0) (.agg [.str x.name, .str x.fam, .int .i64 x.ver, .str x.text]) H=some (H.set g.next (.row [.str x.name, .str x.fam, .int .i64 x.ver, .str x.text])):=fun x H h=>yN h zCS rfl (by simp) rfl;obtain⟨G,hG,r0,E0,n0⟩:∃G,g.new g.next (.row zFR)=G∧G.at' g.next=some (.row zFR)∧Ext g G∧g.next<G.next:=⟨_,rfl,zJ _ _ _,(Ext.refl g).new (Nat.le_refl _) _,by rw[zD];omega⟩
 have hfin:∀ (x:Lic) (b:Bool),(b=true→0≤x.ver∧x.ver≤999)→Q (.tuple [.agg [.str x.name, .str x.fam, .int .i64 x.ver, .str x.text], .bool b]) (G.set g.next (.row [.str x.name, .str x.fam, .int .i64 x.ver, .str x.text])):=fun x b hb=>hQ _ _ ⟨E0.set (id:=g.next) (Nat.le_refl _) _,by simp[below,zg],x,b,rfl,hb⟩;have z0:zQ Tryz.prog 124 (.ptr g.next 0) (.agg zFR) G=some (G.set g.next (.row zFR)):=hst ⟨[],[],0,[]⟩ G r0;have fz:Q (.tuple [.agg zFR, .bool false]) (G.set g.next (.row zFR)):=hfin ⟨[],[],0,[]⟩ false (fun q=>by cases q);have hst:=fun x=>hst x G r0
 obtain⟨X,hX,hXj⟩:∃X,zLi (fun x:Lic=>x.name==k) c.ls=X∧(decide (X<0)=false→∃j,∃_:j<c.ls.length,X=(j:Int)):=⟨_,rfl,zas⟩;rw[hX] at hfi;clear hQ hX hok;refine zA.of_fn (g:=zTI) mix Tryz.func199 zho rfl rfl ?_;simp only[Tryz.f199,gJ];clear E0
 repeat' first|simp only[go_sem,zTJ, *]|apply bc<;>intro hc
 refine(hck _).mono ?_;rintro r h' ⟨hq,n,rfl,hn⟩;subst hq;cases hn0:(n==0) with
 |false=>
  clear hfin hn hfi hXj hst
  repeat' first|simp only[go_sem,zTJ,zC, *]|apply bc<;>intro hc
 |true=>
  have hv:=hn (by simpa using hn0);clear hn hck;cases v0:decide (X<0) with
  |true=>
   clear hXj hfin hst
   repeat' first|simp only[go_sem,zTJ,zC, *]|apply bc<;>intro hc|(refine zA.mono (hfi _) ?_;rintro r h ⟨hq,rfl⟩)
  |false=>
   obtain⟨j,hj,rfl⟩:=hXj v0;have a1:=wp ha hj;simp only[Lic.cells] at a1;have hf:=hfin c.ls[j] true (fun _=>hv _ (List.getElem_mem hj));have hs1:=hst c.ls[j];clear hXj hfin hv hst z0 fz
   repeat' first|simp only[go_sem,zTJ,zC, *]|apply bc<;>intro hc|(refine zA.mono (hfi _) ?_;rintro r h ⟨hq,rfl⟩)
   have hle:∀h,HLe Heap.emp h:=fun h i ob e=>by cases e
   refine zx Heap.emp [(2, .no,true),(0, .no,true),(1, .st,true),(3, .no,true),(4, .no,true),(5, .no,true),(6, .no,true),(7, .no,true),(8, .no,true)] (by kernel_rfl) (by kernel_rfl) (fun i ob e=>by cases e) ?_
   repeat' first|simp only[go_sem,zTJ,zC, *]|apply bc<;>intro hc|(refine zA.mono (hfi _) ?_;rintro r h ⟨hq,rfl⟩)
def OwL (G h:Heap) (d:D) (m:Nat):Prop:=∃ps,Own G h 1 (yW ps) d∧ps.length≤m
set_option maxHeartbeats 2000000 in
theorem zRg {c:Cat} {d:D} (hc:qW c d) (hs:c.Sm) (h40:c.ls.length≤40) (k:List UInt8) (g:Heap):zA Tryz.prog 154 [d, .str k] g fun r h'=>h'=g∧∃ (ps:List (List UInt8)) (q:D) (n:Int),r= .tuple [q, .int .i64 n]∧zf 1 (yW ps) q∧ps.length≤65536:=by
 refine zA.pure (by kernel_rfl) fun hok=>zA.strip ?_;refine zA.post fun Q hQ=> ?_;have hfd:=zRf hc hs k;have hnil:∀n h,Ext g h→Q (.tuple [.nilsl, .int .i64 n]) h:=fun n h hE=>hQ _ _ ⟨hE,by simp[yE,z7,below,zg],[], .nilsl,n,by simp[yE,z7], .inl ⟨rfl,rfl⟩,by simp⟩;have hfin:∀ (G:Heap) ps d n h,Ext g G→Own G h 1 (yW ps) d→ps.length≤65536→Q (.tuple [d, .int .i64 n]) h:=fun G ps d n h hE ho hp=>by
  have hf:=ho.2.1.fin qe;have hb:=zz (Nat.zero_le g.next) _ hf.1;exact hQ _ _ ⟨hE.trans ho.1,by simp[yE,z7,below,zg,hb],ps,yE d,n,by simp[yE,z7],hf.2.isSl,hp⟩
 obtain⟨a,b,e,p,rfl,ha,hb,he,hp⟩:=hc;have hv4:∀a b c e:D,zO true 4 [a,b,c,e] 0=some (.agg [a,b,c,e]):=fun a b c e=>zB rfl (by omega);have l1:=wl ha;clear hQ hok;refine zA.of_fn (g:=zT7) mix Tryz.func154 zi0 rfl rfl ?_;simp only[Tryz.f154,gJ]
 repeat' first|simp only[go_sem,zFl, *]|apply bc<;>intro hc
 refine(hfd _).mono ?_;rintro r h0 ⟨hq,x,bo,rfl,hv⟩;subst hq;obtain⟨G,hG,hGr,hE,hlt⟩:∃G:Heap,h0.new h0.next (.row [.str x.name, .str x.fam, .int .i64 x.ver, .str x.text])=G∧G.at' h0.next=some (.row [.str x.name, .str x.fam, .int .i64 x.ver, .str x.text])∧Ext h0 G∧h0.next<G.next:=⟨_,rfl,zJ _ _ _,(Ext.refl h0).new (Nat.le_refl _) _,by rw[zD];omega⟩;have hst:=zDF x h0 h0.next;rw[hG] at hst;clear hfd hG;cases bo with
 |false=>
  have hn:=hnil 7 G hE;clear hnil hfin hv
  repeat' first|simp only[go_sem,zFl, *]|apply bc<;>intro hc
 |true=>
 obtain⟨v0,v1⟩:=hv rfl;have hfin:=fun ps d h=>hfin G ps d 0 h hE;clear hnil hv;have hrow:∀h,Ext G h→h.at' h0.next=some (.row [.str x.name, .str x.fam, .int .i64 x.ver, .str x.text]):=fun h hE=>by rw[hE.2 _ hlt];exact hGr
 repeat' first|simp only[go_sem,zFl, *]|apply bc<;>intro hc
 clear hst hGr;refine zy (fun i fr h=>fr 2= .iptr [a,b,e,p] 0∧fr 6= .ptr h0.next 0∧fr 9= .int .i64 (x.ver+(i:Int))∧OwL G h (fr 8) (i*40)) (1000-x.ver).toNat ?_ ?_
 ·simp only[go_sem,zFl,true_and,and_true,Int.ofNat_zero];exact⟨by rw[Int.add_zero],[],Own.start (Ext.refl G) 1,by simp⟩
 rintro i fr h hile ⟨f2,f6,f9,ps,ho,hps⟩;obtain⟨d,f8⟩:∃d,fr 8=d:=⟨_,rfl⟩;rw[f8] at ho;have hi1000:i≤1000:=by omega
 by_cases hlt:i<(1000-x.ver).toNat
 ·have hc0:decide (x.ver+(i:Int)≤999)=true:=decide_eq_true (by omega);have hw:IntKind.i64.wrap (x.ver+(i:Int)+1)=x.ver+((i+1:Nat):Int):=by rw[zZ (by omega) (by omega)];omega
  repeat' first|simp only[go_sem,zFl, *]|apply bc<;>intro hc
  refine zG (fun j fr h=>fr 2= .iptr [a,b,e,p] 0∧fr 6= .ptr h0.next 0∧fr 9= .int .i64 (x.ver+(i:Int))∧fr 10= .int .i64 (j:Int)∧OwL G h (fr 8) (i*40+j)) c.ls.length (by omega) ?_ ?_ ?_
  ·simp only[go_sem,zFl,true_and,and_true,Int.ofNat_zero,f2,f6,f9];rw[f8];exact⟨ps,ho,by omega⟩
  ·clear f2 f6 f9 f8 ho hps;rintro j fr h hlt2 ec ew ⟨f2,f6,f9,f10,ps,ho,hps⟩;obtain⟨d,f8⟩:∃d,fr 8=d:=⟨_,rfl⟩;rw[f8] at ho;have hr:=hrow h ho.1;have a1:=wp ha hlt2;simp only[Lic.cells] at a1;have hB:=zgx;clear hfin hrow hw
   repeat' first|simp only[go_sem,zFl, *]|apply bc<;>intro hc
   refine zCX (fun fr' h'=>zgw (fr' 50)∧fr' 2= .iptr [a,b,e,p] 0∧fr' 6= .ptr h0.next 0∧fr' 9= .int .i64 (x.ver+(i:Int))∧fr' 10= .int .i64 (j:Int)∧fr' 8=d∧h'=h) ?_ ?_
   ·refine zS (by kernel_rfl) ?_
    repeat' first|simp only[go_sem,zFl, *]|apply bc<;>intro hc
   rintro fr' h' ⟨⟨b50,f50⟩,f2,f6,f9,f10,f8,hq⟩;subst hq;clear hB;cases b50 with
   |false=>
    repeat' first|simp only[go_sem,zFl, *]|apply bc<;>intro hc
    exact⟨ps,ho,by omega⟩
   |true=>
    repeat' first|simp only[go_sem,zFl,zEL, *]|apply bc<;>intro hc
    refine ho.str (by omega) fun d' h' ho'=> ?_
    repeat' first|simp only[go_sem,zFl, *]|apply bc<;>intro hc
    exact⟨_,ho',by simp;omega⟩
  ·rintro fr h ec ⟨f2,f6,f9,f10,ps,ho,hps⟩;obtain⟨d,f8⟩:∃d,fr 8=d:=⟨_,rfl⟩;rw[f8] at ho;clear hfin hrow
   repeat' first|simp only[go_sem,zFl, *]|apply bc<;>intro hc
   exact⟨ps,ho,by omega⟩
 ·have hc0:decide (x.ver+(i:Int)≤999)=false:=decide_eq_false (by omega);have hf:=hfin ps d h ho (by omega);clear hfin hrow
  repeat' first|simp only[go_sem,zFl, *]|apply bc<;>intro hc
noncomputable def zat (a b:Int):Int:=match zSG (.int .i64 a) (.int .i64 b) with
 |some (.int _ c)=>c
 |_=>0
theorem zXB (a b:Int):zSG (.int .i64 a) (.int .i64 b)=some (.int .i64 (zat a b)):=by
 unfold zat;simp only[zSG,if_true]
theorem zjL (a b:Int):∃c,zVj (.int .i64 a) (.int .i64 b)=some (.int .i64 c):=by
 simp only[zVj,if_true];exact⟨_,rfl⟩
theorem zjM (a b:Int):∃c,zSG (.int .i64 a) (.int .i64 b)=some (.int .i64 c):=by
 simp only[zSG,if_true];exact⟨_,rfl⟩
set_option maxHeartbeats 2000000 in
theorem zMs {c:Cat} {D0:D} (hc:qW c D0) (hs:c.Sm) (h40:c.ls.length≤40):∀ (n:Nat) {e:Ex},e.size≤n→e.Ok→e.size≤1048576→∀g:Heap,zA Tryz.prog 103 [D0, .agg e.cells] g fun r h'=>h'=g∧∃a b,r= .tuple [.int .i64 a, .int .i64 b]:=by
 intro n
 induction n with
 |zero=>intro e h;cases e;simp only[Ex.size] at h;omega
 |succ n ih=>
 intro e hn hok hsz g;refine zA.post fun Q hQ=> ?_;have hfin:∀a b,Q (.tuple [.int .i64 a, .int .i64 b]) g:=fun a b=>hQ _ _ ⟨rfl,a,b,rfl⟩;have hla:=zRg hc hs h40;obtain⟨ca,cb,ce,cp,rfl,_,_,_,_⟩:=hc;obtain⟨k,nm,x,l,d⟩:=e;simp only[Ex.size,Ex.Ok] at hn hok hsz;obtain⟨hd,hl,_,_,hks⟩:=hok;have hlen:=zDK hd;have hv4:∀a b c e:D,zO true 4 [a,b,c,e] 0=some (.agg [a,b,c,e]):=fun a b c e=>zB rfl (by omega);clear hQ;refine zA.of_fn (g:=zTu) mix Tryz.func103 zig rfl rfl ?_;simp only[Tryz.f103,gJ];simp only[Ex.cells,Ex.kind,Ex.name,Ex.exc,Ex.d];cases k0:(k==0) with
 |true=>
  clear ih hla
  repeat' first|simp only[go_sem,zMT, *]|apply bc<;>intro hc
 |false=>
 cases k1:(k==1) with
 |true=>
  clear ih
  repeat' first|simp only[go_sem,zMT, *]|apply bc<;>intro hc
  refine(hla _ _).mono ?_;rintro r h ⟨hq,ps,q,m,rfl,hps,_⟩;subst hq;have hln:=yw hps;obtain⟨mx,hmx⟩:=zjL 1 (ps.length:Int);clear hla
  repeat' first|simp only[go_sem,zMT, *]|apply bc<;>intro hc
 |false=>
 clear hla
 repeat' first|simp only[go_sem,zMT, *]|apply bc<;>intro hc
 refine zG (fun i fr h=>fr 2= .iptr [ca,cb,ce,cp] 0∧fr 3= .iptr [.int .i64 k, .str nm, .str x,d] 0∧fr 10= .int .i64 (i:Int)∧h=g∧IsI (fr 8)∧IsI (fr 9)) l.length (by omega) ?_ ?_ ?_
 ·simp only[go_sem,zMT,true_and,and_true,Int.ofNat_zero,isI]
 ·rintro i fr h hlt ec ew ⟨f2,f3,f10,hq,⟨u,f8⟩,⟨w,f9⟩⟩;subst hq;have a1:=zJn hd hlt;have hm:l[i]∈l:=List.getElem_mem hlt;have hq:=ih (e:=l[i]) (by have:=zAD hm;omega) (zDJ hks _ hm) (by have:=zAD hm;omega);have hI:=isI;simp only[Ex.cells] at a1 hq;have hmn:∀z:Int,zSG (.int .i64 z) (.int .i64 64)=some (.int .i64 (zat z 64)):=fun z=>zXB z 64;clear ih hm hfin
  repeat' first|simp only[go_sem,zMT, *]|apply bc<;>intro hc
  refine zx Heap.emp [(0, .no,false),(1, .no,false),(2, .no,false),(3, .no,false),(4, .no,false),(5, .no,false),(6, .no,false),(7, .no,false),(8, .no,false),(9, .no,false),(10, .no,false),(11, .no,false)] (by kernel_rfl) (by kernel_rfl) (fun i ob e=>by cases e) ?_
  repeat' first|simp only[go_sem,zMT, *]|apply bc<;>intro hc|(refine zA.mono (hq _) ?_;rintro r h ⟨hq2,a,b,rfl⟩)
 ·rintro fr h ec ⟨f2,f3,f10,hq,⟨u,f8⟩,⟨w,f9⟩⟩;subst hq;obtain⟨mn,hmn⟩:=zjM w 1000000;clear ih
  repeat' first|simp only[go_sem,zMT, *]|apply bc<;>intro hc
theorem zOh {c:Cat} {D0:D} (hc:qW c D0) (hs:c.Sm) (h40:c.ls.length≤40) {e:Ex} (hok:e.Ok) (hsz:e.size≤1048576) (g:Heap):zA Tryz.prog 67 [D0, .agg e.cells] g fun r h'=>h'=g∧∃a,r= .int .i64 a:=by
 refine zA.post fun Q hQ=> ?_;have hfin:∀a,Q (.int .i64 a) g:=fun a=>hQ _ _ ⟨rfl,a,rfl⟩;have hw:=zMs hc hs h40 e.size (Nat.le_refl _) hok hsz;have hv4:∀a b c e:D,zO true 4 [a,b,c,e] 0=some (.agg [a,b,c,e]):=fun a b c e=>zB rfl (by omega);obtain⟨ca,cb,ce,cp,rfl,_,_,_,_⟩:=hc;obtain⟨k,nm,x,l,d⟩:=e;clear hQ;refine zA.of_fn (g:=zaO) mix Tryz.func67 zlm rfl rfl ?_;simp only[Tryz.f67,gJ];simp only[Ex.cells] at hw⊢
 repeat' first|simp only[go_sem,zll, *]|apply bc<;>intro hc|(refine zA.mono (hw _) ?_;rintro r h ⟨hq,a,b,rfl⟩)
def zUk (c:Cat):Bool:=decide ((c.ls.length:Int)>40)||decide ((c.es.length:Int)>40)||(decide ((c.cs.length:Int)>40)&&decide ((c.cs.length:Int)≤128))||decide ((c.cs.length:Int)>140)||decide ((c.ps.length:Int)>80)
set_option maxHeartbeats 4000000 in
theorem zUl {c:Cat} {d:D} (hc:qW c d) (hs:c.Sm) (g:Heap):zA Tryz.prog 65 [d] g fun r h'=>h'=g∧∃b,r= .bool b∧(b=true→c.ls.length≤40):=by
 refine zA.post fun Q hQ=> ?_;have hf:Q (.bool false) g:=hQ _ _ ⟨rfl,_,rfl,fun q=>by cases q⟩;have hfin:zUk c=false→∀b,Q (.bool b) g:=fun hv b=>hQ _ _ ⟨rfl,b,rfl,fun _=>by
  unfold zUk at hv;simp only[Bool.or_eq_false_iff,decide_eq_false_iff_not] at hv;omega⟩
 have hcs:=hs.cs.2;have hes:=hs.es.2;obtain⟨a,b,e,p,rfl,ha,hb,he,hp⟩:=hc;have l1:=wl ha;have l2:=zE7 hb;have l3:=zBn he;have l4:=zE8 hp;have s1:=hs.ls.1;have s2:=hs.es.1;have s3:=hs.cs.1;have s4:=hs.ps;clear hQ hs;refine zA.of_fn (g:=zaE) mix Tryz.func65 zlV rfl rfl ?_;simp only[Tryz.f65,gJ];simp only[zKc];refine zCX (fun fr' h'=>fr' 1= .iptr [a,b,e,p] 0∧h'=g) ?_ ?_
 ·repeat' first|simp only[go_sem,zHm, *]|apply bc<;>intro hc
 rintro fr h ⟨f1,hq⟩;subst hq;simp only[zKc];refine zCX (fun fr' h'=>fr' 42= .bool (zUk c)∧fr' 1= .iptr [a,b,e,p] 0∧h'=h) ?_ ?_
 ·clear hf hfin hcs hes;unfold zUk
  repeat' first|simp only[go_sem,zHm, *]|apply bc<;>intro hc
 clear l2 l3 l4;rintro fr h ⟨f42,f1,hq⟩;subst hq;cases hv:zUk c with
 |true=>
  rw[hv] at f42;clear hfin
  repeat' first|simp only[go_sem,zHm, *]|apply bc<;>intro hc
 |false=>
 rw[hv] at f42;have hfin:=hfin hv;have hlS:∀ (s:List UInt8) h,zCr Tryz.prog 9 (.str s) h=some (.int .i64 s.length):=fun s h=>wC Tryz.underlying9;have hI:=isI;clear hf
 repeat' first|simp only[go_sem,zHm, *]|apply bc<;>intro hc
 clear f42;refine zG (fun i fr h'=>fr 1= .iptr [a,b,e,p] 0∧fr 4= .int .i64 (i:Int)∧IsI (fr 3)∧h'=h) c.ls.length (by omega) ?_ ?_ ?_
 ·simp only[go_sem,zHm,true_and,and_true,Int.ofNat_zero,isI,f1]
 ·rintro i fr h hlt ec ew ⟨f1,f4,⟨n,f3⟩,hq⟩;subst hq;have a1:=wp ha hlt;simp only[Lic.cells] at a1;clear hfin
  repeat' first|simp only[go_sem,zHm, *]|apply bc<;>intro hc
  refine zS (by kernel_rfl) ?_
  repeat' first|simp only[go_sem,zHm, *]|apply bc<;>intro hc
 rintro fr h ec ⟨f1,f4,⟨n,f3⟩,hq⟩;subst hq
 repeat' first|simp only[go_sem,zHm, *]|apply bc<;>intro hc
 clear l1;have l2:=zE7 hb;clear f4 ec;refine zG (fun i fr h'=>fr 1= .iptr [a,b,e,p] 0∧fr 5= .int .i64 (i:Int)∧IsI (fr 3)∧h'=h) c.es.length (by omega) ?_ ?_ ?_
 ·simp only[go_sem,zHm,true_and,and_true,Int.ofNat_zero,isI,f1,f3]
 ·rintro i fr h hlt ec ew ⟨f1,f4,⟨n,f3⟩,hq⟩;subst hq;have a1:=zFs hb hlt;have o1:=zAh (hes _ (List.getElem_mem hlt)).1;generalize c.es[i]=x at *
  simp only[Exc.cells] at a1;clear hfin
  repeat' first|simp only[go_sem,zHm, *]|apply bc<;>intro hc
  refine zS (by kernel_rfl) ?_
  repeat' first|simp only[go_sem,zHm, *]|apply bc<;>intro hc
 rintro fr h ec ⟨f1,f4,⟨n,f3⟩,hq⟩;subst hq
 repeat' first|simp only[go_sem,zHm, *]|apply bc<;>intro hc
 clear l2;have l3:=zBn he;clear f4 ec;refine zG (fun i fr h'=>fr 1= .iptr [a,b,e,p] 0∧fr 6= .int .i64 (i:Int)∧IsI (fr 3)∧h'=h) c.cs.length (by omega) ?_ ?_ ?_
 ·simp only[go_sem,zHm,true_and,and_true,Int.ofNat_zero,isI,f1,f3]
 ·rintro i fr h hlt ec ew ⟨f1,f4,⟨n,f3⟩,hq⟩;subst hq;have a1:=zCf he hlt;obtain⟨o0,o2⟩:=hcs _ (List.getElem_mem hlt);have o1:=yw o0;have oi:=fun j (hj:j<c.cs[i].list.length)=>zAb o0 hj;generalize c.cs[i]=x at *
  simp only[Cla.cells] at a1;clear hfin
  repeat' first|simp only[go_sem,zHm, *]|apply bc<;>intro hc
  refine zS (by kernel_rfl) ?_
  repeat' first|simp only[go_sem,zHm, *]|apply bc<;>intro hc
  refine zy (fun k fr h'=>fr 1= .iptr [a,b,e,p] 0∧fr 6= .int .i64 (i:Int)∧fr 7= .int .i64 (k:Int)∧IsI (fr 3)∧h'=h) x.list.length ?_ ?_
  ·simp only[go_sem,zHm,true_and,and_true,Int.ofNat_zero,isI,f1,f4,f3]
  ·rintro k fr h hk ⟨f1,f6,f7,⟨n,f3⟩,hq⟩;subst hq;by_cases hkl:k<x.list.length
   ·have ek:decide ((k:Int)<(x.list.length:Int))=true:=decide_eq_true (by omega);have ew2:IntKind.i64.wrap ((k:Int)+1)=((k+1:Nat):Int):=zh (by unfold lim;omega);have a2:=oi k hkl;clear oi
    repeat' first|simp only[go_sem,zHm, *]|apply bc<;>intro hc
   ·have ek:decide ((k:Int)<(x.list.length:Int))=false:=decide_eq_false (by omega);clear oi
    repeat' first|simp only[go_sem,zHm, *]|apply bc<;>intro hc
 rintro fr h ec ⟨f1,f4,⟨n,f3⟩,hq⟩;subst hq
 repeat' first|simp only[go_sem,zHm, *]|apply bc<;>intro hc
 clear l3;have l4:=zE8 hp;clear f4 ec;refine zG (fun i fr h'=>fr 1= .iptr [a,b,e,p] 0∧fr 8= .int .i64 (i:Int)∧IsI (fr 3)∧h'=h) c.ps.length (by omega) ?_ ?_ ?_
 ·simp only[go_sem,zHm,true_and,and_true,Int.ofNat_zero,isI,f1,f3]
 ·rintro i fr h hlt ec ew ⟨f1,f4,⟨n,f3⟩,hq⟩;subst hq;have a1:=zFt hp hlt;simp only[Apt.cells] at a1;clear hfin
  repeat' first|simp only[go_sem,zHm, *]|apply bc<;>intro hc
  refine zS (by kernel_rfl) ?_
  repeat' first|simp only[go_sem,zHm, *]|apply bc<;>intro hc
 rintro fr h ec ⟨f1,f4,⟨n,f3⟩,hq⟩;subst hq
 repeat' first|simp only[go_sem,zHm, *]|apply bc<;>intro hc
structure Fac.Ok0 (f:Fac):Prop where
 e:f.e.Ok
 list:zf 1 (yW f.list) f.d
 ll:f.list.length≤1048576
 comp:f.comp.length≤1048576
 out:f.out.length≤1048576
theorem Fac.Ok0.ok {f:Fac} (h:f.Ok0) (hs:f.e.size≤120):f.Ok:=⟨h.e,by omega,h.list,h.ll,h.comp,h.out⟩
def zg5 (fs:List Fac):Prop:=((fs.length≤16∨256<fs.length)∧fs.length≤260)∧∀f∈fs,f.e.size≤120
def zcX (n:Nat):Bool:=(decide ((n:Int)>16)&&decide ((n:Int)≤256))||decide ((n:Int)>260)
set_option maxHeartbeats 4000000 in
theorem zXC {c:Cat} {d x:D} (hc:qW c d) (hs:c.Sm) {fs:List Fac} (hx:zf 12 (zFC fs) x) (hl:fs.length≤1048576) (hok:∀f∈fs,f.Ok0) (g:Heap):zA Tryz.prog 34 [d,x] g fun r h'=>h'=g∧∃b,r= .bool b∧(b=true→zg5 fs):=by
 refine zA.post fun Q hQ=> ?_;have hf:Q (.bool false) g:=hQ _ _ ⟨rfl,_,rfl,fun q=>by cases q⟩;obtain⟨V,V0,Vs,Vf⟩:∃V:Nat→Prop,V 0∧(∀i (hi:i<fs.length),V i→(fs[i]).e.size≤120→V (i+1))∧(V fs.length→∀f∈fs,f.e.size≤120):=by
  refine⟨fun i=>∀j (hj:j<fs.length),j<i→(fs[j]).e.size≤120,fun j hj h0=>by omega,fun i hi hv hn j hj hji=> ?_,fun hv x hx=> ?_⟩
  ·rcases Nat.lt_succ_iff_lt_or_eq.1 hji with h|rfl
   ·exact hv j hj h
   ·exact hn
  ·obtain⟨j,hj,rfl⟩:=List.mem_iff_getElem.1 hx;exact hv j hj hj
 have hfin:zcX fs.length=false→V fs.length→∀b,Q (.bool b) g:=fun hv hV b=>hQ _ _ ⟨rfl,b,rfl,fun _=>by
  unfold zcX at hv;simp only[Bool.or_eq_false_iff,Bool.and_eq_false_iff,decide_eq_false_iff_not] at hv;exact⟨by omega,Vf hV⟩⟩
 have hlx:=zAi hx;have hfc:=zUl hc hs;have hwt:=fun h40=>fun {e:Ex} he hz=>zOh (e:=e) hc hs h40 he hz;obtain⟨ca,cb,ce,cp,rfl,_,_,_,_⟩:=hc;have hv4:∀a b c e:D,zO true 4 [a,b,c,e] 0=some (.agg [a,b,c,e]):=fun a b c e=>zB rfl (by omega);have h47:=zG4;obtain⟨FG,fg1,fg0,fge⟩:∃FG:D→Prop,FG (.bool true)∧(c.ls.length≤40→FG (.bool (zcX fs.length)))∧(∀z,FG z→∃b,z= .bool b∧(b=false→c.ls.length≤40∧zcX fs.length=false)):=⟨fun z=>∃b,z= .bool b∧(b=false→c.ls.length≤40∧zcX fs.length=false),⟨true,rfl,fun q=>by cases q⟩,fun q=>⟨_,rfl,fun w=>⟨q,w⟩⟩,fun z hz=>hz⟩;clear hQ Vf hs
 refine zA.of_fn (g:=zZ7) mix Tryz.func34 zlM rfl rfl ?_;simp only[Tryz.f34,gJ];simp only[zKc];refine zCX (fun fr' h'=>fr' 1=x∧fr' 2= .iptr [ca,cb,ce,cp] 0∧h'=g) ?_ ?_
 ·repeat' first|simp only[go_sem,zLh, *]|apply bc<;>intro hc
 rintro fr h ⟨f1,f2,hq⟩;subst hq;simp only[zKc];refine zCX (fun fr' h'=>FG (fr' 26)∧fr' 1=x∧fr' 2= .iptr [ca,cb,ce,cp] 0∧h'=h) ?_ ?_
 ·clear hf hfin hwt V0 Vs fge
  repeat' first|simp only[go_sem,zLh, *]|apply bc<;>intro hc
  refine(hfc _).mono ?_;rintro r h ⟨hq,b,rfl,hb⟩;subst hq;clear hfc;cases b with
  |false=>
   clear hb fg0
   repeat' first|simp only[go_sem,zLh, *]|apply bc<;>intro hc
  |true=>
   have fg0:=fg0 (hb rfl);unfold zcX at fg0;clear hb;cases w1:decide ((fs.length:Int)>16)<;>cases w2:decide ((fs.length:Int)≤256)<;>cases w3:decide ((fs.length:Int)>260)
   all_goals
    rw[w1,w2,w3] at fg0;simp only[Bool.and_true,Bool.and_false,Bool.or_true,Bool.or_false,Bool.and_self,Bool.or_self,Bool.false_or,Bool.true_or,Bool.false_and,Bool.true_and] at fg0
    repeat' first|simp only[go_sem,zLh, *]|apply bc<;>intro hc
 clear hfc fg1 fg0;rintro fr h ⟨hfg,f1,f2,hq⟩;subst hq;obtain⟨b,f26,hb⟩:=fge _ hfg;clear fge hfg;cases b with
 |true=>
  clear hfin hb hwt Vs V0
  repeat' first|simp only[go_sem,zLh, *]|apply bc<;>intro hc
 |false=>
 obtain⟨h40,hv⟩:=hb rfl;have hwt:=fun {e:Ex} he hz=>hwt h40 (e:=e) he hz;have hfin:=hfin hv;have hI:=isI;have hlS:∀ (s:List UInt8) h,zCr Tryz.prog 9 (.str s) h=some (.int .i64 s.length):=fun s h=>wC Tryz.underlying9;clear hb
 repeat' first|simp only[go_sem,zLh, *]|apply bc<;>intro hc
 clear f26;refine zG (fun i fr h'=>fr 1=x∧fr 2= .iptr [ca,cb,ce,cp] 0∧fr 6= .int .i64 (i:Int)∧IsI (fr 5)∧h'=h∧V i) fs.length (by omega) ?_ ?_ ?_
 ·simp only[go_sem,zLh,true_and,and_true,Int.ofNat_zero,isI,V0,f1,f2]
 ·clear hfin V0;rintro i fr h hlt ec ew ⟨f1,f2,f6,⟨n5,f5⟩,hq,hV⟩;subst hq;have a1:=yy hx hlt;have hm:=hok _ (List.getElem_mem hlt);have hVs:=Vs i hlt hV;generalize fs[i]=f at *
  have oi:=fun j (hj:j<f.list.length)=>zAb hm.list hj;have o1:=yw hm.list;have ol:=hm.ll;have hfe:=zUh hm.e;have hwe:=fun hz=>hwt hm.e hz;simp only[Fac.cells] at a1;simp only[Ex.cells] at hfe hwe;clear hm hV hwt Vs hok
  repeat' first|simp only[go_sem,zLh, *]|apply bc<;>intro hc
  refine zS (by kernel_rfl) ?_
  repeat' first|simp only[go_sem,zLh, *]|apply bc<;>intro hc
  refine zy (fun k fr h'=>fr 1=x∧fr 2= .iptr [ca,cb,ce,cp] 0∧fr 6= .int .i64 (i:Int)∧fr 8= .int .i64 (k:Int)∧IsI (fr 5)∧IsI (fr 7)∧h'=h) f.list.length ?_ ?_
  ·simp only[go_sem,zLh,true_and,and_true,Int.ofNat_zero,isI,f1,f2,f6,f5]
  clear f1 f2 f6 f5 n5;rintro k fr h hk ⟨f1,f2,f6,f8,⟨n5,f5⟩,⟨n,f7⟩,hq⟩;subst hq;cases v4:decide (n>400) with
  |true=>
   have v5:decide (n≤400)=false:=decide_eq_false (by have:=of_decide_eq_true v4;omega);clear oi hVs hwe hfe;cases ek:decide ((k:Int)<(f.list.length:Int))
   ·repeat' first|simp only[go_sem,zLh, *]|apply bc<;>intro hc
   ·repeat' first|simp only[go_sem,zLh, *]|apply bc<;>intro hc
  |false=>
  have v5:decide (n≤400)=true:=decide_eq_true (by have:=of_decide_eq_false v4;omega);by_cases hkl:k<f.list.length
  ·have ek:decide ((k:Int)<(f.list.length:Int))=true:=decide_eq_true (by omega);have ew2:IntKind.i64.wrap ((k:Int)+1)=((k+1:Nat):Int):=zh (by unfold lim;omega);have a2:=oi k hkl;clear oi hVs hwe hfe
   repeat' first|simp only[go_sem,zLh, *]|apply bc<;>intro hc
  ·have ek:decide ((k:Int)<(f.list.length:Int))=false:=decide_eq_false (by omega);clear oi
   repeat' first|simp only[go_sem,zLh, *]|apply bc<;>intro hc
   refine(hfe _).mono ?_;rintro r h' ⟨hq,b,rfl,hb⟩;subst hq;cases b with
   |false=>
    clear hwe hVs hb hfe
    repeat' first|simp only[go_sem,zLh, *]|apply bc<;>intro hc
   |true=>
    have hz:=hb rfl;have hV':=hVs hz;have hw:=hwe (by omega);clear hwe hVs hb hfe
    repeat' first|simp only[go_sem,zLh, *]|apply bc<;>intro hc
    refine zx Heap.emp [(1, .no,false),(0, .no,false),(2, .no,false),(3, .no,false),(4, .no,false),(5, .no,false),(6, .no,false),(7, .no,false),(8, .no,false),(9, .no,false)] (by kernel_rfl) (by kernel_rfl) (fun i ob e=>by cases e) ?_
    repeat' first|simp only[go_sem,zLh, *]|apply bc<;>intro hc|(refine zA.mono (hw _) ?_;rintro r h ⟨hq2,w,rfl⟩)
 ·rintro fr h ec ⟨f1,f2,f6,⟨n5,f5⟩,hq,hV⟩;subst hq;have hfin:=hfin hV;clear Vs V0 hwt
  repeat' first|simp only[go_sem,zLh, *]|apply bc<;>intro hc
end Go.V
