/- Rules of the machine of abstract values, part 7. No condition. -/
import Derived.Test.YtalepjdbhjinhaaGreatDoorW32
import Derived.Test.YtalepjdbhjinhaaGreatDoorW31
set_option linter.all false
namespace Go.V
theorem zKf (h:Heap) (i:Nat) (o o':Obj):(h.set i o).set i o'=h.set i o':=by
 unfold Heap.set;simp only[Heap.mk.injEq,true_and]
 funext j
 by_cases e:j=i<;>simp[e]
theorem zA.post {P:Program} {f:FuncId} {args:List D} {h:Heap} {R:D→Heap→Prop} (H:∀Q:D→Heap→Prop,(∀r h',R r h'→Q r h')→zA P f args h Q):zA P f args h R:=H R fun _ _ x=>x
section
variable {P:Program} {sz:Nat} {t e:TypeId} {id off len:Nat} {h:Heap} {xs:List (List D)}
theorem zDY (he:yr P t=some e) (hz:szT P e=sz) {k:IntKind} {i:Nat} (hi:i<len):zR P t (.rs id sz off len) (.int k (i:Int))=some (.ptr id (off+i*sz)):=by
 simp[zR,he,hz,hi]
theorem zF0 (ha:zKx P t=none) (he:yr P t=some e) (hz:szT P e=sz) {k:IntKind} {n:Nat} (hn:n≤len):yZ P t (.rs id sz 0 len) (some (.int k (n:Int))) none none h=some (.rs id sz (n*sz) (len-n)):=by
 simp[yZ,ha,zCN,he,hz,qj,zIC,zJa,hn]
theorem zHr (hx:∀x∈xs,x.length=sz) (h0:0<sz) {a i:Nat} {x:List D} (hi:xs[a+i]? =some x):ze true sz xs.flatten (a*sz+i*sz)=some (.agg x):=by
 rw[←Nat.add_mul];exact zDB hx h0 hi
theorem zTU (cs vs:List D) (off:Nat) (h:off+vs.length=cs.length):y8 cs vs off=cs.take off++vs:=by
 unfold y8;rw[List.drop_of_length_le (by omega),List.append_nil]
theorem zTV (hx:∀x∈xs,x.length=sz):∀ {n:Nat},xs.flatten.take (n*sz)=(xs.take n).flatten:=by
 induction xs with
 |nil=>intro n;simp
 |cons x xs ih=>
  intro n;cases n with
  |zero=>simp
  |succ n=>
   have hl:=hx x (by simp);rw[List.flatten_cons,List.take_succ_cons,List.flatten_cons,Nat.succ_mul,List.take_append,List.take_of_length_le (by omega),show n*sz+sz-x.length=n*sz by omega,ih (fun y hy=>hx y (by simp[hy]))]
theorem zTW {z:D} (he:yr P t=some e) (hz:qS P e=some z) (hzt:z.notTuple=true) (hzl:z.cells.length=sz) (hi:h.at' id=some (.row xs.flatten)) (hx:∀x∈xs,x.length=sz) {n:Nat} (hn:n≤xs.length):
  ∃rest,zBj P t (.rs id sz (n*sz) (xs.length-n)) h=some (h.set id (.row ((xs.take n).flatten++rest))):=by
 by_cases h0:xs.length-n=0
 ·refine⟨[],?_⟩;have hnl:n=xs.length:=by omega
  have hs:h.set id (.row ((xs.take n).flatten++ []))=h:=by
   rw[hnl,List.take_length,List.append_nil];exact zEX hi
  rw[hs];simp only[zBj,he,hz,h0,if_true]
 ·refine⟨zBW (xs.length-n) z.cells,?_⟩;have hr:∀m,(zBW m z.cells).length=m*sz:=by
   intro m
   induction m with
   |zero=>simp[zBW]
   |succ m ih=>
    change (List.replicate m z.cells).flatten.length=m*sz at ih;change (List.replicate (m+1) z.cells).flatten.length=(m+1)*sz;rw[List.replicate_succ,List.flatten_cons,List.length_append,hzl,Nat.succ_mul];omega
  have hfl:=qR hx;have hmul:n*sz+(xs.length-n)*sz=xs.length*sz:=by rw[←Nat.add_mul];congr 1;omega
  simp only[zBj,he,hz];rw[if_neg h0,if_pos (by simp[hzt,hzl]),hi];simp only;rw[if_pos (by omega),zTU _ _ _ (by rw[hr];omega),zTV hx]
end
theorem zY {sz:Nat} {xs:List (List D)} {d:D} (h:zX sz xs d):d.cells= [d]∧d.notTuple=true∧d.flat=true:=by
 rcases h with⟨rfl,_⟩ | ⟨tk,rfl⟩ <;>exact⟨rfl,rfl,rfl⟩
open Go.Proofs
set_option maxRecDepth 100000
theorem zJK (e:Ex):∀l:List Ex,yH (l++ [e])=yH l+e.size
 | []=>by simp[yH]
 |x::l=>by
  have:=zJK e l;simp only[List.cons_append,yH,this];omega
theorem zdz {a:Nat} (ha:a≤4194304):zA1 .quo .i64 .i64 (a:Int) 40=some (.int .i64 ((a/40:Nat):Int)):=by
 have hb:((a:Int)).tdiv 40=((a/40:Nat):Int):=by
  rw[Int.tdiv_eq_ediv_of_nonneg (by omega)];omega
 have hq:a/40≤4194304:=Nat.le_trans (Nat.div_le_self _ _) ha;simp only[zA1,zN3,if_true];rw[if_neg (by decide),hb];generalize a/40=z at *
 rw[zx (by omega) (by omega)]
set_option maxHeartbeats 4000000 in
theorem zNk:∀ (deep:Nat),deep≤40→∀ {e:Ex},e.Ok→∀ (most:Nat),most≤120→∀g:Heap,zA Tryz.prog 130 [.agg e.cells, .int .i64 (most:Int), .int .i64 (deep:Int)] g fun r h'=>h'=g∧∃n:Nat,r= .int .i64 (n:Int)∧n≤most+100001∧(n≤most→e.size≤n):=by
 intro deep
 induction deep with
 |zero=>
  intro _ e hok most hm g;refine zA.post fun Q hQ=> ?_;obtain⟨k,nm,x,l,d⟩:=e;simp only[Ex.Ok] at hok;obtain⟨hd,hl,h1,h2,hks⟩:=hok;have ew:IntKind.i64.wrap ((most:Int)+1)=((most+1:Nat):Int):=zf (by unfold lim;omega);have hw1:IntKind.i64.wrap ((nm.length:Int)+(x.length:Int))=((nm.length+x.length:Nat):Int):=by rw[zx (by omega) (by omega)];omega
  have hq:=zdz (a:=nm.length+x.length) (by omega);have hd0:(((0:Nat):Int)==0)=true:=rfl;have hfin:=hQ (.int .i64 ((most+1:Nat):Int)) g ⟨rfl,most+1,rfl,by omega,fun q=>by omega⟩;clear hQ;refine zA.of_fn (g:=zOe) mix Tryz.func130 zch rfl rfl ?_;simp only[Tryz.f130,gJ];simp only[Ex.cells,Ex.kind,Ex.name,Ex.exc,Ex.d]
  repeat' first|simp only[go_sem,zNF, *]|apply bc<;>intro hc
 |succ deep ih=>
  intro hdp e hok most hm g;refine zA.post fun Q hQ=> ?_;obtain⟨k,nm,x,l,d⟩:=e;simp only[Ex.Ok] at hok;obtain⟨hd,hl,h1,h2,hks⟩:=hok;have hlen:=zDt hd;have hv4:∀a b c e:D,ze true 4 [a,b,c,e] 0=some (.agg [a,b,c,e]):=fun a b c e=>zB rfl (by omega);have hw1:IntKind.i64.wrap ((nm.length:Int)+(x.length:Int))=((nm.length+x.length:Nat):Int):=by rw[zx (by omega) (by omega)];omega
  have hq:=zdz (a:=nm.length+x.length) (by omega);have hzb:(nm.length+x.length)/40≤52429:=by omega
  have hw2:IntKind.i64.wrap (1+(((nm.length+x.length)/40:Nat):Int))=((1+(nm.length+x.length)/40:Nat):Int):=by
   generalize(nm.length+x.length)/40=z at *
   rw[zx (by omega) (by omega)];omega
  have hd0:(((deep+1:Nat):Int)==0)=false:=by simp;omega
  have hdw:IntKind.i64.wrap (((deep+1:Nat):Int)-1)=(deep:Int):=by rw[zx (by omega) (by omega)];omega
  have hsz:(Ex.mk k nm x l d).size=yH l+1:=by simp only[Ex.size]
  rw[hsz] at hQ;clear hsz;generalize hz:1+(nm.length+x.length)/40=z at *
  have hz1:1≤z:=by omega
  have hz2:z≤52430:=by omega
  clear hz hzb;refine zA.of_fn (g:=zOe) mix Tryz.func130 zch rfl rfl ?_;simp only[Tryz.f130,gJ];simp only[Ex.cells,Ex.kind,Ex.name,Ex.exc,Ex.d]
  repeat' first|simp only[go_sem,zNF, *]|apply bc<;>intro hc
  refine yG (fun i fr h=>fr 1= .int .i64 (most:Int)∧fr 2= .int .i64 ((deep+1:Nat):Int)∧fr 3= .iptr [.int .i64 k, .str nm, .str x,d] 0∧fr 8= .int .i64 (i:Int)∧h=g∧∃n:Nat,fr 7= .int .i64 (n:Int)∧n≤most+100001∧(n≤most→yH (l.take i)+1≤n)) l.length ?_ ?_
  ·have hres:∃n:Nat,D.int .i64 (z:Int)= .int .i64 (n:Int)∧n≤most+100001∧(n≤most→yH (l.take 0)+1≤n):=⟨z,rfl,by omega,fun _=>by simp[yH];omega⟩;simp only[go_sem,zNF,true_and,and_true,Int.ofNat_zero];exact hres
  rintro i fr h hi ⟨f1,f2,f3,f8,rfl,n,f7,n1,n2⟩;by_cases hlt:i<l.length
  ·have e1:decide ((i:Int)<(l.length:Int))=true:=decide_eq_true (by omega);have ew:IntKind.i64.wrap ((i:Int)+1)=((i+1:Nat):Int):=zf (by unfold lim;omega);cases e2:decide ((n:Int)≤(most:Int)) with
   |true=>
    have e2':=of_decide_eq_true e2;have a1:=zMF hd hlt;have hm0:l[i]∈l:=List.getElem_mem hlt;have hsub:IntKind.i64.wrap ((most:Int)- (n:Int))=((most-n:Nat):Int):=by rw[zx (by omega) (by omega)];omega
    have hq2:=ih (by omega) (e:=l[i]) (zDs hks _ hm0) (most-n) (by omega) h;have htk:yH (l.take (i+1))=yH (l.take i)+l[i].size:=by rw[List.take_succ_eq_append_getElem hlt,zJK]
    simp only[Ex.cells] at a1 hq2;generalize l[i]=e at *
    clear hQ ih hm0
    repeat' first|simp only[go_sem,zNF, *]|apply bc<;>intro hc
    refine hq2.mono ?_;rintro r h3 ⟨hq3,m,rfl,m1,m2⟩;subst hq3;have hadd:IntKind.i64.wrap ((n:Int)+(m:Int))=((n+m:Nat):Int):=by rw[zx (by omega) (by omega)];omega
    have hres:i<l.length∧∃n':Nat,D.int .i64 ((n+m:Nat):Int)= .int .i64 (n':Int)∧n'≤most+100001∧(n'≤most→yH (l.take (i+1))+1≤n'):=⟨hlt,n+m,rfl,by omega,fun q=>by have:=m2 (by omega);have:=n2 (by omega);omega⟩;clear n2 m2 htk m1 n1 hq2
    repeat' first|simp only[go_sem,zNF, *]|apply bc<;>intro hc
   |false=>
    have e2':=of_decide_eq_false e2;have hfin:=hQ (.int .i64 (n:Int)) h ⟨rfl,n,rfl,n1,fun q=>by omega⟩;clear hQ ih n2 n1 e2'
    repeat' first|simp only[go_sem,zNF, *]|apply bc<;>intro hc
  ·have e1:decide ((i:Int)<(l.length:Int))=false:=decide_eq_false (by omega);have hfin:=hQ (.int .i64 (n:Int)) h ⟨rfl,n,rfl,n1,fun q=>by have:=n2 q;rw[List.take_of_length_le (by omega)] at this;exact this⟩;clear hQ ih n2 n1
   repeat' first|simp only[go_sem,zNF, *]|apply bc<;>intro hc
theorem zTX {e:Ex} (hok:e.Ok) (g:Heap):zA Tryz.prog 79 [.agg e.cells] g fun r h'=>h'=g∧∃b,r= .bool b∧(b=true→e.size≤120):=by
 refine zA.post fun Q hQ=> ?_;have hc:=zNk 40 (by omega) hok 120 (by omega);have hv4:ze true 4 e.cells 0=some (.agg e.cells):=zB rfl (by omega);have h120:((120:Nat):Int)=120:=rfl;have h40:((40:Nat):Int)=40:=rfl;rw[h120,h40] at hc;clear h120 h40;refine zA.of_fn (g:=zZA) mix Tryz.func79 zjY rfl rfl ?_;simp only[Tryz.f79,gJ]
 repeat' first|simp only[go_sem,ziX, *]|apply bc<;>intro hc
 refine(hc _).mono ?_;rintro r h ⟨hq,n,rfl,n1,n2⟩;subst hq;have hfin:=hQ (.bool (decide ((n:Int)≤120))) h ⟨rfl,_,rfl,fun q=>by have:=of_decide_eq_true q;have:=n2 (by omega);omega⟩;clear hQ hc n2
 repeat' first|simp only[go_sem,ziX, *]|apply bc<;>intro hc
theorem zEo {c:Cat} {d:D} (hc:wR c d) (hs:c.Sm) (s:List UInt8) (g:Heap):zA Tryz.prog 249 [d, .str s] g fun r h'=>h'=g∧r= .int .i64 (zIT (fun x:Lic=>x.name==s) c.ls):=by
 obtain⟨a,b,e,p,rfl,ha,hb,he,hp⟩:=hc;have hlen:=zAV ha;have hl:=hs.ls.1;obtain⟨q1,q2,_⟩:=zY ha;refine zA.of_fn (g:=zSO) mix Tryz.func249 zgd rfl rfl ?_;simp only[Tryz.f249,gJ]
 repeat' first|simp only[go_sem,zSP, *]|apply bc<;>intro hc
 refine zD (fun i fr h=>fr 1= .str s∧fr 2= .iptr [a,b,e,p] 0∧fr 5= .int .i64 (i:Int)∧h=g∧∀j (hj:j<c.ls.length),j<i→(c.ls[j].name==s)=false) c.ls.length (by omega) ?_ ?_ ?_
 ·simp only[go_sem,zSP,true_and,and_true,Int.ofNat_zero];exact fun j hj h0=>by omega
 ·rintro i fr h hlt e1 ew ⟨f1,f2,f5,rfl,hj⟩;have a1:=wx ha hlt;have k0:c.ls[i].cells[0]? =some (.str c.ls[i].name):=rfl;cases hb1:(c.ls[i].name==s) with
  |true=>
   have hx:=zCr (p:=fun x:Lic=>x.name==s) hlt hj hb1;clear hj
   repeat' first|simp only[go_sem,zSP, *]|apply bc<;>intro hc
  |false=>
   have hn:=ql (p:=fun x:Lic=>x.name==s) hlt hj hb1;clear hj
   repeat' first|simp only[go_sem,zSP, *]|apply bc<;>intro hc
   exact hn
 ·rintro fr h e1 ⟨f1,f2,f5,rfl,hj⟩;have hx:=zCs (p:=fun x:Lic=>x.name==s) fun j hj'=>hj j hj' hj';clear hj
  repeat' first|simp only[go_sem,zSP, *]|apply bc<;>intro hc
theorem zMG (x y:Apt) (g:Heap):zA Tryz.prog 299 [.agg x.cells, .agg y.cells] g fun r h'=>h'=g∧∃b,r= .bool b:=by
 refine zA.post fun Q hQ=> ?_;have hfin:∀b,Q (.bool b) g:=fun b=>hQ _ _ ⟨rfl,b,rfl⟩;clear hQ;refine zA.of_fn (g:=zSa) mix Tryz.func299 zgy rfl rfl ?_;simp only[Tryz.f299,gJ];simp only[Apt.cells]
 repeat' first|simp only[go_sem,zgx, *]|apply bc<;>intro hc
theorem zTY {c:Cat} {d:D} (hc:wR c d) (hs:c.Sm) {i:Nat} (hi:i<c.ps.length) (g:Heap):zA Tryz.prog 282 [d, .int .i64 (i:Int)] g fun r h'=>h'=g∧∃n,r= .int .i64 n:=by
 refine zA.pure (by kernel_rfl) fun hok=>zA.strip ?_;refine zA.post fun Q hQ=> ?_;have hfi:=zEo hc hs;have hfin:∀n h,Ext g h→Q (.int .i64 n) h:=fun n h hE=>hQ _ _ ⟨hE,trivial,n,rfl⟩;have hbe:=zMG;obtain⟨a,b,e,p,rfl,ha,hb,he,hp⟩:=hc;clear hQ;have a1:=zHl hp hi;have hv4:ze true 4 [a,b,e,p] 0=some (.agg [a,b,e,p]):=zB rfl (by omega);have hv2:∀z:Apt,ze true 2 z.cells 0=some (.agg z.cells):=fun z=>zB rfl (by omega);have k0:c.ps[i].cells[0]? =some (.str c.ps[i].a):=rfl;have k1:c.ps[i].cells[1]? =some (.str c.ps[i].b):=rfl
 have hst:zW Tryz.prog 147 (.ptr g.next 0) (.agg c.ps[i].cells) (g.new g.next (.row [.str [], .str []]))=some (g.new g.next (.row c.ps[i].cells)):=zg zKF (by omega) rfl rfl rfl;refine zA.of_fn (g:=zSA) mix Tryz.func282 zgM rfl rfl ?_;simp only[Tryz.f282,gJ];obtain⟨G,hG,hGr,hE⟩:∃G:Heap,g.new g.next (.row c.ps[i].cells)=G∧G.at' g.next=some (.row c.ps[i].cells)∧Ext g G:=⟨_,rfl,zQ _ _ _,(Ext.refl g).new (Nat.le_refl _) _⟩;rw[hG] at hst;have hfn:=fun n=>hfin n G hE;clear hfin hG;rcases i with _|j
 ·have h0:decide (((0:Nat):Int)>0)=false:=rfl
  repeat' first|simp only[go_sem,zUx, *]|apply bc<;>intro hc|(refine zA.mono (hfi _ _) ?_;rintro r h ⟨hq,rfl⟩)
  refine qG Heap.emp [(0, .no,false),(1, .no,false),(2, .no,false),(3, .no,false),(4, .no,false),(5, .no,false),(6, .no,false),(7, .no,false),(8, .no,false),(15, .no,false),(9, .no,false),(10, .no,false),(11, .no,false),(12, .no,false),(13, .no,false),(14, .no,false),(16, .no,false),(17, .no,false),(18, .no,false),(19, .no,false)] (by kernel_rfl) (by kernel_rfl) (fun i ob e=>by cases e) ?_
  repeat' first|simp only[go_sem,zUx, *]|apply bc<;>intro hc
 ·have h0:decide (((j+1:Nat):Int)>0)=true:=decide_eq_true (by omega);have ew:IntKind.i64.wrap (((j+1:Nat):Int)-1)=(j:Int):=by rw[zx (by have:=hs.ps;omega) (by have:=hs.ps;omega)];omega
  have a2:=zHl hp (show j<c.ps.length by omega);have hb2:=hbe c.ps[j] c.ps[j+1]
  repeat' first|simp only[go_sem,zUx, *]|apply bc<;>intro hc|(refine zA.mono (hfi _ _) ?_;rintro r h ⟨hq,rfl⟩)
  refine qG Heap.emp [(0, .no,false),(1, .no,false),(2, .no,false),(3, .no,false),(4, .no,false),(5, .no,false),(6, .no,false),(7, .no,false),(8, .no,false),(15, .no,false),(9, .no,false),(10, .no,false),(11, .no,false),(12, .no,false),(13, .no,false),(14, .no,false),(16, .no,false),(17, .no,false),(18, .no,false),(19, .no,false)] (by kernel_rfl) (by kernel_rfl) (fun i ob e=>by cases e) ?_
  repeat' first|simp only[go_sem,zUx, *]|apply bc<;>intro hc|(refine zA.mono (hb2 _) ?_;rintro r h ⟨hq,w,rfl⟩)
theorem zTZ (x y:Cla) (g:Heap):zA Tryz.prog 298 [.agg x.cells, .agg y.cells] g fun r h'=>h'=g∧∃b,r= .bool b:=by
 refine zA.post fun Q hQ=> ?_;have hfin:∀b,Q (.bool b) g:=fun b=>hQ _ _ ⟨rfl,b,rfl⟩;clear hQ;refine zA.of_fn (g:=zST) mix Tryz.func298 zgj rfl rfl ?_;simp only[Tryz.f298,gJ];simp only[Cla.cells]
 repeat' first|simp only[go_sem,zgi, *]|apply bc<;>intro hc
theorem zNl (s:List UInt8) (hl:s.length≤1048576) (g:Heap):zA Tryz.prog 297 [.str s] g fun r h'=>h'=g∧∃b,r= .bool b:=by
 refine zA.post fun Q hQ=> ?_;have hfin:∀b,Q (.bool b) g:=fun b=>hQ _ _ ⟨rfl,b,rfl⟩;have hlen:∀h,zAd Tryz.prog 9 (.str s) h=some (.int .i64 s.length):=fun h=>z7 Tryz.underlying9;clear hQ;refine zA.of_fn (g:=zSC) mix Tryz.func297 zgP rfl rfl ?_;simp only[Tryz.f297,gJ]
 repeat' first|simp only[go_sem,zUy, *]|apply bc<;>intro hc
 refine zD (fun i fr h=>fr 0= .str s∧fr 3= .int .i64 (i:Int)∧h=g) s.length (by omega) ?_ ?_ ?_
 ·simp only[go_sem,zUy,true_and,and_true,Int.ofNat_zero]
 ·rintro i fr h hlt e1 ew ⟨f0,f3,rfl⟩;have a1:zA2 Tryz.prog 9 (.str s) (.int .i64 (i:Int))=some (.int .u8 s[i].toNat):=wj Tryz.underlying9 (List.getElem?_eq_getElem hlt)
  repeat' first|simp only[go_sem,zUy, *]|apply bc<;>intro hc
 ·rintro fr h e1 ⟨f0,f3,rfl⟩
  repeat' first|simp only[go_sem,zUy, *]|apply bc<;>intro hc
set_option maxHeartbeats 1000000 in
theorem zDu (s:List UInt8) (hl:s.length≤1048576) (g:Heap):zA Tryz.prog 295 [.str s] g fun r h'=>h'=g∧∃b,r= .bool b:=by
 refine zA.post fun Q hQ=> ?_;have hfin:∀b,Q (.bool b) g:=fun b=>hQ _ _ ⟨rfl,b,rfl⟩;have hlen:∀h,zAd Tryz.prog 9 (.str s) h=some (.int .i64 s.length):=fun h=>z7 Tryz.underlying9;clear hQ;refine zA.of_fn (g:=zRp) mix Tryz.func295 zfn rfl rfl ?_;simp only[Tryz.f295,gJ];cases h0:decide ((s.length:Int)<1) with
 |true=>
  repeat' first|simp only[go_sem,zRq, *]|apply bc<;>intro hc
 |false=>
  have h0':=of_decide_eq_false h0;have hp:0<s.length:=by omega
  have a0:zA2 Tryz.prog 9 (.str s) (.int .i64 0)=some (.int .u8 s[0].toNat):=wj (n:=0) Tryz.underlying9 (List.getElem?_eq_getElem hp)
  repeat' first|simp only[go_sem,zRq, *]|apply bc<;>intro hc
  refine zD (fun i fr h=>fr 0= .str s∧fr 3= .int .i64 (i:Int)∧h=g) s.length (by omega) ?_ ?_ ?_
  ·simp only[go_sem,zRq,true_and,and_true,Int.ofNat_zero]
  ·rintro i fr h hlt e1 ew ⟨f0,f3,rfl⟩;have a1:zA2 Tryz.prog 9 (.str s) (.int .i64 (i:Int))=some (.int .u8 s[i].toNat):=wj Tryz.underlying9 (List.getElem?_eq_getElem hlt)
   repeat' first|simp only[go_sem,zRq, *]|apply bc<;>intro hc
  ·rintro fr h e1 ⟨f0,f3,rfl⟩
   repeat' first|simp only[go_sem,zRq, *]|apply bc<;>intro hc
theorem zMH {s:List UInt8} (hl:s.length≤1048576) (g:Heap):zA Tryz.prog 296 [.str s] g fun r h'=>h'=g∧∃ps:List (List UInt8),zX 1 (zt ps) r∧ps.length≤s.length+1:=by
 refine zA.pure (by kernel_rfl) fun hok=>zA.strip ?_;refine zA.post fun Q hQ=> ?_;have hnil:Q .nilsl g:=hQ _ _ ⟨Ext.refl g,trivial,[], .inl ⟨rfl,rfl⟩,by simp⟩;have hfin:∀ps d h,Own g h 1 (zt ps) d→ps.length≤s.length+1→Q d h:=fun ps d h ho hp=>hQ _ _ ⟨(ho.fin yW).1,(ho.fin yW).2.1,ps,(ho.fin yW).2.2.isSl,hp⟩;clear hQ;refine zA.of_fn (g:=zRz) mix Tryz.func296 zf7 rfl rfl ?_;simp only[Tryz.f296,gJ]
 repeat' first|simp only[go_sem,zNE, *]|apply bc<;>intro hc
 clear hnil;refine zD (fun i fr h'=>fr 0= .str s∧fr 5= .int .i64 (i:Int)∧∃ (d:D) (ps:List (List UInt8)) (f:Nat),fr 3=d∧fr 4= .int .i64 (f:Int)∧f≤i∧ps.length≤i∧Own g h' 1 (zt ps) d) s.length (by omega) ?_ ?_ ?_
 ·simp only[go_sem,zNE,true_and,and_true,Int.ofNat_zero];exact⟨.nilsl,[],0,rfl,rfl,Nat.le_refl _,Nat.le_refl _,Own.start (Ext.refl g) 1⟩
 ·rintro i fr h' hlt e1 ew ⟨f0,f5,d,ps,f,f3,f4,hf,hps,ho⟩;have h10:((s[i].toNat:Int)==10)=(s[i]==10):=zhL s[i] 10;cases hc:(s[i]==10) with
  |true=>
   repeat' first|simp only[go_sem,zNE,zXc hlt,h10,zZl hf (Nat.le_of_lt hlt),zCq,ew, *]|apply bc<;>intro hc
   refine ho.str (by omega) fun d' h' ho'=> ?_
   repeat' first|simp only[go_sem,zNE,ew, *]|apply bc<;>intro hc
   exact⟨d',_,i+1,rfl,rfl,Nat.le_refl _,by simp;omega,ho'⟩
  |false=>
   repeat' first|simp only[go_sem,zNE,zXc hlt,h10,ew, *]|apply bc<;>intro hc
   exact⟨d,ps,f,rfl,rfl,by omega,by omega,ho⟩
 ·rintro fr h' e1 ⟨f0,f5,d,ps,f,f3,f4,hf,hps,ho⟩
  repeat' first|simp only[go_sem,zNE,zdp hf,zCq, *]|apply bc<;>intro hc
  refine ho.str (by omega) fun d' h' ho'=> ?_;have hq:=hfin _ _ _ ho' (by simp;omega);clear hfin
  repeat' first|simp only[go_sem,zNE, *]|apply bc<;>intro hc
set_option maxHeartbeats 2000000 in
theorem zVp {c:Cat} {d:D} (hc:wR c d) (hs:c.Sm) {i:Nat} (hi:i<c.ls.length) (g:Heap):zA Tryz.prog 279 [d, .int .i64 (i:Int)] g fun r h'=>h'=g∧∃n,r= .int .i64 n∧(n=0→0≤(c.ls[i]).ver∧(c.ls[i]).ver≤999):=by
 refine zA.pure (by kernel_rfl) fun hok=>zA.strip ?_;refine zA.post fun Q hQ=> ?_;have hsm:=hs.ls.2 _ (List.getElem_mem hi);have hl:=hs.ls.1;obtain⟨a,b,e,p,rfl,ha,hb,he,hp⟩:=hc;have a1:=wx ha hi;have hv4:∀a b c e:D,ze true 4 [a,b,c,e] 0=some (.agg [a,b,c,e]):=fun a b c e=>zB rfl (by omega);have hprev:∀j,j<c.ls.length→∃y:Lic,zR Tryz.prog 22 a (.int .i64 (j:Int))=some (.iptr [.str y.name, .str y.fam, .int .i64 y.ver, .str y.text] 0):=fun j hj=>⟨_,wx ha hj⟩;generalize hx:c.ls[i]=x at *
 obtain⟨nm,fm,vr,tx⟩:=x;obtain⟨m1,m2,m3⟩:=hsm;have hst:=zCT ⟨nm,fm,vr,tx⟩ g g.next;have c1:=zDu nm m1;have c2:=zDu fm m2;have c3:=zMH m3;have c4:=zNl tx m3;simp only[Lic.cells] at a1 hst;obtain⟨G,hG,hGr,hE⟩:∃G:Heap,g.new g.next (.row [.str nm, .str fm, .int .i64 vr, .str tx])=G∧G.at' g.next=some (.row [.str nm, .str fm, .int .i64 vr, .str tx])∧Ext g G:=⟨_,rfl,zQ _ _ _,(Ext.refl g).new (Nat.le_refl _) _⟩;rw[hG] at hst;have hfin:∀n,n≠0→Q (.int .i64 n) G:=fun n hn=>hQ _ _ ⟨hE,trivial,n,rfl,fun q=>absurd q hn⟩;have f2:=hfin 2 (by decide);have f3:=hfin 3 (by decide);have f4:=hfin 4 (by decide)
 have f5:=hfin 5 (by decide);have f6:=hfin 6 (by decide);have f10:=hfin 10 (by decide);have f0:decide (vr<0)=false→decide (vr>999)=false→Q (.int .i64 0) G:=fun q1 q2=>hQ _ _ ⟨hE,trivial,0,rfl,fun _=>⟨show 0≤vr by have:=of_decide_eq_false q1;omega,show vr≤999 by have:=of_decide_eq_false q2;omega⟩⟩;clear hQ hG hx hfin;refine zA.of_fn (g:=zSo) mix Tryz.func279 zhD rfl rfl ?_;simp only[Tryz.f279,gJ];cases v1:decide (vr<0) with
 |true=>
  clear f0 hprev
  repeat' first|simp only[go_sem,zHP, *]|apply bc<;>intro hc|(refine zA.mono (c1 _) ?_;rintro r h ⟨hq,w,rfl⟩)|(refine zA.mono (c2 _) ?_;rintro r h ⟨hq,w,rfl⟩)
 |false=>
 cases v2:decide (vr>999) with
 |true=>
  clear f0 hprev
  repeat' first|simp only[go_sem,zHP, *]|apply bc<;>intro hc|(refine zA.mono (c1 _) ?_;rintro r h ⟨hq,w,rfl⟩)|(refine zA.mono (c2 _) ?_;rintro r h ⟨hq,w,rfl⟩)
 |false=>
 have f0:=f0 v1 v2
 repeat' first|simp only[go_sem,zHP, *]|apply bc<;>intro hc|(refine zA.mono (c1 _) ?_;rintro r h ⟨hq,w,rfl⟩)|(refine zA.mono (c2 _) ?_;rintro r h ⟨hq,w,rfl⟩)
 refine(c3 _).mono ?_;rintro r h2 ⟨hq2,ps,hps,_⟩;subst hq2;have hln:=yA hps;clear c3 hst;have hB:=zbJ
 repeat' first|simp only[go_sem,zHP, *]|apply bc<;>intro hc|(refine zA.mono (c4 _) ?_;rintro r h ⟨hq,w,rfl⟩)
 clear c1 c2 c4;refine zBG (fun fr' h'=>zbI (fr' 58)∧fr' 1= .int .i64 (i:Int)∧fr' 2= .iptr [a,b,e,p] 0∧fr' 5= .ptr g.next 0∧h'=h2) ?_ ?_
 ·rcases i with _|j
  ·have h0:decide (((0:Nat):Int)>0)=false:=rfl;clear hprev;refine zi (by kernel_rfl) ?_
   repeat' first|simp only[go_sem,zHP, *]|apply bc<;>intro hc
  ·have h0:decide (((j+1:Nat):Int)>0)=true:=decide_eq_true (by omega);have ew:IntKind.i64.wrap (((j+1:Nat):Int)-1)=(j:Int):=by rw[zx (by omega) (by omega)];omega
   obtain⟨y,a2⟩:=hprev j (by omega);clear hprev;refine zi (by kernel_rfl) ?_
   repeat' first|simp only[go_sem,zHP, *]|apply bc<;>intro hc
 rintro fr h' ⟨⟨b58,f58⟩,g1,g2,g5,hq⟩;generalize g.next=n0 at *
 subst hq
 repeat' first|simp only[go_sem,zHP, *]|apply bc<;>intro hc
 clear f58 hB;refine zD (fun k fr h=>fr 1= .int .i64 (i:Int)∧fr 2= .iptr [a,b,e,p] 0∧fr 5= .ptr n0 0∧fr 6= .int .i64 (k:Int)∧h=h') i (by omega) ?_ ?_ ?_
 ·simp only[go_sem,zHP,true_and,and_true,Int.ofNat_zero,g1,g2,g5]
 ·rintro k fr h hlt ec ew ⟨f1,f2,f5,f6,hq⟩;subst hq;obtain⟨y,a2⟩:=hprev k (by omega);clear hprev
  repeat' first|simp only[go_sem,zHP, *]|apply bc<;>intro hc
  refine zi (by kernel_rfl) ?_
  repeat' first|simp only[go_sem,zHP, *]|apply bc<;>intro hc
 ·rintro fr h ec ⟨f1,f2,f5,f6,hq⟩;subst hq;clear hprev
  repeat' first|simp only[go_sem,zHP, *]|apply bc<;>intro hc
set_option maxHeartbeats 2000000 in
theorem zVq {c:Cat} {d:D} (hc:wR c d) (hs:c.Sm) {i:Nat} (hi:i<c.es.length) (g:Heap):zA Tryz.prog 280 [d, .int .i64 (i:Int)] g fun r h'=>h'=g∧∃n,r= .int .i64 n:=by
 refine zA.pure (by kernel_rfl) fun hok=>zA.strip ?_;refine zA.post fun Q hQ=> ?_;have hfi:=zEo hc hs;have hfin:∀n h,Ext g h→Q (.int .i64 n) h:=fun n h hE=>hQ _ _ ⟨hE,trivial,n,rfl⟩;obtain⟨o1,o2,o3⟩:=hs.es.2 _ (List.getElem_mem hi);have hl:=hs.es.1;obtain⟨a,b,e,p,rfl,ha,hb,he,hp⟩:=hc;have a1:=zFT hb hi;have hv4:∀a b c e:D,ze true 4 [a,b,c,e] 0=some (.agg [a,b,c,e]):=fun a b c e=>zB rfl (by omega);have hv3:∀a b c:D,ze true 3 [a,b,c] 0=some (.agg [a,b,c]):=fun a b c=>zB rfl (by omega)
 have hprev:∀j,j<c.es.length→∃y:Exc,zR Tryz.prog 23 b (.int .i64 (j:Int))=some (.iptr [.str y.name, .str y.lic,y.d] 0):=fun j hj=>⟨_,zFT hb hj⟩;generalize hx:c.es[i]=x at *
 obtain⟨nm,lc,lf,ld⟩:=x;have c1:=zDu nm o3;have o2:lf.length≤1048576:=o2;have hlen:=zDE o1;have hix:∀j,j<lf.length→∃z:Int,zR Tryz.prog 137 ld (.int .i64 (j:Int))=some (.iptr [.int .i64 z] 0):=fun j hj=>⟨_,zHj o1 hj⟩;simp only[Exc.cells] at a1;have hst:zW Tryz.prog 139 (.ptr g.next 0) (.agg [.str nm, .str lc,ld]) (g.new g.next (.row [.str [], .str [], .nilsl]))=some (g.new g.next (.row [.str nm, .str lc,ld])):=zg zHK (by omega) rfl rfl (by show(true&&(true&&(ld.flat&&true)))=true;rw[zBd o1];rfl)
 obtain⟨G,hG,hGr,hE⟩:∃G:Heap,g.new g.next (.row [.str nm, .str lc,ld])=G∧G.at' g.next=some (.row [.str nm, .str lc,ld])∧Ext g G:=⟨_,rfl,zQ _ _ _,(Ext.refl g).new (Nat.le_refl _) _⟩;rw[hG] at hst;have hfn:=fun n=>hfin n G hE;clear hfin hQ hG hx hE hs;generalize hn:g.next=n0 at *
 refine zA.of_fn (g:=zRo) mix Tryz.func280 zfm rfl rfl ?_;simp only[Tryz.f280,gJ]
 repeat' first|simp only[go_sem,zHN, *]|apply bc<;>intro hc|(refine zA.mono (c1 _) ?_;rintro r h ⟨hq,w,rfl⟩)|(refine zA.mono (hfi _ _) ?_;rintro r h ⟨hq,rfl⟩)
 clear c1 hfi hst;refine zD (fun k fr h=>fr 1= .int .i64 (i:Int)∧fr 2= .iptr [a,b,e,p] 0∧fr 5= .ptr n0 0∧fr 6= .int .i64 (k:Int)∧h=G) lf.length (by omega) ?_ ?_ ?_
 ·simp only[go_sem,zHN,true_and,and_true,Int.ofNat_zero]
 ·rintro k fr h hlt ec ew ⟨f1,f2,f5,f6,hq⟩;subst hq;obtain⟨z,a2⟩:=hix k hlt;clear hix hprev
  repeat' first|simp only[go_sem,zHN, *]|apply bc<;>intro hc
 ·rintro fr h ec ⟨f1,f2,f5,f6,hq⟩;subst hq;have hB:=zbJ
  repeat' first|simp only[go_sem,zHN, *]|apply bc<;>intro hc
  refine zBG (fun fr' h'=>zbI (fr' 62)∧fr' 5= .ptr n0 0∧h'=h) ?_ ?_
  ·rcases i with _|j
   ·have h0:decide (((0:Nat):Int)>0)=false:=rfl;clear hprev;refine zi (by kernel_rfl) ?_
    repeat' first|simp only[go_sem,zHN, *]|apply bc<;>intro hc
   ·have h0:decide (((j+1:Nat):Int)>0)=true:=decide_eq_true (by omega);have ew:IntKind.i64.wrap (((j+1:Nat):Int)-1)=(j:Int):=by rw[zx (by omega) (by omega)];omega
    obtain⟨y,a2⟩:=hprev j (by omega);clear hprev;refine zi (by kernel_rfl) ?_
    repeat' first|simp only[go_sem,zHN, *]|apply bc<;>intro hc
  rintro fr' G ⟨⟨b62,f62⟩,f5',rfl⟩;clear hprev f1 f2 f5 f6 hB
  repeat' first|simp only[go_sem,zHN, *]|apply bc<;>intro hc
  clear f62;refine zJB (fun k fr h=>fr 5= .ptr n0 0∧fr 7= .int .i64 (k:Int)∧h=G) lf.length (by omega) ?_ ?_ ?_
  ·simp only[go_sem,zHN,true_and,and_true,Int.ofNat_zero,f5'];rfl
  ·rintro k fr h hlt ec ew e1 ⟨f5,f7,hq⟩;subst hq;obtain⟨z1,a2⟩:=hix k (by omega);obtain⟨z2,a3⟩:=hix (k+1) hlt;clear hix
   repeat' first|simp only[go_sem,zHN, *]|apply bc<;>intro hc
   all_goals
    refine zi (by kernel_rfl) ?_
    repeat' first|simp only[go_sem,zHN, *]|apply bc<;>intro hc
  ·rintro k fr h ec ⟨f5,f7,hq⟩;subst hq;clear hix
   repeat' first|simp only[go_sem,zHN, *]|apply bc<;>intro hc
def neB (p q:Bool):Bool:=p !=q
@[go_sem] theorem zfA (c p q:Bool):zD1 Tryz.prog .neq 4 c (.bool p) (.bool q)=some (.bool (neB p q)):=by cases p<;>cases q<;>simp[zD1,zWJ,zAk,veq,Tryz.underlying4,neB]
set_option maxHeartbeats 2000000 in
theorem zVr {c:Cat} {d:D} (hc:wR c d) (hs:c.Sm) {i:Nat} (hi:i<c.cs.length) (g:Heap):zA Tryz.prog 281 [d, .int .i64 (i:Int)] g fun r h'=>h'=g∧∃n,r= .int .i64 n:=by
 refine zA.pure (by kernel_rfl) fun hok=>zA.strip ?_;refine zA.post fun Q hQ=> ?_;have hfi:=zEo hc hs;have hle:=zTZ;have hfin:∀n h,Ext g h→Q (.int .i64 n) h:=fun n h hE=>hQ _ _ ⟨hE,trivial,n,rfl⟩;obtain⟨o1,o2⟩:=hs.cs.2 _ (List.getElem_mem hi);have hl:=hs.cs.1;obtain⟨a,b,e,p,rfl,ha,hb,he,hp⟩:=hc;have a1:=zDr he hi;have hv4:∀a b c e:D,ze true 4 [a,b,c,e] 0=some (.agg [a,b,c,e]):=fun a b c e=>zB rfl (by omega);have hv5:∀a b c e f:D,ze true 5 [a,b,c,e,f] 0=some (.agg [a,b,c,e,f]):=fun a b c e f=>zB rfl (by omega)
 have hprev:∀j,j<c.cs.length→∃y:Cla,zR Tryz.prog 24 e (.int .i64 (j:Int))=some (.iptr [.str y.lic, .int .i64 y.way, .int .i64 y.rel, .int .i64 y.duty,y.d] 0):=fun j hj=>⟨_,zDr he hj⟩;generalize hx:c.cs[i]=x at *
 obtain⟨lc,wy,rl,dt,li,ld⟩:=x;have hlen:=yA o1;have hix:∀j,j<li.length→∃z:List UInt8,zR Tryz.prog 31 ld (.int .i64 (j:Int))=some (.iptr [.str z] 0):=fun j hj=>⟨_,yz o1 hj⟩;simp only[Cla.cells] at a1;have hst:zW Tryz.prog 143 (.ptr g.next 0) (.agg [.str lc, .int .i64 wy, .int .i64 rl, .int .i64 dt,ld]) (g.new g.next (.row [.str [], .int .i64 0, .int .i64 0, .int .i64 0, .nilsl]))=some (g.new g.next (.row [.str lc, .int .i64 wy, .int .i64 rl, .int .i64 dt,ld])):=zg zCi (by omega) rfl rfl (by show(true&&(true&&(true&&(true&&(ld.flat&&true)))))=true;rw[zBd o1];rfl)
 obtain⟨G,hG,hGr,hE⟩:∃G:Heap,g.new g.next (.row [.str lc, .int .i64 wy, .int .i64 rl, .int .i64 dt,ld])=G∧G.at' g.next=some (.row [.str lc, .int .i64 wy, .int .i64 rl, .int .i64 dt,ld])∧Ext g G:=⟨_,rfl,zQ _ _ _,(Ext.refl g).new (Nat.le_refl _) _⟩;rw[hG] at hst;have hfn:=fun n=>hfin n G hE;have hB:=zbJ;have o2:li.length≤1048576:=o2;clear hfin hQ hG hx hE hs;generalize hn:g.next=n0 at *
 refine zA.of_fn (g:=zRx) mix Tryz.func281 zf5 rfl rfl ?_;simp only[Tryz.f281,gJ]
 repeat' first|simp only[go_sem,zF9, *]|apply bc<;>intro hc|(refine zA.mono (hfi _ _) ?_;rintro r h ⟨hq,rfl⟩)
 clear hst;refine zD (fun k fr h=>fr 1= .int .i64 (i:Int)∧fr 2= .iptr [a,b,e,p] 0∧fr 5= .ptr n0 0∧fr 6= .int .i64 (k:Int)∧h=G) li.length (by omega) ?_ ?_ ?_
 ·simp only[go_sem,zF9,true_and,and_true,Int.ofNat_zero]
 ·rintro k fr h hlt ec ew ⟨f1,f2,f5,f6,hq⟩;subst hq;obtain⟨z,a2⟩:=hix k hlt;clear hix hprev
  repeat' first|simp only[go_sem,zF9, *]|apply bc<;>intro hc
  refine qG Heap.emp [(0, .no,false),(1, .no,false),(2, .no,false),(3, .no,false),(4, .no,false),(5, .no,false),(6, .no,false),(7, .no,false)] (by kernel_rfl) (by kernel_rfl) (fun i ob e=>by cases e) ?_
  repeat' first|simp only[go_sem,zF9, *]|apply bc<;>intro hc|(refine zA.mono (hfi _ _) ?_;rintro r h ⟨hq,rfl⟩)
 ·rintro fr h ec ⟨f1,f2,f5,f6,hq⟩;subst hq
  repeat' first|simp only[go_sem,zF9, *]|apply bc<;>intro hc
  clear f6;refine zJB (fun k fr' h'=>fr' 1= .int .i64 (i:Int)∧fr' 2= .iptr [a,b,e,p] 0∧fr' 5= .ptr n0 0∧fr' 7= .int .i64 (k:Int)∧h'=h) li.length (by omega) ?_ ?_ ?_
  ·simp only[go_sem,zF9,true_and,and_true,Int.ofNat_zero,f1,f2,f5];rfl
  ·rintro k fr h hlt ec ew e1 ⟨f1,f2,f5,f7,hq⟩;subst hq;obtain⟨z1,a2⟩:=hix k (by omega);obtain⟨z2,a3⟩:=hix (k+1) hlt;clear hix hprev
   repeat' first|simp only[go_sem,zF9, *]|apply bc<;>intro hc
   refine zi (by kernel_rfl) ?_
   repeat' first|simp only[go_sem,zF9, *]|apply bc<;>intro hc
  ·rintro k fr h ec ⟨f1,f2,f5,f7,hq⟩;subst hq;clear hix;rcases i with _|j
   ·have h0:decide (((0:Nat):Int)>0)=false:=rfl;clear hprev
    repeat' first|simp only[go_sem,zF9, *]|apply bc<;>intro hc
    refine qG Heap.emp [(0, .no,false),(1, .no,false),(2, .no,false),(9, .no,false),(3, .no,false),(4, .no,false),(5, .no,false),(6, .no,false),(7, .no,false),(8, .no,false),(10, .no,false),(11, .no,false),(12, .no,false)] (by kernel_rfl) (by kernel_rfl) (fun i ob e=>by cases e) ?_
    repeat' first|simp only[go_sem,zF9, *]|apply bc<;>intro hc
   ·have h0:decide (((j+1:Nat):Int)>0)=true:=decide_eq_true (by omega);have ew:IntKind.i64.wrap (((j+1:Nat):Int)-1)=(j:Int):=by rw[zx (by omega) (by omega)];omega
    obtain⟨y,a2⟩:=hprev j (by omega);have hb2:=hle y ⟨lc,wy,rl,dt,li,ld⟩;simp only[Cla.cells] at hb2;clear hprev hle
    repeat' first|simp only[go_sem,zF9, *]|apply bc<;>intro hc
    refine qG Heap.emp [(0, .no,false),(1, .no,false),(2, .no,false),(9, .no,false),(3, .no,false),(4, .no,false),(5, .no,false),(6, .no,false),(7, .no,false),(8, .no,false),(10, .no,false),(11, .no,false),(12, .no,false)] (by kernel_rfl) (by kernel_rfl) (fun i ob e=>by cases e) ?_
    repeat' first|simp only[go_sem,zF9, *]|apply bc<;>intro hc|(refine zA.mono (hb2 _) ?_;rintro r h ⟨hq,w,rfl⟩)
set_option maxHeartbeats 2000000 in
theorem zKg {c:Cat} {d:D} (hc:wR c d) (hs:c.Sm) (g:Heap):zA Tryz.prog 248 [d] g fun r h'=>h'=g∧∃n,r= .int .i64 n∧(n=0→∀x∈c.ls,0≤x.ver∧x.ver≤999):=by
 refine zA.post fun Q hQ=> ?_;have c1:=fun i hi=>zVp (i:=i) hc hs hi;have c2:=fun i hi=>zVq (i:=i) hc hs hi;have c3:=fun i hi=>zVr (i:=i) hc hs hi;have c4:=fun i hi=>zTY (i:=i) hc hs hi;have hfin:∀n,(n==0)=false→Q (.int .i64 n) g:=fun n hn=>hQ _ _ ⟨rfl,n,rfl,fun q=>by simp[q] at hn⟩;have hfin0:(∀x∈c.ls,0≤x.ver∧x.ver≤999)→Q (.int .i64 0) g:=fun hv=>hQ _ _ ⟨rfl,0,rfl,fun _=>hv⟩;have f10:=hfin 10 rfl;obtain⟨a,b,e,p,rfl,ha,hb,he,hp⟩:=hc;have hv4:∀a b c e:D,ze true 4 [a,b,c,e] 0=some (.agg [a,b,c,e]):=fun a b c e=>zB rfl (by omega);have l1:=zAV ha;have l2:=zEh hb;have l3:=zDF he;have l4:=zGf hp
 have s1:=hs.ls.1;have s2:=hs.es.1;have s3:=hs.cs.1;have s4:=hs.ps;clear hQ;obtain⟨V,V0,Vs,Vf⟩:∃V:Nat→Prop,V 0∧(∀i (hi:i<c.ls.length),V i→(0≤(c.ls[i]).ver∧(c.ls[i]).ver≤999)→V (i+1))∧(V c.ls.length→∀x∈c.ls,0≤x.ver∧x.ver≤999):=by
  refine⟨fun i=>∀j (hj:j<c.ls.length),j<i→0≤(c.ls[j]).ver∧(c.ls[j]).ver≤999,fun j hj h0=>by omega,fun i hi hv hn j hj hji=> ?_,fun hv x hx=> ?_⟩
  ·rcases Nat.lt_succ_iff_lt_or_eq.1 hji with h|rfl
   ·exact hv j hj h
   ·exact hn
  ·obtain⟨j,hj,rfl⟩:=List.mem_iff_getElem.1 hx;exact hv j hj hj
 have f0:=fun hv=>hfin0 (Vf hv);clear hfin0 Vf;refine zA.of_fn (g:=zR7) mix Tryz.func248 zgI rfl rfl ?_;simp only[Tryz.f248,gJ]
 repeat' first|simp only[go_sem,zBb, *]|apply bc<;>intro hc
 refine zD (fun i fr h=>fr 1= .iptr [a,b,e,p] 0∧fr 3= .int .i64 (i:Int)∧h=g∧V i) c.ls.length (by omega) ?_ ?_ ?_
 ·simp only[go_sem,zBb,true_and,and_true,Int.ofNat_zero,V0]
 ·rintro i fr h hlt ec ew ⟨f1,f3,hq,hv⟩;subst hq
  repeat' first|simp only[go_sem,zBb, *]|apply bc<;>intro hc
  refine(c1 i hlt _).mono ?_;rintro r h' ⟨hq,n,rfl,hn⟩;subst hq;cases hn0:(n==0) with
  |false=>
   have hf:=hfin n hn0;clear hfin f0 Vs
   repeat' first|simp only[go_sem,zBb, *]|apply bc<;>intro hc
  |true=>
   have hv':=Vs i hlt hv (hn (by simpa using hn0));clear hfin f0 Vs
   repeat' first|simp only[go_sem,zBb, *]|apply bc<;>intro hc
 rintro fr h ec ⟨f1,f3,hq,hv⟩;subst hq;have f0:=f0 hv;clear Vs c1 hv
 repeat' first|simp only[go_sem,zBb, *]|apply bc<;>intro hc
 clear f3;refine zD (fun i fr h'=>fr 1= .iptr [a,b,e,p] 0∧fr 5= .int .i64 (i:Int)∧h'=h) c.es.length (by omega) ?_ ?_ ?_
 ·simp only[go_sem,zBb,true_and,and_true,Int.ofNat_zero,f1]
 ·rintro i fr h hlt ec ew ⟨f1,f3,hq⟩;subst hq
  repeat' first|simp only[go_sem,zBb, *]|apply bc<;>intro hc
  refine(c2 i hlt _).mono ?_;rintro r h' ⟨hq,n,rfl⟩;subst hq;cases hn0:(n==0) with
  |false=>
   have hf:=hfin n hn0;clear hfin
   repeat' first|simp only[go_sem,zBb, *]|apply bc<;>intro hc
  |true=>
   clear hfin
   repeat' first|simp only[go_sem,zBb, *]|apply bc<;>intro hc
 rintro fr h ec ⟨f1,f3,hq⟩;subst hq;clear c2
 repeat' first|simp only[go_sem,zBb, *]|apply bc<;>intro hc
 clear f3;refine zD (fun i fr h'=>fr 1= .iptr [a,b,e,p] 0∧fr 7= .int .i64 (i:Int)∧h'=h) c.cs.length (by omega) ?_ ?_ ?_
 ·simp only[go_sem,zBb,true_and,and_true,Int.ofNat_zero,f1]
 ·rintro i fr h hlt ec ew ⟨f1,f3,hq⟩;subst hq
  repeat' first|simp only[go_sem,zBb, *]|apply bc<;>intro hc
  refine(c3 i hlt _).mono ?_;rintro r h' ⟨hq,n,rfl⟩;subst hq;cases hn0:(n==0) with
  |false=>
   have hf:=hfin n hn0;clear hfin
   repeat' first|simp only[go_sem,zBb, *]|apply bc<;>intro hc
  |true=>
   clear hfin
   repeat' first|simp only[go_sem,zBb, *]|apply bc<;>intro hc
 rintro fr h ec ⟨f1,f3,hq⟩;subst hq;clear c3
 repeat' first|simp only[go_sem,zBb, *]|apply bc<;>intro hc
 clear f3;refine zD (fun i fr h'=>fr 1= .iptr [a,b,e,p] 0∧fr 9= .int .i64 (i:Int)∧h'=h) c.ps.length (by omega) ?_ ?_ ?_
 ·simp only[go_sem,zBb,true_and,and_true,Int.ofNat_zero,f1]
 ·rintro i fr h hlt ec ew ⟨f1,f3,hq⟩;subst hq
  repeat' first|simp only[go_sem,zBb, *]|apply bc<;>intro hc
  refine(c4 i hlt _).mono ?_;rintro r h' ⟨hq,n,rfl⟩;subst hq;cases hn0:(n==0) with
  |false=>
   have hf:=hfin n hn0;clear hfin
   repeat' first|simp only[go_sem,zBb, *]|apply bc<;>intro hc
  |true=>
   clear hfin
   repeat' first|simp only[go_sem,zBb, *]|apply bc<;>intro hc
 rintro fr h ec ⟨f1,f3,hq⟩;subst hq;clear c4 hfin
 repeat' first|simp only[go_sem,zBb, *]|apply bc<;>intro hc
theorem zZ0 {α:Type} {l:List α} {p:α→Bool} (h:decide (zIT p l<0)=false):∃j,∃_:j<l.length,zIT p l=(j:Int):=by
 unfold zIT at h⊢;cases hf:l.findIdx? p with
 |none=>rw[hf] at h;cases h
 |some i=>exact⟨i,(List.findIdx?_eq_some_iff_getElem.1 hf).1,rfl⟩
set_option maxHeartbeats 2000000 in
theorem zQI {c:Cat} {d:D} (hc:wR c d) (hs:c.Sm) (k:List UInt8) (g:Heap):zA Tryz.prog 217 [d, .str k] g fun r h'=>h'=g∧∃ (x:Lic) (b:Bool),r= .tuple [.agg [.str x.name, .str x.fam, .int .i64 x.ver, .str x.text], .bool b]∧(b=true→0≤x.ver∧x.ver≤999):=by
 refine zA.pure (by kernel_rfl) fun hok=> ?_;refine zA.post fun Q hQ=> ?_;have hck:=zKg hc hs;have hfi:=zEo hc hs k;obtain⟨a,b,e,p,rfl,ha,hb,he,hp⟩:=hc;have hv4:∀a b c e:D,ze true 4 [a,b,c,e] 0=some (.agg [a,b,c,e]):=fun a b c e=>zB rfl (by omega);have hb0:yn Tryz.prog 56 []=some (.agg zEg):=by simp[yn,zI0,zKC,wl,D.notTuple,D.cells]
 have hst:∀ (x:Lic) (H:Heap),H.at' g.next=some (.row zEg)→zW Tryz.prog 56 (.ptr g.next 0) (.agg [.str x.name, .str x.fam, .int .i64 x.ver, .str x.text]) H=some (H.set g.next (.row [.str x.name, .str x.fam, .int .i64 x.ver, .str x.text])):=fun x H h=>qQ h zDS rfl (by simp) rfl;obtain⟨G,hG,r0,E0,n0⟩:∃G,g.new g.next (.row zEg)=G∧G.at' g.next=some (.row zEg)∧Ext g G∧g.next<G.next:=⟨_,rfl,zQ _ _ _,(Ext.refl g).new (Nat.le_refl _) _,by rw[zK];omega⟩
 have hfin:∀ (x:Lic) (b:Bool),(b=true→0≤x.ver∧x.ver≤999)→Q (.tuple [.agg [.str x.name, .str x.fam, .int .i64 x.ver, .str x.text], .bool b]) (G.set g.next (.row [.str x.name, .str x.fam, .int .i64 x.ver, .str x.text])):=fun x b hb=>hQ _ _ ⟨E0.set (id:=g.next) (Nat.le_refl _) _,by simp[below,yB],x,b,rfl,hb⟩;have z0:zW Tryz.prog 56 (.ptr g.next 0) (.agg zEg) G=some (G.set g.next (.row zEg)):=hst ⟨[],[],0,[]⟩ G r0;have fz:Q (.tuple [.agg zEg, .bool false]) (G.set g.next (.row zEg)):=hfin ⟨[],[],0,[]⟩ false (fun q=>by cases q);have hst:=fun x=>hst x G r0
 obtain⟨X,hX,hXj⟩:∃X,zIT (fun x:Lic=>x.name==k) c.ls=X∧(decide (X<0)=false→∃j,∃_:j<c.ls.length,X=(j:Int)):=⟨_,rfl,zZ0⟩;rw[hX] at hfi;clear hQ hX hok;refine zA.of_fn (g:=zSj) mix Tryz.func217 zg8 rfl rfl ?_;simp only[Tryz.f217,gJ];clear E0
 repeat' first|simp only[go_sem,zSk, *]|apply bc<;>intro hc
 refine(hck _).mono ?_;rintro r h' ⟨hq,n,rfl,hn⟩;subst hq;cases hn0:(n==0) with
 |false=>
  clear hfin hn hfi hXj hst
  repeat' first|simp only[go_sem,zSk,zF, *]|apply bc<;>intro hc
 |true=>
  have hv:=hn (by simpa using hn0);clear hn hck;cases v0:decide (X<0) with
  |true=>
   clear hXj hfin hst
   repeat' first|simp only[go_sem,zSk,zF, *]|apply bc<;>intro hc|(refine zA.mono (hfi _) ?_;rintro r h ⟨hq,rfl⟩)
  |false=>
   obtain⟨j,hj,rfl⟩:=hXj v0;have a1:=wx ha hj;simp only[Lic.cells] at a1;have hf:=hfin c.ls[j] true (fun _=>hv _ (List.getElem_mem hj));have hs1:=hst c.ls[j];clear hXj hfin hv hst z0 fz
   repeat' first|simp only[go_sem,zSk,zF, *]|apply bc<;>intro hc|(refine zA.mono (hfi _) ?_;rintro r h ⟨hq,rfl⟩)
   have hle:∀h,HLe Heap.emp h:=fun h i ob e=>by cases e
   refine qG Heap.emp [(2, .no,true),(0, .no,true),(1, .st,true),(3, .no,true),(4, .no,true),(5, .no,true),(6, .no,true),(7, .no,true),(8, .no,true)] (by kernel_rfl) (by kernel_rfl) (fun i ob e=>by cases e) ?_
   repeat' first|simp only[go_sem,zSk,zF, *]|apply bc<;>intro hc|(refine zA.mono (hfi _) ?_;rintro r h ⟨hq,rfl⟩)
def OwL (G h:Heap) (d:D) (m:Nat):Prop:=∃ps,Own G h 1 (zt ps) d∧ps.length≤m
set_option maxHeartbeats 2000000 in
theorem zQJ {c:Cat} {d:D} (hc:wR c d) (hs:c.Sm) (h40:c.ls.length≤40) (k:List UInt8) (g:Heap):zA Tryz.prog 183 [d, .str k] g fun r h'=>h'=g∧∃ (ps:List (List UInt8)) (q:D) (n:Int),r= .tuple [q, .int .i64 n]∧zX 1 (zt ps) q∧ps.length≤65536:=by
 refine zA.pure (by kernel_rfl) fun hok=>zA.strip ?_;refine zA.post fun Q hQ=> ?_;have hfd:=zQI hc hs k;have hnil:∀n h,Ext g h→Q (.tuple [.nilsl, .int .i64 n]) h:=fun n h hE=>hQ _ _ ⟨hE,by simp[yC,yh,below,yB],[], .nilsl,n,by simp[yC,yh], .inl ⟨rfl,rfl⟩,by simp⟩;have hfin:∀ (G:Heap) ps d n h,Ext g G→Own G h 1 (zt ps) d→ps.length≤65536→Q (.tuple [d, .int .i64 n]) h:=fun G ps d n h hE ho hp=>by
  have hf:=ho.2.1.fin yW;have hb:=zu (Nat.zero_le g.next) _ hf.1;exact hQ _ _ ⟨hE.trans ho.1,by simp[yC,yh,below,yB,hb],ps,yC d,n,by simp[yC,yh],hf.2.isSl,hp⟩
 obtain⟨a,b,e,p,rfl,ha,hb,he,hp⟩:=hc;have hv4:∀a b c e:D,ze true 4 [a,b,c,e] 0=some (.agg [a,b,c,e]):=fun a b c e=>zB rfl (by omega);have l1:=zAV ha;clear hQ hok;refine zA.of_fn (g:=zRj) mix Tryz.func183 zff rfl rfl ?_;simp only[Tryz.f183,gJ]
 repeat' first|simp only[go_sem,zFF, *]|apply bc<;>intro hc
 refine(hfd _).mono ?_;rintro r h0 ⟨hq,x,bo,rfl,hv⟩;subst hq;obtain⟨G,hG,hGr,hE,hlt⟩:∃G:Heap,h0.new h0.next (.row [.str x.name, .str x.fam, .int .i64 x.ver, .str x.text])=G∧G.at' h0.next=some (.row [.str x.name, .str x.fam, .int .i64 x.ver, .str x.text])∧Ext h0 G∧h0.next<G.next:=⟨_,rfl,zQ _ _ _,(Ext.refl h0).new (Nat.le_refl _) _,by rw[zK];omega⟩;have hst:=zCT x h0 h0.next;rw[hG] at hst;clear hfd hG;cases bo with
 |false=>
  have hn:=hnil 7 G hE;clear hnil hfin hv
  repeat' first|simp only[go_sem,zFF, *]|apply bc<;>intro hc
 |true=>
 obtain⟨v0,v1⟩:=hv rfl;have hfin:=fun ps d h=>hfin G ps d 0 h hE;clear hnil hv;have hrow:∀h,Ext G h→h.at' h0.next=some (.row [.str x.name, .str x.fam, .int .i64 x.ver, .str x.text]):=fun h hE=>by rw[hE.2 _ hlt];exact hGr
 repeat' first|simp only[go_sem,zFF, *]|apply bc<;>intro hc
 clear hst hGr;refine yG (fun i fr h=>fr 2= .iptr [a,b,e,p] 0∧fr 6= .ptr h0.next 0∧fr 9= .int .i64 (x.ver+(i:Int))∧OwL G h (fr 8) (i*40)) (1000-x.ver).toNat ?_ ?_
 ·simp only[go_sem,zFF,true_and,and_true,Int.ofNat_zero];exact⟨by rw[Int.add_zero],[],Own.start (Ext.refl G) 1,by simp⟩
 rintro i fr h hile ⟨f2,f6,f9,ps,ho,hps⟩;obtain⟨d,f8⟩:∃d,fr 8=d:=⟨_,rfl⟩;rw[f8] at ho;have hi1000:i≤1000:=by omega
 by_cases hlt:i<(1000-x.ver).toNat
 ·have hc0:decide (x.ver+(i:Int)≤999)=true:=decide_eq_true (by omega);have hw:IntKind.i64.wrap (x.ver+(i:Int)+1)=x.ver+((i+1:Nat):Int):=by rw[zx (by omega) (by omega)];omega
  repeat' first|simp only[go_sem,zFF, *]|apply bc<;>intro hc
  refine zD (fun j fr h=>fr 2= .iptr [a,b,e,p] 0∧fr 6= .ptr h0.next 0∧fr 9= .int .i64 (x.ver+(i:Int))∧fr 10= .int .i64 (j:Int)∧OwL G h (fr 8) (i*40+j)) c.ls.length (by omega) ?_ ?_ ?_
  ·simp only[go_sem,zFF,true_and,and_true,Int.ofNat_zero,f2,f6,f9];rw[f8];exact⟨ps,ho,by omega⟩
  ·clear f2 f6 f9 f8 ho hps;rintro j fr h hlt2 ec ew ⟨f2,f6,f9,f10,ps,ho,hps⟩;obtain⟨d,f8⟩:∃d,fr 8=d:=⟨_,rfl⟩;rw[f8] at ho;have hr:=hrow h ho.1;have a1:=wx ha hlt2;simp only[Lic.cells] at a1;have hB:=zbJ;clear hfin hrow hw
   repeat' first|simp only[go_sem,zFF, *]|apply bc<;>intro hc
   refine zBG (fun fr' h'=>zbI (fr' 50)∧fr' 2= .iptr [a,b,e,p] 0∧fr' 6= .ptr h0.next 0∧fr' 9= .int .i64 (x.ver+(i:Int))∧fr' 10= .int .i64 (j:Int)∧fr' 8=d∧h'=h) ?_ ?_
   ·refine zi (by kernel_rfl) ?_
    repeat' first|simp only[go_sem,zFF, *]|apply bc<;>intro hc
   rintro fr' h' ⟨⟨b50,f50⟩,f2,f6,f9,f10,f8,hq⟩;subst hq;clear hB;cases b50 with
   |false=>
    repeat' first|simp only[go_sem,zFF, *]|apply bc<;>intro hc
    exact⟨ps,ho,by omega⟩
   |true=>
    repeat' first|simp only[go_sem,zFF,zCq, *]|apply bc<;>intro hc
    refine ho.str (by omega) fun d' h' ho'=> ?_
    repeat' first|simp only[go_sem,zFF, *]|apply bc<;>intro hc
    exact⟨_,ho',by simp;omega⟩
  ·rintro fr h ec ⟨f2,f6,f9,f10,ps,ho,hps⟩;obtain⟨d,f8⟩:∃d,fr 8=d:=⟨_,rfl⟩;rw[f8] at ho;clear hfin hrow
   repeat' first|simp only[go_sem,zFF, *]|apply bc<;>intro hc
   exact⟨ps,ho,by omega⟩
 ·have hc0:decide (x.ver+(i:Int)≤999)=false:=decide_eq_false (by omega);have hf:=hfin ps d h ho (by omega);clear hfin hrow
  repeat' first|simp only[go_sem,zFF, *]|apply bc<;>intro hc
noncomputable def zZ1 (a b:Int):Int:=match zQg (.int .i64 a) (.int .i64 b) with
 |some (.int _ c)=>c
 |_=>0
theorem zVs (a b:Int):zQg (.int .i64 a) (.int .i64 b)=some (.int .i64 (zZ1 a b)):=by
 unfold zZ1;simp only[zQg,if_true]
theorem zhV (a b:Int):∃c,zQp (.int .i64 a) (.int .i64 b)=some (.int .i64 c):=by
 simp only[zQp,if_true];exact⟨_,rfl⟩
theorem zhW (a b:Int):∃c,zQg (.int .i64 a) (.int .i64 b)=some (.int .i64 c):=by
 simp only[zQg,if_true];exact⟨_,rfl⟩
set_option maxHeartbeats 2000000 in
theorem zMI {c:Cat} {D0:D} (hc:wR c D0) (hs:c.Sm) (h40:c.ls.length≤40):∀ (n:Nat) {e:Ex},e.size≤n→e.Ok→e.size≤1048576→∀g:Heap,zA Tryz.prog 131 [D0, .agg e.cells] g fun r h'=>h'=g∧∃a b,r= .tuple [.int .i64 a, .int .i64 b]:=by
 intro n
 induction n with
 |zero=>intro e h;cases e;simp only[Ex.size] at h;omega
 |succ n ih=>
 intro e hn hok hsz g;refine zA.post fun Q hQ=> ?_;have hfin:∀a b,Q (.tuple [.int .i64 a, .int .i64 b]) g:=fun a b=>hQ _ _ ⟨rfl,a,b,rfl⟩;have hla:=zQJ hc hs h40;obtain⟨ca,cb,ce,cp,rfl,_,_,_,_⟩:=hc;obtain⟨k,nm,x,l,d⟩:=e;simp only[Ex.size,Ex.Ok] at hn hok hsz;obtain⟨hd,hl,_,_,hks⟩:=hok;have hlen:=zDt hd;have hv4:∀a b c e:D,ze true 4 [a,b,c,e] 0=some (.agg [a,b,c,e]):=fun a b c e=>zB rfl (by omega);clear hQ;refine zA.of_fn (g:=zSI) mix Tryz.func131 zgW rfl rfl ?_;simp only[Tryz.f131,gJ];simp only[Ex.cells,Ex.kind,Ex.name,Ex.exc,Ex.d];cases k0:(k==0) with
 |true=>
  clear ih hla
  repeat' first|simp only[go_sem,zLf, *]|apply bc<;>intro hc
 |false=>
 cases k1:(k==1) with
 |true=>
  clear ih
  repeat' first|simp only[go_sem,zLf, *]|apply bc<;>intro hc
  refine(hla _ _).mono ?_;rintro r h ⟨hq,ps,q,m,rfl,hps,_⟩;subst hq;have hln:=yA hps;obtain⟨mx,hmx⟩:=zhV 1 (ps.length:Int);clear hla
  repeat' first|simp only[go_sem,zLf, *]|apply bc<;>intro hc
 |false=>
 clear hla
 repeat' first|simp only[go_sem,zLf, *]|apply bc<;>intro hc
 refine zD (fun i fr h=>fr 2= .iptr [ca,cb,ce,cp] 0∧fr 3= .iptr [.int .i64 k, .str nm, .str x,d] 0∧fr 10= .int .i64 (i:Int)∧h=g∧IsI (fr 8)∧IsI (fr 9)) l.length (by omega) ?_ ?_ ?_
 ·simp only[go_sem,zLf,true_and,and_true,Int.ofNat_zero,isI]
 ·rintro i fr h hlt ec ew ⟨f2,f3,f10,hq,⟨u,f8⟩,⟨w,f9⟩⟩;subst hq;have a1:=zMF hd hlt;have hm:l[i]∈l:=List.getElem_mem hlt;have hq:=ih (e:=l[i]) (by have:=zBM hm;omega) (zDs hks _ hm) (by have:=zBM hm;omega);have hI:=isI;simp only[Ex.cells] at a1 hq;have hmn:∀z:Int,zQg (.int .i64 z) (.int .i64 64)=some (.int .i64 (zZ1 z 64)):=fun z=>zVs z 64;clear ih hm hfin
  repeat' first|simp only[go_sem,zLf, *]|apply bc<;>intro hc
  refine qG Heap.emp [(0, .no,false),(1, .no,false),(2, .no,false),(3, .no,false),(4, .no,false),(5, .no,false),(6, .no,false),(7, .no,false),(8, .no,false),(9, .no,false),(10, .no,false),(11, .no,false)] (by kernel_rfl) (by kernel_rfl) (fun i ob e=>by cases e) ?_
  repeat' first|simp only[go_sem,zLf, *]|apply bc<;>intro hc|(refine zA.mono (hq _) ?_;rintro r h ⟨hq2,a,b,rfl⟩)
 ·rintro fr h ec ⟨f2,f3,f10,hq,⟨u,f8⟩,⟨w,f9⟩⟩;subst hq;obtain⟨mn,hmn⟩:=zhW w 1000000;clear ih
  repeat' first|simp only[go_sem,zLf, *]|apply bc<;>intro hc
theorem zNm {c:Cat} {D0:D} (hc:wR c D0) (hs:c.Sm) (h40:c.ls.length≤40) {e:Ex} (hok:e.Ok) (hsz:e.size≤1048576) (g:Heap):zA Tryz.prog 80 [D0, .agg e.cells] g fun r h'=>h'=g∧∃a,r= .int .i64 a:=by
 refine zA.post fun Q hQ=> ?_;have hfin:∀a,Q (.int .i64 a) g:=fun a=>hQ _ _ ⟨rfl,a,rfl⟩;have hw:=zMI hc hs h40 e.size (Nat.le_refl _) hok hsz;have hv4:∀a b c e:D,ze true 4 [a,b,c,e] 0=some (.agg [a,b,c,e]):=fun a b c e=>zB rfl (by omega);obtain⟨ca,cb,ce,cp,rfl,_,_,_,_⟩:=hc;obtain⟨k,nm,x,l,d⟩:=e;clear hQ;refine zA.of_fn (g:=zZE) mix Tryz.func80 zjf rfl rfl ?_;simp only[Tryz.f80,gJ];simp only[Ex.cells] at hw⊢
 repeat' first|simp only[go_sem,zje, *]|apply bc<;>intro hc|(refine zA.mono (hw _) ?_;rintro r h ⟨hq,a,b,rfl⟩)
def zTa (c:Cat):Bool:=decide ((c.ls.length:Int)>40)||decide ((c.es.length:Int)>40)||(decide ((c.cs.length:Int)>40)&&decide ((c.cs.length:Int)≤128))||decide ((c.cs.length:Int)>140)||decide ((c.ps.length:Int)>80)
set_option maxHeartbeats 4000000 in
theorem zTb {c:Cat} {d:D} (hc:wR c d) (hs:c.Sm) (g:Heap):zA Tryz.prog 78 [d] g fun r h'=>h'=g∧∃b,r= .bool b∧(b=true→c.ls.length≤40):=by
 refine zA.post fun Q hQ=> ?_;have hf:Q (.bool false) g:=hQ _ _ ⟨rfl,_,rfl,fun q=>by cases q⟩;have hfin:zTa c=false→∀b,Q (.bool b) g:=fun hv b=>hQ _ _ ⟨rfl,b,rfl,fun _=>by
  unfold zTa at hv;simp only[Bool.or_eq_false_iff,decide_eq_false_iff_not] at hv;omega⟩
 have hcs:=hs.cs.2;have hes:=hs.es.2;obtain⟨a,b,e,p,rfl,ha,hb,he,hp⟩:=hc;have l1:=zAV ha;have l2:=zEh hb;have l3:=zDF he;have l4:=zGf hp;have s1:=hs.ls.1;have s2:=hs.es.1;have s3:=hs.cs.1;have s4:=hs.ps;clear hQ hs;refine zA.of_fn (g:=zY5) mix Tryz.func78 zjQ rfl rfl ?_;simp only[Tryz.f78,gJ];simp only[zBa];refine zBG (fun fr' h'=>fr' 1= .iptr [a,b,e,p] 0∧h'=g) ?_ ?_
 ·repeat' first|simp only[go_sem,zHM, *]|apply bc<;>intro hc
 rintro fr h ⟨f1,hq⟩;subst hq;simp only[zBa];refine zBG (fun fr' h'=>fr' 42= .bool (zTa c)∧fr' 1= .iptr [a,b,e,p] 0∧h'=h) ?_ ?_
 ·clear hf hfin hcs hes;unfold zTa
  repeat' first|simp only[go_sem,zHM, *]|apply bc<;>intro hc
 clear l2 l3 l4;rintro fr h ⟨f42,f1,hq⟩;subst hq;cases hv:zTa c with
 |true=>
  rw[hv] at f42;clear hfin
  repeat' first|simp only[go_sem,zHM, *]|apply bc<;>intro hc
 |false=>
 rw[hv] at f42;have hfin:=hfin hv;have hlS:∀ (s:List UInt8) h,zAd Tryz.prog 9 (.str s) h=some (.int .i64 s.length):=fun s h=>z7 Tryz.underlying9;have hI:=isI;clear hf
 repeat' first|simp only[go_sem,zHM, *]|apply bc<;>intro hc
 clear f42;refine zD (fun i fr h'=>fr 1= .iptr [a,b,e,p] 0∧fr 4= .int .i64 (i:Int)∧IsI (fr 3)∧h'=h) c.ls.length (by omega) ?_ ?_ ?_
 ·simp only[go_sem,zHM,true_and,and_true,Int.ofNat_zero,isI,f1]
 ·rintro i fr h hlt ec ew ⟨f1,f4,⟨n,f3⟩,hq⟩;subst hq;have a1:=wx ha hlt;simp only[Lic.cells] at a1;clear hfin
  repeat' first|simp only[go_sem,zHM, *]|apply bc<;>intro hc
  refine zi (by kernel_rfl) ?_
  repeat' first|simp only[go_sem,zHM, *]|apply bc<;>intro hc
 rintro fr h ec ⟨f1,f4,⟨n,f3⟩,hq⟩;subst hq
 repeat' first|simp only[go_sem,zHM, *]|apply bc<;>intro hc
 clear l1;have l2:=zEh hb;clear f4 ec;refine zD (fun i fr h'=>fr 1= .iptr [a,b,e,p] 0∧fr 5= .int .i64 (i:Int)∧IsI (fr 3)∧h'=h) c.es.length (by omega) ?_ ?_ ?_
 ·simp only[go_sem,zHM,true_and,and_true,Int.ofNat_zero,isI,f1,f3]
 ·rintro i fr h hlt ec ew ⟨f1,f4,⟨n,f3⟩,hq⟩;subst hq;have a1:=zFT hb hlt;have o1:=zDE (hes _ (List.getElem_mem hlt)).1;generalize c.es[i]=x at *
  simp only[Exc.cells] at a1;clear hfin
  repeat' first|simp only[go_sem,zHM, *]|apply bc<;>intro hc
  refine zi (by kernel_rfl) ?_
  repeat' first|simp only[go_sem,zHM, *]|apply bc<;>intro hc
 rintro fr h ec ⟨f1,f4,⟨n,f3⟩,hq⟩;subst hq
 repeat' first|simp only[go_sem,zHM, *]|apply bc<;>intro hc
 clear l2;have l3:=zDF he;clear f4 ec;refine zD (fun i fr h'=>fr 1= .iptr [a,b,e,p] 0∧fr 6= .int .i64 (i:Int)∧IsI (fr 3)∧h'=h) c.cs.length (by omega) ?_ ?_ ?_
 ·simp only[go_sem,zHM,true_and,and_true,Int.ofNat_zero,isI,f1,f3]
 ·rintro i fr h hlt ec ew ⟨f1,f4,⟨n,f3⟩,hq⟩;subst hq;have a1:=zDr he hlt;obtain⟨o0,o2⟩:=hcs _ (List.getElem_mem hlt);have o1:=yA o0;have oi:=fun j (hj:j<c.cs[i].list.length)=>yz o0 hj;generalize c.cs[i]=x at *
  simp only[Cla.cells] at a1;clear hfin
  repeat' first|simp only[go_sem,zHM, *]|apply bc<;>intro hc
  refine zi (by kernel_rfl) ?_
  repeat' first|simp only[go_sem,zHM, *]|apply bc<;>intro hc
  refine yG (fun k fr h'=>fr 1= .iptr [a,b,e,p] 0∧fr 6= .int .i64 (i:Int)∧fr 7= .int .i64 (k:Int)∧IsI (fr 3)∧h'=h) x.list.length ?_ ?_
  ·simp only[go_sem,zHM,true_and,and_true,Int.ofNat_zero,isI,f1,f4,f3]
  ·rintro k fr h hk ⟨f1,f6,f7,⟨n,f3⟩,hq⟩;subst hq;by_cases hkl:k<x.list.length
   ·have ek:decide ((k:Int)<(x.list.length:Int))=true:=decide_eq_true (by omega);have ew2:IntKind.i64.wrap ((k:Int)+1)=((k+1:Nat):Int):=zf (by unfold lim;omega);have a2:=oi k hkl;clear oi
    repeat' first|simp only[go_sem,zHM, *]|apply bc<;>intro hc
   ·have ek:decide ((k:Int)<(x.list.length:Int))=false:=decide_eq_false (by omega);clear oi
    repeat' first|simp only[go_sem,zHM, *]|apply bc<;>intro hc
 rintro fr h ec ⟨f1,f4,⟨n,f3⟩,hq⟩;subst hq
 repeat' first|simp only[go_sem,zHM, *]|apply bc<;>intro hc
 clear l3;have l4:=zGf hp;clear f4 ec;refine zD (fun i fr h'=>fr 1= .iptr [a,b,e,p] 0∧fr 8= .int .i64 (i:Int)∧IsI (fr 3)∧h'=h) c.ps.length (by omega) ?_ ?_ ?_
 ·simp only[go_sem,zHM,true_and,and_true,Int.ofNat_zero,isI,f1,f3]
 ·rintro i fr h hlt ec ew ⟨f1,f4,⟨n,f3⟩,hq⟩;subst hq;have a1:=zHl hp hlt;simp only[Apt.cells] at a1;clear hfin
  repeat' first|simp only[go_sem,zHM, *]|apply bc<;>intro hc
  refine zi (by kernel_rfl) ?_
  repeat' first|simp only[go_sem,zHM, *]|apply bc<;>intro hc
 rintro fr h ec ⟨f1,f4,⟨n,f3⟩,hq⟩;subst hq
 repeat' first|simp only[go_sem,zHM, *]|apply bc<;>intro hc
structure Fac.Ok0 (f:Fac):Prop where
 e:f.e.Ok
 list:zX 1 (zt f.list) f.d
 ll:f.list.length≤1048576
 comp:f.comp.length≤1048576
 out:f.out.length≤1048576
theorem Fac.Ok0.ok {f:Fac} (h:f.Ok0) (hs:f.e.size≤120):f.Ok:=⟨h.e,by omega,h.list,h.ll,h.comp,h.out⟩
def zhX (fs:List Fac):Prop:=((fs.length≤16∨256<fs.length)∧fs.length≤260)∧∀f∈fs,f.e.size≤120
def zbK (n:Nat):Bool:=(decide ((n:Int)>16)&&decide ((n:Int)≤256))||decide ((n:Int)>260)
set_option maxHeartbeats 4000000 in
theorem zVt {c:Cat} {d x:D} (hc:wR c d) (hs:c.Sm) {fs:List Fac} (hx:zX 12 (zK1 fs) x) (hl:fs.length≤1048576) (hok:∀f∈fs,f.Ok0) (g:Heap):zA Tryz.prog 32 [d,x] g fun r h'=>h'=g∧∃b,r= .bool b∧(b=true→zhX fs):=by
 refine zA.post fun Q hQ=> ?_;have hf:Q (.bool false) g:=hQ _ _ ⟨rfl,_,rfl,fun q=>by cases q⟩;obtain⟨V,V0,Vs,Vf⟩:∃V:Nat→Prop,V 0∧(∀i (hi:i<fs.length),V i→(fs[i]).e.size≤120→V (i+1))∧(V fs.length→∀f∈fs,f.e.size≤120):=by
  refine⟨fun i=>∀j (hj:j<fs.length),j<i→(fs[j]).e.size≤120,fun j hj h0=>by omega,fun i hi hv hn j hj hji=> ?_,fun hv x hx=> ?_⟩
  ·rcases Nat.lt_succ_iff_lt_or_eq.1 hji with h|rfl
   ·exact hv j hj h
   ·exact hn
  ·obtain⟨j,hj,rfl⟩:=List.mem_iff_getElem.1 hx;exact hv j hj hj
 have hfin:zbK fs.length=false→V fs.length→∀b,Q (.bool b) g:=fun hv hV b=>hQ _ _ ⟨rfl,b,rfl,fun _=>by
  unfold zbK at hv;simp only[Bool.or_eq_false_iff,Bool.and_eq_false_iff,decide_eq_false_iff_not] at hv;exact⟨by omega,Vf hV⟩⟩
 have hlx:=zEn hx;have hfc:=zTb hc hs;have hwt:=fun h40=>fun {e:Ex} he hz=>zNm (e:=e) hc hs h40 he hz;obtain⟨ca,cb,ce,cp,rfl,_,_,_,_⟩:=hc;have hv4:∀a b c e:D,ze true 4 [a,b,c,e] 0=some (.agg [a,b,c,e]):=fun a b c e=>zB rfl (by omega);have h47:=zKe;obtain⟨FG,fg1,fg0,fge⟩:∃FG:D→Prop,FG (.bool true)∧(c.ls.length≤40→FG (.bool (zbK fs.length)))∧(∀z,FG z→∃b,z= .bool b∧(b=false→c.ls.length≤40∧zbK fs.length=false)):=⟨fun z=>∃b,z= .bool b∧(b=false→c.ls.length≤40∧zbK fs.length=false),⟨true,rfl,fun q=>by cases q⟩,fun q=>⟨_,rfl,fun w=>⟨q,w⟩⟩,fun z hz=>hz⟩;clear hQ Vf hs
 refine zA.of_fn (g:=zZN) mix Tryz.func32 zjt rfl rfl ?_;simp only[Tryz.f32,gJ];simp only[zBa];refine zBG (fun fr' h'=>fr' 1=x∧fr' 2= .iptr [ca,cb,ce,cp] 0∧h'=g) ?_ ?_
 ·repeat' first|simp only[go_sem,zK0, *]|apply bc<;>intro hc
 rintro fr h ⟨f1,f2,hq⟩;subst hq;simp only[zBa];refine zBG (fun fr' h'=>FG (fr' 26)∧fr' 1=x∧fr' 2= .iptr [ca,cb,ce,cp] 0∧h'=h) ?_ ?_
 ·clear hf hfin hwt V0 Vs fge
  repeat' first|simp only[go_sem,zK0, *]|apply bc<;>intro hc
  refine(hfc _).mono ?_;rintro r h ⟨hq,b,rfl,hb⟩;subst hq;clear hfc;cases b with
  |false=>
   clear hb fg0
   repeat' first|simp only[go_sem,zK0, *]|apply bc<;>intro hc
  |true=>
   have fg0:=fg0 (hb rfl);unfold zbK at fg0;clear hb;cases w1:decide ((fs.length:Int)>16)<;>cases w2:decide ((fs.length:Int)≤256)<;>cases w3:decide ((fs.length:Int)>260)
   all_goals
    rw[w1,w2,w3] at fg0;simp only[Bool.and_true,Bool.and_false,Bool.or_true,Bool.or_false,Bool.and_self,Bool.or_self,Bool.false_or,Bool.true_or,Bool.false_and,Bool.true_and] at fg0
    repeat' first|simp only[go_sem,zK0, *]|apply bc<;>intro hc
 clear hfc fg1 fg0;rintro fr h ⟨hfg,f1,f2,hq⟩;subst hq;obtain⟨b,f26,hb⟩:=fge _ hfg;clear fge hfg;cases b with
 |true=>
  clear hfin hb hwt Vs V0
  repeat' first|simp only[go_sem,zK0, *]|apply bc<;>intro hc
 |false=>
 obtain⟨h40,hv⟩:=hb rfl;have hwt:=fun {e:Ex} he hz=>hwt h40 (e:=e) he hz;have hfin:=hfin hv;have hI:=isI;have hlS:∀ (s:List UInt8) h,zAd Tryz.prog 9 (.str s) h=some (.int .i64 s.length):=fun s h=>z7 Tryz.underlying9;clear hb
 repeat' first|simp only[go_sem,zK0, *]|apply bc<;>intro hc
 clear f26;refine zD (fun i fr h'=>fr 1=x∧fr 2= .iptr [ca,cb,ce,cp] 0∧fr 6= .int .i64 (i:Int)∧IsI (fr 5)∧h'=h∧V i) fs.length (by omega) ?_ ?_ ?_
 ·simp only[go_sem,zK0,true_and,and_true,Int.ofNat_zero,isI,V0,f1,f2]
 ·clear hfin V0;rintro i fr h hlt ec ew ⟨f1,f2,f6,⟨n5,f5⟩,hq,hV⟩;subst hq;have a1:=zFV hx hlt;have hm:=hok _ (List.getElem_mem hlt);have hVs:=Vs i hlt hV;generalize fs[i]=f at *
  have oi:=fun j (hj:j<f.list.length)=>yz hm.list hj;have o1:=yA hm.list;have ol:=hm.ll;have hfe:=zTX hm.e;have hwe:=fun hz=>hwt hm.e hz;simp only[Fac.cells] at a1;simp only[Ex.cells] at hfe hwe;clear hm hV hwt Vs hok
  repeat' first|simp only[go_sem,zK0, *]|apply bc<;>intro hc
  refine zi (by kernel_rfl) ?_
  repeat' first|simp only[go_sem,zK0, *]|apply bc<;>intro hc
  refine yG (fun k fr h'=>fr 1=x∧fr 2= .iptr [ca,cb,ce,cp] 0∧fr 6= .int .i64 (i:Int)∧fr 8= .int .i64 (k:Int)∧IsI (fr 5)∧IsI (fr 7)∧h'=h) f.list.length ?_ ?_
  ·simp only[go_sem,zK0,true_and,and_true,Int.ofNat_zero,isI,f1,f2,f6,f5]
  clear f1 f2 f6 f5 n5;rintro k fr h hk ⟨f1,f2,f6,f8,⟨n5,f5⟩,⟨n,f7⟩,hq⟩;subst hq;cases v4:decide (n>400) with
  |true=>
   have v5:decide (n≤400)=false:=decide_eq_false (by have:=of_decide_eq_true v4;omega);clear oi hVs hwe hfe;cases ek:decide ((k:Int)<(f.list.length:Int))
   ·repeat' first|simp only[go_sem,zK0, *]|apply bc<;>intro hc
   ·repeat' first|simp only[go_sem,zK0, *]|apply bc<;>intro hc
  |false=>
  have v5:decide (n≤400)=true:=decide_eq_true (by have:=of_decide_eq_false v4;omega);by_cases hkl:k<f.list.length
  ·have ek:decide ((k:Int)<(f.list.length:Int))=true:=decide_eq_true (by omega);have ew2:IntKind.i64.wrap ((k:Int)+1)=((k+1:Nat):Int):=zf (by unfold lim;omega);have a2:=oi k hkl;clear oi hVs hwe hfe
   repeat' first|simp only[go_sem,zK0, *]|apply bc<;>intro hc
  ·have ek:decide ((k:Int)<(f.list.length:Int))=false:=decide_eq_false (by omega);clear oi
   repeat' first|simp only[go_sem,zK0, *]|apply bc<;>intro hc
   refine(hfe _).mono ?_;rintro r h' ⟨hq,b,rfl,hb⟩;subst hq;cases b with
   |false=>
    clear hwe hVs hb hfe
    repeat' first|simp only[go_sem,zK0, *]|apply bc<;>intro hc
   |true=>
    have hz:=hb rfl;have hV':=hVs hz;have hw:=hwe (by omega);clear hwe hVs hb hfe
    repeat' first|simp only[go_sem,zK0, *]|apply bc<;>intro hc
    refine qG Heap.emp [(1, .no,false),(0, .no,false),(2, .no,false),(3, .no,false),(4, .no,false),(5, .no,false),(6, .no,false),(7, .no,false),(8, .no,false),(9, .no,false)] (by kernel_rfl) (by kernel_rfl) (fun i ob e=>by cases e) ?_
    repeat' first|simp only[go_sem,zK0, *]|apply bc<;>intro hc|(refine zA.mono (hw _) ?_;rintro r h ⟨hq2,w,rfl⟩)
 ·rintro fr h ec ⟨f1,f2,f6,⟨n5,f5⟩,hq,hV⟩;subst hq;have hfin:=hfin hV;clear Vs V0 hwt
  repeat' first|simp only[go_sem,zK0, *]|apply bc<;>intro hc
structure Trm where
 a:List UInt8
 b:List UInt8
def Trm.cells (l:Trm):List D:=[.str l.a, .str l.b]
def qg (l:List Trm):List (List D):=l.map Trm.cells
theorem qZ (l:List Trm):(qg l).length=l.length:=List.length_map ..
theorem zKh {l:List Trm} {i:Nat} (h:i<l.length):(qg l)[i]? =some l[i].cells:=by simp[qg,h]
theorem wb {l:List Trm} {d:D} (hd:zX 2 (qg l) d) (h:Heap):zAd Tryz.prog 168 d h=some (.int .i64 l.length):=by rw[zP hd Tryz.underlying168,qZ]
theorem zCv {l:List Trm} {d:D} (hd:zX 2 (qg l) d) {i:Nat} (hi:i<l.length):zR Tryz.prog 168 d (.int .i64 (i:Int))=some (.iptr l[i].cells 0):=zE hd yo wi (zKh hi)
def zO (a b:Trm):Int:=orL [zDI a.a b.a,zDI a.b b.b]
theorem zDZ (a b:Trm) (g:Heap):zA Tryz.prog 260 [.agg a.cells, .agg b.cells] g fun r h'=>h'=g∧r= .int .i64 (zO a b):=by
 have h1:=zL7 a.a b.a;have h2:=zL7 a.b b.b;have h3:=zew (l:=[zDI a.a b.a,zDI a.b b.b]) (zX.mk .full) (by simp);have hr:=fun nid=>zhO (zDI a.a b.a) (zDI a.b b.b) nid;have hc:orL [zDI a.a b.a,zDI a.b b.b]=zO a b:=rfl;rw[hc] at h3;have hle0:∀h:Heap,HLe Heap.emp h:=fun h i ob e=>by cases e
 refine zA.of_fn (g:=zR8) mix Tryz.func260 zgK rfl rfl ?_;simp only[Tryz.f260,gJ];simp only[Trm.cells]
 repeat' first|simp only[go_sem,zcn, *]|apply bc<;>intro hc
 refine qG Heap.emp [(0, .no,true),(1, .no,true),(2, .no,true),(3, .no,true),(5, .no,true),(6, .st,true),(7, .no,true),(8, .st,true),(4, .no,true),(9, .no,true),(10, .no,true),(11, .no,true),(12, .no,true)] (by kernel_rfl) (by kernel_rfl) (fun i ob e=>by cases e) ?_
 repeat' first|simp only[go_sem,zcn, *]|apply bc<;>intro hc|(refine zA.mono (h1 _) ?_;rintro r h ⟨rfl,rfl⟩)|(refine zA.mono (h2 _) ?_;rintro r h ⟨rfl,rfl⟩)|(refine zA.mono (h3 _) ?_;rintro r h ⟨rfl,rfl⟩)
theorem zTc (x y:Trm) (c:Bool):zD1 Tryz.prog .eql 51 c (.agg [.str x.a, .str x.b]) (.agg [.str y.a, .str y.b])=some (.bool (x.a==y.a&&x.b==y.b)):=by
 have he:eqT Tryz.prog 51=some [.s, .s]:=by kernel_rfl
 simp only[zD1,he,zQn,eqK,Option.map_some,Bool.and_true,zAk]
theorem zVu {l:List Trm} {d:D} (hd:zX 2 (qg l) d) (hl:l.length≤1048576) (n:Trm) (g:Heap):
  zA Tryz.prog 324 [d, .agg [.str n.a, .str n.b]] g fun r h'=>h'=g∧r= .int .i64 (zIT (fun x:Trm=>n.a==x.a&&n.b==x.b) l):=by
 have hlen:=wb hd;have hv2:∀a b:D,ze true 2 [a,b] 0=some (.agg [a,b]):=fun a b=>zB rfl (by omega);have heq:=zTc n;obtain⟨p,hp⟩:∃p:Trm→Bool,(fun x:Trm=>n.a==x.a&&n.b==x.b)=p:=⟨_,rfl⟩;have hpe:∀x,(n.a==x.a&&n.b==x.b)=p x:=fun x=>by rw[←hp]
 rw[hp];clear hp;refine zA.of_fn (g:=zSp) mix Tryz.func324 zhE rfl rfl ?_;simp only[Tryz.f324,gJ]
 repeat' first|simp only[go_sem,zNH, *]|apply bc<;>intro hc
 refine zD (fun i fr h=>fr 0=d∧fr 3= .iptr [.str n.a, .str n.b] 0∧fr 7= .int .i64 (l.length:Int)∧fr 8= .int .i64 (i:Int)∧h=g∧∀j (hj:j<l.length),j<i→p l[j]=false) l.length (by omega) ?_ ?_ ?_
 ·simp only[go_sem,zNH,true_and,and_true,Int.ofNat_zero];exact fun j hj h0=>absurd h0 (Nat.not_lt_zero _)
 ·rintro i fr h hlt e1 ew ⟨f0,f3,f7,f8,rfl,hj⟩;have a1:=zCv hd hlt;simp only[Trm.cells] at a1;have hq:=heq l[i];rw[hpe] at hq;cases hb:p l[i] with
  |true=>
   have hx:=zCr (p:=p) hlt hj hb;rw[hb] at hq;clear hj hd hpe heq
   repeat' first|simp only[go_sem,zNH, *]|apply bc<;>intro hc
   refine zi (by kernel_rfl) ?_
   repeat' first|simp only[go_sem,zNH, *]|apply bc<;>intro hc
  |false=>
   have hn:=ql (p:=p) hlt hj hb;rw[hb] at hq;clear hj hd hpe heq
   repeat' first|simp only[go_sem,zNH, *]|apply bc<;>intro hc
   refine zi (by kernel_rfl) ?_
   repeat' first|simp only[go_sem,zNH, *]|apply bc<;>intro hc
   exact hn
 ·rintro fr h e1 ⟨f0,f3,f7,f8,rfl,hj⟩;have hx:=zCs (p:=p) fun j hj'=>hj j hj' hj';clear hj hd hpe heq
  repeat' first|simp only[go_sem,zNH, *]|apply bc<;>intro hc
theorem zNn {l:List Trm} {d:D} (hd:zX 2 (qg l) d) (hl:l.length≤1048576) (n:Trm) (g:Heap):
  zA Tryz.prog 290 [d, .agg [.str n.a, .str n.b]] g fun r h'=>h'=g∧r= .bool (l.any fun x:Trm=>n.a==x.a&&n.b==x.b):=by
 have hix:=zVu hd hl n;have hv2:∀a b:D,ze true 2 [a,b] 0=some (.agg [a,b]):=fun a b=>zB rfl (by omega);have hge:=zFS (l:=l) (p:=fun x:Trm=>n.a==x.a&&n.b==x.b);refine zA.of_fn (g:=zSZ) mix Tryz.func290 zgw rfl rfl ?_;simp only[Tryz.f290,gJ]
 repeat' first|simp only[go_sem,zgv, *]|apply bc<;>intro hc|(refine zA.mono (hix _) ?_;rintro r h ⟨rfl,rfl⟩)
theorem zMJ {l:List Trm} {d:D} (hd:zX 2 (qg l) d) (hl:l.length≤1048576) {f:FuncId} {cap:List D} {p:Trm→Bool} (hp:∀s∈l,∀h,zA Tryz.prog f ([]++ [.agg s.cells]++cap) h fun r h'=>h'=h∧r= .bool (p s)) (g:Heap):
  zA Tryz.prog 323 [d, .fn (.func f) [] cap] g fun r h'=>h'=g∧r= .int .i64 (zIT p l):=by
 have hlen:=wb hd;have hv2:∀a b:D,ze true 2 [a,b] 0=some (.agg [a,b]):=fun a b=>zB rfl (by omega);refine zA.of_fn (g:=zSb) mix Tryz.func323 zgz rfl rfl ?_;simp only[Tryz.f323,gJ]
 repeat' first|simp only[go_sem,zSc, *]|apply bc<;>intro hc
 refine zD (fun i fr h=>fr 1= .fn (.func f) [] cap∧fr 0=d∧fr 6=d∧fr 7= .int .i64 (l.length:Int)∧fr 8= .int .i64 (i:Int)∧h=g∧∀j (hj:j<l.length),j<i→p l[j]=false) l.length (by omega) ?_ ?_ ?_
 ·simp only[go_sem,zSc,true_and,and_true,Int.ofNat_zero];exact fun j hj h0=>by omega
 ·rintro i fr h hlt e1 ew ⟨f1,f0,f6,f7,f8,rfl,hj⟩;have a1:=zCv hd hlt;have hq:=hp _ (List.getElem_mem hlt);simp only[List.nil_append,List.cons_append,Trm.cells] at hq;simp only[Trm.cells] at a1;cases hb:p l[i] with
  |true=>
   have hx:=zCr hlt hj hb;rw[hb] at hq;clear hj hp hd
   repeat' first|simp only[go_sem,zSc, *]|apply bc<;>intro hc|(refine zA.mono (hq _) ?_;rintro r h ⟨rfl,rfl⟩)
  |false=>
   have hn:=ql (p:=p) hlt hj hb;rw[hb] at hq;clear hj hp hd
   repeat' first|simp only[go_sem,zSc, *]|apply bc<;>intro hc|(refine zA.mono (hq _) ?_;rintro r h ⟨rfl,rfl⟩)
   exact hn
 ·rintro fr h e1 ⟨f1,f0,f6,f7,f8,rfl,hj⟩;have hx:=zCs (p:=p) fun j hj'=>hj j hj' hj';clear hj hp hd
  repeat' first|simp only[go_sem,zSc, *]|apply bc<;>intro hc
theorem zHs {l:List Trm} {d:D} (hd:zX 2 (qg l) d) (hl:l.length≤1048576) {f:FuncId} {cap:List D} {p:Trm→Bool} (hp:∀s∈l,∀h,zA Tryz.prog f ([]++ [.agg s.cells]++cap) h fun r h'=>h'=h∧r= .bool (p s)) (g:Heap):
  zA Tryz.prog 288 [d, .fn (.func f) [] cap] g fun r h'=>h'=g∧r= .bool (l.any p):=by
 have hix:=zMJ hd hl hp;have hge:=zFS (l:=l) (p:=p);refine zA.of_fn (g:=zSB) mix Tryz.func288 zgO rfl rfl ?_;simp only[Tryz.f288,gJ]
 repeat' first|simp only[go_sem,zgN, *]|apply bc<;>intro hc|(refine zA.mono (hix _) ?_;rintro r h ⟨rfl,rfl⟩)
theorem zXg (x:Trm) (h:Heap) (id:Nat):zW Tryz.prog 51 (.ptr id 0) (.agg [.str x.a, .str x.b]) (h.new id (.row [.str [], .str []]))=some (h.new id (.row [.str x.a, .str x.b])):=zg wi (by omega) rfl rfl rfl
def zAm:List Trm→List Trm→Int
 | [],[]=>0
 | [],_::_=> -1
 |_::_,[]=>1
 |x::xs,y::ys=>if(!(zO x y==0))=true then zO x y else zAm xs ys
theorem zMK:∀ {a b:List Trm} {i:Nat} (ha:i<a.length) (hb:i<b.length),(∀j (h1:j<a.length) (h2:j<b.length),j<i→zO a[j] b[j]=0)→zO a[i] b[i]≠0→zAm a b=zO a[i] b[i]
 |x::xs,y::ys,0,_,_,_,h0=>by
  have h0':zO x y≠0:=h0;simp[zAm,h0']
 |x::xs,y::ys,i+1,ha,hb,hj,h0=>by
  have e:zO x y=0:=hj 0 (by simp) (by simp) (by omega);have:=zMK (a:=xs) (b:=ys) (i:=i) (by simpa using ha) (by simpa using hb) (fun j h1 h2 h3=>hj (j+1) (Nat.succ_lt_succ h1) (Nat.succ_lt_succ h2) (by omega)) (by simpa using h0);simp only[zAm,e,List.getElem_cons_succ];simpa using this
theorem zHt:∀ {a b:List Trm},(∀j (h1:j<a.length) (h2:j<b.length),zO a[j] b[j]=0)→zAm a b=if b.length<a.length then 1 else if a.length<b.length then -1 else 0
 | [],[],_=>rfl
 | [],y::ys,_=>by simp[zAm]
 |x::xs,[],_=>by simp[zAm]
 |x::xs,y::ys,hj=>by
  have e:zO x y=0:=hj 0 (by simp) (by simp);have:=zHt (a:=xs) (b:=ys) (fun j h1 h2=>hj (j+1) (Nat.succ_lt_succ h1) (Nat.succ_lt_succ h2));simp only[zAm,e,List.length_cons];simpa using this
set_option maxHeartbeats 4000000 in
theorem zIW {a b:List Trm} {d x:D} (ha:zX 2 (qg a) d) (hb:zX 2 (qg b) x) (hla:a.length≤1048576) (hlb:b.length≤1048576) (g:Heap):
  zA Tryz.prog 287 [d,x, .fn (.func 260) [] []] g fun r h'=>h'=g∧r= .int .i64 (zAm a b):=by
 refine zA.pure (by kernel_rfl) fun hh=> ?_;have hbel:∀k:Int,below g.next (.int .i64 k):=fun k=>by simp[below,yB]
 have hcm:=fun p q h=>zDZ p q h;simp only[Trm.cells] at hcm;have hl1:=wb ha;have hl2:=wb hb;have hE0:=Ext.refl g;have hv2:∀a b:D,ze true 2 [a,b] 0=some (.agg [a,b]):=fun a b=>zB rfl (by omega);obtain⟨R,hR⟩:∃R,zAm a b=R:=⟨_,rfl⟩;rw[hR];refine zA.of_fn (g:=zRy) mix Tryz.func287 zf6 rfl rfl ?_;simp only[Tryz.f287,gJ]
 repeat' first|simp only[go_sem,zND, *]|apply bc<;>intro hc
 refine zD (fun k fr h=>fr 0=d∧fr 1=x∧fr 2= .fn (.func 260) [] []∧fr 11=d∧fr 12= .int .i64 (a.length:Int)∧fr 13= .int .i64 (k:Int)∧Ext g h∧k≤b.length∧∀j (h1:j<a.length) (h2:j<b.length),j<k→zO a[j] b[j]=0) a.length (by omega) ?_ ?_ ?_
 ·simp only[go_sem,zND,true_and,and_true,Int.ofNat_zero];exact⟨hE0,Nat.zero_le _,fun j h1 h2 hj=>absurd hj (Nat.not_lt_zero _)⟩
 ·rintro k fr h hlt ec ew ⟨f0,f1,f2,f11,f12,f13,hE,hkb,hj⟩;have a1:=zCv ha hlt;have hst:=zXg a[k] h h.next;have hE2:=hE.new hE.1 (.row a[k].cells);simp only[Trm.cells] at a1 hE2;by_cases hk:k<b.length
  ·have a2:=zCv hb hk;have hq:decide ((k:Int)≥(b.length:Int))=false:=by simp only[decide_eq_false_iff_not];omega
   obtain⟨H2,eH2⟩:∃H2,h.new h.next (.row [.str a[k].a, .str a[k].b])=H2:=⟨_,rfl⟩;rw[eH2] at hst hE2;have n1:=zQ h h.next (.row [.str a[k].a, .str a[k].b]);rw[eH2] at n1;have hst2:=zXg b[k] H2 H2.next;have hE3:=hE2.new hE2.1 (.row b[k].cells);simp only[Trm.cells] at a2 hE3;have n2:=zQ H2 H2.next (.row [.str b[k].a, .str b[k].b]);have hlt2:h.next<H2.next:=by rw[←eH2,zK];omega
   have n3:(H2.new H2.next (.row [.str b[k].a, .str b[k].b])).at' h.next=some (.row [.str a[k].a, .str a[k].b]):=by rw[zM (by omega)];exact n1
   cases hv:(zO a[k] b[k]==0) with
   |true=>
    have hn:∀j (h1:j<a.length) (h2:j<b.length),j<k+1→zO a[j] b[j]=0:=fun j h1 h2 h3=>by
     rcases Nat.lt_succ_iff_lt_or_eq.1 h3 with q|rfl
     ·exact hj j h1 h2 q
     ·simpa using hv
    have hkb1:k+1≤b.length:=hk;clear hj ha hb hR
    repeat' first|simp only[go_sem,zND, *]|apply bc<;>intro hc|(refine zA.mono (hcm _ _ _) ?_;rintro r h ⟨hq2,rfl⟩)
    exact hn
   |false=>
    have hx:=zMK hlt hk hj (by simpa using hv);rw[hR] at hx;clear hj ha hb hR
    repeat' first|simp only[go_sem,zND, *]|apply bc<;>intro hc|(refine zA.mono (hcm _ _ _) ?_;rintro r h ⟨hq2,rfl⟩)
  ·have hq:decide ((k:Int)≥(b.length:Int))=true:=by simp only[decide_eq_true_eq];omega
   have hx:=zHt (a:=a) (b:=b) (fun j h1 h2=>hj j h1 h2 (by omega));rw[if_pos (by omega),hR] at hx;clear hj ha hb hR
   repeat' first|simp only[go_sem,zND, *]|apply bc<;>intro hc
 ·rintro fr h ec ⟨f0,f1,f2,f11,f12,f13,hE,hkb,hj⟩;have hx:=zHt (a:=a) (b:=b) (fun j h1 h2=>hj j h1 h2 h1);rw[if_neg (by omega),hR] at hx;clear hj ha hb hR;cases hq:decide ((a.length:Int)<(b.length:Int)) with
  |true=>
   rw[if_pos (by have:=of_decide_eq_true hq;omega)] at hx
   repeat' first|simp only[go_sem,zND, *]|apply bc<;>intro hc
  |false=>
   rw[if_neg (by have:=of_decide_eq_false hq;omega)] at hx
   repeat' first|simp only[go_sem,zND, *]|apply bc<;>intro hc
def zDa (a b:List Trm):Int:=orL [zFM a.length b.length,zAm a b]
theorem zML {a b:List Trm} {d x:D} (ha:zX 2 (qg a) d) (hb:zX 2 (qg b) x) (hla:a.length≤1048576) (hlb:b.length≤1048576) (g:Heap):
  zA Tryz.prog 263 [d,x] g fun r h'=>h'=g∧r= .int .i64 (zDa a b):=by
 have hl1:=wb ha;have hl2:=wb hb;have h1:=zLy a.length b.length;have h2:=zIW ha hb hla hlb;have h3:=zew (l:=[zFM a.length b.length,zAm a b]) (zX.mk .full) (by simp);have hr:=fun nid=>zhO (zFM a.length b.length) (zAm a b) nid;have hc:orL [zFM a.length b.length,zAm a b]=zDa a b:=rfl;rw[hc] at h3;refine zA.of_fn (g:=zSn) mix Tryz.func263 zhC rfl rfl ?_;simp only[Tryz.f263,gJ]
 repeat' first|simp only[go_sem,zhB, *]|apply bc<;>intro hc|(refine zA.mono (h1 _) ?_;rintro r h ⟨rfl,rfl⟩)|(refine zA.mono (h2 _) ?_;rintro r h ⟨rfl,rfl⟩)|(refine zA.mono (h3 _) ?_;rintro r h ⟨rfl,rfl⟩)
def zfB (l:List Trm) (n:Trm):Bool:=l.any fun x:Trm=>n.a==x.a&&n.b==x.b
theorem zZ2 {l:List Trm} {d:D} (hd:zX 2 (qg l) d) (hl:l.length≤1048576) (n:Trm) (g:Heap):
  zA Tryz.prog 289 [.agg n.cells, .iptr [d] 0] g fun r h'=>h'=g∧r= .bool (!(zfB l n)):=by
 have hc:=zNn hd hl n;have hm:(l.any fun x:Trm=>n.a==x.a&&n.b==x.b)=zfB l n:=rfl;rw[hm] at hc;have hv2:∀a b:D,ze true 2 [a,b] 0=some (.agg [a,b]):=fun a b=>zB rfl (by omega);refine zA.of_fn (g:=zSS) mix Tryz.func289 zgh rfl rfl ?_;simp only[Tryz.f289,gJ];simp only[Trm.cells]
 repeat' first|simp only[go_sem,zgg, *]|apply bc<;>intro hc|(refine zA.mono (hc _) ?_;rintro r h ⟨rfl,rfl⟩)
def zEp (a b:List Trm):Bool:= !(b.any fun n=> !(zfB a n))
theorem zKi {a b:List Trm} {d x:D} (ha:zX 2 (qg a) d) (hb:zX 2 (qg b) x) (hla:a.length≤1048576) (hlb:b.length≤1048576) (g:Heap):
  zA Tryz.prog 265 [d,x] g fun r h'=>h'=g∧r= .bool (zEp a b):=by
 have hc:=zHs hb hlb (f:=289) (cap:=[.iptr [d] 0]) fun n _ h=>zZ2 ha hla n h;have hm:(b.any fun n=> !(zfB a n))= !(zEp a b):=by simp[zEp]
 rw[hm] at hc;refine zA.of_fn (g:=zRw) mix Tryz.func265 zf4 rfl rfl ?_;simp only[Tryz.f265,gJ];rcases ha with⟨rfl,_⟩ | ⟨_,rfl⟩
 ·repeat' first|simp only[go_sem,zcc, *]|apply bc<;>intro hc|(refine zA.mono (hc _) ?_;rintro r h ⟨rfl,rfl⟩)
 ·repeat' first|simp only[go_sem,zcc, *]|apply bc<;>intro hc|(refine zA.mono (hc _) ?_;rintro r h ⟨rfl,rfl⟩)
structure QC {β:Type} (c:β→β→Int):Prop where
 anti:∀x y,c x y<0↔0<c y x
 trans:∀x y z,c x y≤0→c y z≤0→c x z≤0
theorem QC.refl {β:Type} {c:β→β→Int} (h:QC c) (x:β):c x x=0:=by
 have:=h.anti x x;omega
theorem QC.eq0 {β:Type} {c:β→β→Int} (h:QC c) {x y:β} (e:c x y=0):c y x=0:=by
 have h1:=h.anti x y;have h2:=h.anti y x;omega
theorem QC.ltle {β:Type} {c:β→β→Int} (h:QC c) {x y z:β} (h1:c x y<0) (h2:c y z≤0):c x z<0:=by
 have a:=h.trans x y z (by omega) h2;rcases Int.lt_or_eq_of_le a with q|q
 ·exact q
 ·have b:=h.trans y z x h2 (by rw[h.eq0 q];exact Int.le_refl _);have:=(h.anti x y).1 h1;omega
theorem QC.lelt {β:Type} {c:β→β→Int} (h:QC c) {x y z:β} (h1:c x y≤0) (h2:c y z<0):c x z<0:=by
 have a:=h.trans x y z h1 (by omega);rcases Int.lt_or_eq_of_le a with q|q
 ·exact q
 ·have b:=h.trans z x y (by rw[h.eq0 q];exact Int.le_refl _) h1;have:=(h.anti y z).1 h2;omega
theorem QC.key {β γ:Type} {c:β→β→Int} (h:QC c) (f:γ→β):QC fun x y=>c (f x) (f y):=⟨fun _ _=>h.anti _ _,fun _ _ _=>h.trans _ _ _⟩
def zQK (a b:Int):Int:=if a=0 then b else a
theorem QC.lex {β:Type} {c d:β→β→Int} (h:QC c) (k:QC d):QC fun x y=>zQK (c x y) (d x y) where
 anti x y:=by
  have h1:=h.anti x y;have h2:=h.anti y x;have h3:=k.anti x y;simp only[zQK];split<;>split<;>omega
 trans x y z h1 h2:=by
  simp only[zQK] at *
  by_cases e1:c x y=0
  ·by_cases e2:c y z=0
   ·rw[if_pos e1] at h1;rw[if_pos e2] at h2;have e3:c x z=0:=by
     have a:=h.trans x y z (by omega) (by omega);have b:=h.trans z y x (by rw[h.eq0 e2];omega) (by rw[h.eq0 e1];omega);have:=h.anti z x;have:=h.anti x z;omega
    rw[if_pos e3];exact k.trans x y z h1 h2
   ·rw[if_neg e2] at h2;have:=h.lelt (x:=x) (y:=y) (z:=z) (by omega) (by omega);rw[if_neg (by omega)];omega
  ·rw[if_neg e1] at h1;by_cases e2:c y z=0
   ·have:=h.ltle (x:=x) (y:=y) (z:=z) (by omega) (by omega);rw[if_neg (by omega)];omega
   ·rw[if_neg e2] at h2;have:=h.ltle (x:=x) (y:=y) (z:=z) (by omega) (by omega);rw[if_neg (by omega)];omega
def zGh {β:Type} (c:β→β→Int):List β→List β→Int
 | [],[]=>0
 | [],_::_=> -1
 |_::_,[]=>1
 |x::xs,y::ys=>zQK (c x y) (zGh c xs ys)
theorem zMM {β:Type} {c:β→β→Int} (h:QC c):∀x y,zGh c x y<0↔0<zGh c y x
 | [],[]=>by simp[zGh]
 | [],_::_=>by simp[zGh]
 |_::_,[]=>by simp[zGh]
 |a::x,b::y=>by
  have h1:=h.anti a b;have h2:=h.anti b a;have h3:=zMM h x y;simp only[zGh,zQK];split<;>split<;>omega
theorem zJL {β:Type} {c:β→β→Int} (h:QC c):∀x y z,zGh c x y≤0→zGh c y z≤0→zGh c x z≤0
 | [],_,[],_,_=>by simp[zGh]
 | [],_,_::_,_,_=>by simp[zGh]
 |_::_,[],_,h1,_=>by simp[zGh] at h1
 |_::_,_::_,[],_,h2=>by simp[zGh] at h2
 |a::x,b::y,d::z,h1,h2=>by
  have ih:=zJL h x y z;simp only[zGh,zQK] at *
  by_cases e1:c a b=0
  ·by_cases e2:c b d=0
   ·rw[if_pos e1] at h1;rw[if_pos e2] at h2;have e3:c a d=0:=by
     have p:=h.trans a b d (by omega) (by omega);have q:=h.trans d b a (by rw[h.eq0 e2];omega) (by rw[h.eq0 e1];omega);have:=h.anti d a;have:=h.anti a d;omega
    rw[if_pos e3];exact ih h1 h2
   ·rw[if_neg e2] at h2;have:=h.lelt (x:=a) (y:=b) (z:=d) (by omega) (by omega);rw[if_neg (by omega)];omega
  ·rw[if_neg e1] at h1;by_cases e2:c b d=0
   ·have:=h.ltle (x:=a) (y:=b) (z:=d) (by omega) (by omega);rw[if_neg (by omega)];omega
   ·rw[if_neg e2] at h2;have:=h.ltle (x:=a) (y:=b) (z:=d) (by omega) (by omega);rw[if_neg (by omega)];omega
theorem QC.list {β:Type} {c:β→β→Int} (h:QC c):QC (zGh c):=⟨zMM h,zJL h⟩
theorem zNo {β:Type} {c:β→β→Int} (h:∀x y,c x y=0→x=y):∀x y,zGh c x y=0→x=y
 | [],[],_=>rfl
 | [],_::_,e=>by simp[zGh] at e
 |_::_,[],e=>by simp[zGh] at e
 |a::x,b::y,e=>by
  simp only[zGh,zQK] at e;split at e
  ·rename_i q;rw[h _ _ q,zNo h x y e]
  ·exact absurd e (by assumption)
section
variable {β:Type} {c:β→β→Int}
def srt (c:β→β→Int) (l:List β):List β:=l.mergeSort fun a b=> !(decide (c b a<0))
theorem w8 (l:List β):(srt c l).Perm l:=List.mergeSort_perm _ _
theorem zNp {l:List β} {x:β} :x∈srt c l↔x∈l:=(w8 l).mem_iff
theorem zJM (h:QC c) (l:List β):(srt c l).Pairwise fun a b=>¬c b a<0:=by
 have:=List.pairwise_mergeSort (le:=fun a b=> !(decide (c b a<0))) (fun x y z h1 h2=>by
  simp only[Bool.not_eq_true',decide_eq_false_iff_not] at *
  have a1:=h.anti y x;have a2:=h.anti z y;have a3:=h.anti z x;have:=h.trans x y z (by omega) (by omega);omega) (fun x y=>by
  have:=h.anti x y;simp only[Bool.or_eq_true,Bool.not_eq_true',decide_eq_false_iff_not];omega) l
 exact this.imp fun hx=>by simpa using hx
theorem zEq (h:QC c) (he:∀x y,c x y=0→x=y):∀ {l m:List β},l.Perm m→l.Pairwise (fun a b=>¬c b a<0)→m.Pairwise (fun a b=>¬c b a<0)→l=m
 | [],m,hp,_,_=>(List.nil_perm.1 hp).symm
 |x::l,[],hp,_,_=>by cases List.perm_nil.1 hp
 |x::l,y::m,hp,h1,h2=>by
  have hx:x∈y::m:=hp.mem_iff.1 (by simp);have hy:y∈x::l:=hp.mem_iff.2 (by simp);have e:x=y:=by
   rcases List.mem_cons.1 hx with q|q
   ·exact q
   ·rcases List.mem_cons.1 hy with q2|q2
    ·exact q2.symm
    ·have a1:=(List.pairwise_cons.1 h1).1 y q2;have a2:=(List.pairwise_cons.1 h2).1 x q;have a3:=h.anti x y;exact he _ _ (by have:=h.anti y x;omega)
  subst e;rw[zEq h he (List.perm_cons x |>.1 hp) (List.pairwise_cons.1 h1).2 (List.pairwise_cons.1 h2).2]
theorem zTd (h:QC c) (he:∀x y,c x y=0→x=y) {l m:List β} (hp:m.Perm l) (hs:m.Pairwise fun a b=>¬c b a<0):m=srt c l:=zEq h he (hp.trans (w8 l).symm) hs (zJM h l)
theorem zTe (h:QC c) (he:∀x y,c x y=0→x=y) {l m:List β} (hp:m.Perm l):srt c m=srt c l:=zTd h he ((w8 m).trans hp) (zJM h m)
def zBN (c:β→β→Int) (l:List β):Nat→List β
 |0=>[]
 |n+1=>match l[n]? with
  |none=>zBN c l n
  |some x=>match n with
   |0=>[x]
   |k+1=>match l[k]? with
    |none=>zBN c l (k+1)
    |some y=>if(c x y==0)=true then zBN c l (k+1) else zBN c l (k+1)++ [x]
def cpt (c:β→β→Int) (l:List β):List β:=zBN c l l.length
theorem zPI {l:List β} (h:0<l.length):zBN c l 1= [l[0]]:=by simp[zBN,h]
theorem zHu {l:List β} {k:Nat} (h:k+1<l.length):zBN c l (k+2)=if(c l[k+1] l[k]==0)=true then zBN c l (k+1) else zBN c l (k+1)++ [l[k+1]]:=by
 have h1:l[k+1]? =some l[k+1]:=List.getElem?_eq_getElem h;have h2:l[k]? =some l[k]:=List.getElem?_eq_getElem (by omega);rw[zBN];simp only[h1,h2]
theorem zZ3 {l:List β} {k:Nat} {x y:β} (h1:l[k+1]? =some x) (h2:l[k]? =some y):zBN c l (k+2)=if(c x y==0)=true then zBN c l (k+1) else zBN c l (k+1)++ [x]:=by
 rw[zBN];simp only[h1,h2]
theorem zGi {l:List β} :∀n,(zBN c l n).length≤n
 |0=>Nat.le_refl _
 |1=>by
  rw[zBN];split
  ·simp[zBN]
  ·simp
 |k+2=>by
  have ih:=zGi (l:=l) (k+1);rw[zBN];split
  ·omega
  ·simp only;split
   ·omega
   ·split
    ·omega
    ·rw[List.length_append];simp only[List.length_cons,List.length_nil];omega
theorem zPJ {l:List β} (h:0<l.length):∀n,n≤l.length→0<n→0<(zBN c l n).length
 |1,_,_=>by rw[zPI h];simp
 |k+2,hn,_=>by
  rw[zHu (by omega)];have:=zPJ h (k+1) (by omega) (by omega);split
  ·exact this
  ·rw[List.length_append];omega
end
theorem zAW (l:List Trm):∀x∈qg l,x.length=2:=fun x hx=>by
 obtain⟨y,_,rfl⟩:=List.mem_map.1 hx;rfl
theorem zPK (a b:List UInt8):(zDI a b==0)=(a==b):=by
 unfold zDI;split
 ·rename_i h
  have:a≠b:=fun e=>by subst e;rw[zFK,decide_eq_true_eq] at h;exact absurd h (List.lt_irrefl _)
  simp[this]
 ·split
  ·rename_i h;simp[h]
  ·rename_i h;simp[h]
theorem zDG (x y:Trm):(zO x y==0)=(x.a==y.a&&x.b==y.b):=by
 unfold zO orL;have h1:=zPK x.a y.a;have h2:=zPK x.b y.b;split
 ·rename_i h;rw[h] at h1;rw[←h1,←h2];simp only[orL];split
  ·rename_i q;rw[q];rfl
  ·simp
 ·rename_i h;rw[←h1];simp[h]
theorem zVv (l m:List Trm):(qg (l++m)).flatten=(qg l).flatten++(qg m).flatten:=by simp[qg]
set_option maxHeartbeats 4000000 in
theorem zQL {l:List Trm} {id:Nat} {g:Heap} (h0:l≠[]) (hl:l.length≤1048576) (hrow:g.at' id=some (.row (qg l).flatten)):
  zA Tryz.prog 261 [.rs id 2 0 l.length] g fun r h'=>r= .rs id 2 0 (cpt zO l).length∧∃rest,h'=g.set id (.row ((qg (cpt zO l)).flatten++rest)):=by
 have hlen:=fun(h:Heap)=>zHT (P:=Tryz.prog) (t:=168) (sz:=2) (id:=id) (off:=0) (len:=l.length) (h:=h) Tryz.underlying168;have hpos:0<l.length:=List.length_pos_iff.2 h0;have hflat:∀x:Trm,([.str x.a, .str x.b]:List D).all D.flat=true:=fun x=>rfl;have hsame:∀n,n≤l.length→(∀i (h:i+1<l.length),i+1<n→(zO l[i+1] l[i]==0)=false)→zBN zO l n=l.take n:=fun n hn hh=>by
  induction n with
  |zero=>rfl
  |succ n ih=>
   cases n with
   |zero=>rw[zPI hpos,List.take_one];simp[List.head?_eq_getElem?,hpos]
   |succ k=>
    rw[zHu (by omega),if_neg (by rw[hh k (by omega) (by omega)];exact Bool.false_ne_true),ih (by omega) fun i h1 h2=>hh i h1 (by omega)];exact(List.take_succ_eq_append_getElem (by omega)).symm
 refine zA.post fun Q hQ=> ?_;have hdone:(∀i (h:i+1<l.length),i+1<l.length→(zO l[i+1] l[i]==0)=false)→Q (.rs id 2 0 l.length) g:=fun hh=>hQ _ _ (by
  have e:cpt zO l=l:=by
   have:=hsame l.length (Nat.le_refl _) hh;rw[List.take_length] at this;exact this
  rw[e];exact⟨rfl,[],by rw[List.append_nil,zEX hrow]⟩)
 refine zA.of_fn (g:=zSQ) mix Tryz.func261 zge rfl rfl ?_;simp only[Tryz.f261,gJ];cases q1:decide ((l.length:Int)<2) with
 |true=>
  have hd:=hdone fun i h1 h2=>by have:=of_decide_eq_true q1;omega
  clear hdone hQ
  repeat' first|simp only[go_sem,zEU, *]|apply bc<;>intro hc
 |false=>
 repeat' first|simp only[go_sem,zEU, *]|apply bc<;>intro hc
 refine yG (fun i fr h=>fr 0= .rs id 2 0 l.length∧fr 3= .int .i64 ((i+1:Nat):Int)∧h=g∧i+1≤l.length∧∀j (h:j+1<l.length),j+1<i+1→(zO l[j+1] l[j]==0)=false) l.length ?_ ?_
 ·simp only[go_sem,zEU,true_and,and_true,Int.ofNat_zero];exact⟨rfl,hpos,fun j h1 h2=>by omega⟩
 rintro i fr h hi ⟨f0,f3,rfl,hile,hj⟩;by_cases hlt:i+1<l.length
 ·have e1:decide (((i+1:Nat):Int)<(l.length:Int))=true:=decide_eq_true (by omega);have ew:IntKind.i64.wrap (((i+1:Nat):Int)+1)=((i+2:Nat):Int):=zf (by unfold lim;omega);have ew2:IntKind.i64.wrap (((i+1:Nat):Int)-1)=((i:Nat):Int):=by rw[zx (by omega) (by omega)];omega
  have a1:=qk (P:=Tryz.prog) (sz:=2) (id:=id) yo wi (k:= .i64) hlt;have a2:=qk (P:=Tryz.prog) (sz:=2) (id:=id) yo wi (k:= .i64) (show i<l.length by omega);have p1:=zDB (zAW l) (by omega) (zKh hlt);have p2:=zDB (zAW l) (by omega) (zKh (show i<l.length by omega));have hq:=zTc l[i+1] l[i];have hb0:=zDG l[i+1] l[i];rw[←hb0] at hq;clear hb0;simp only[Trm.cells] at p1 p2;cases hb:(zO l[i+1] l[i]==0) with
  |false=>
   rw[hb] at hq;have hn:∀j (h:j+1<l.length),j+1<i+2→(zO l[j+1] l[j]==0)=false:=fun j h1 h2=>by
    by_cases e:j=i
    ·subst e;exact hb
    ·exact hj j h1 (by omega)
   clear hj hdone hsame q1 h0 hb
   repeat' first|simp only[go_sem,zEU, *]|apply bc<;>intro hc
   refine zi (by kernel_rfl) ?_
   repeat' first|simp only[go_sem,zEU, *]|apply bc<;>intro hc
   exact⟨by omega,hlt,hn⟩
  |true=>
   rw[hb] at hq;have hcs:zBN zO l (i+2)=l.take (i+1):=by
    rw[zHu hlt,if_pos hb,hsame (i+1) (by omega) fun j h1 h2=>hj j h1 h2]
   have hsl:=zF0 (P:=Tryz.prog) (t:=168) (sz:=2) (id:=id) (h:=h) zET yo wi (k:= .i64) hile;clear hj hdone hsame q1 h0 hb
   repeat' first|simp only[go_sem,zEU, *]|apply bc<;>intro hc
   refine zi (by kernel_rfl) ?_
   repeat' first|simp only[go_sem,zEU, *]|apply bc<;>intro hc
   refine yG (fun m fr h'=>fr 0= .rs id 2 0 l.length∧fr 4= .rs id 2 ((i+1)*2) (l.length- (i+1))∧fr 5= .int .i64 ((m+1:Nat):Int)∧i+1+(m+1)≤l.length∧∃ys:List Trm,ys.length=l.length∧h'=h.set id (.row (qg ys).flatten)∧
    (zBN zO l (i+2+m)).length≤i+1+m∧fr 3= .int .i64 (((zBN zO l (i+2+m)).length:Nat):Int)∧ys.take (zBN zO l (i+2+m)).length=zBN zO l (i+2+m)∧ys.drop (i+1+m)=l.drop (i+1+m)) l.length ?_ ?_
   ·have hc1:(zBN zO l (i+2)).length=i+1:=by rw[hcs,List.length_take];omega
    have hc2:zBN zO l (i+2+0)=zBN zO l (i+2):=rfl;have hres:i+1+(0+1)≤l.length∧∃ys:List Trm,ys.length=l.length∧h=h.set id (.row (qg ys).flatten)∧
     (zBN zO l (i+2+0)).length≤i+1+0∧D.int .i64 ((i+1:Nat):Int)= .int .i64 (((zBN zO l (i+2+0)).length:Nat):Int)∧ys.take (zBN zO l (i+2+0)).length=zBN zO l (i+2+0)∧ys.drop (i+1+0)=l.drop (i+1+0):=
     ⟨by omega,l,rfl,(zEX hrow).symm,by rw[hc2,hc1];omega,by rw[hc2,hc1],by rw[hc2,hc1,hcs],rfl⟩
    clear hc1 hc2 hcs;simp only[go_sem,zEU,true_and,and_true,Int.ofNat_zero];obtain⟨r0,ys,r1,r2,r3,r4,r5,r6⟩:=hres;exact⟨f0,rfl,r0,ys,r1,r2,r3,f3.trans r4,r5,r6⟩
   clear hcs hsl hq p1 p2 a1 a2 f0 f3 e1 ew ew2;rintro m fr2 h2 hm ⟨f0,f4,f5,hml,ys,hyl,rfl,hcl,f3,hyt,hyd⟩;have hrow2:(h.set id (.row (qg ys).flatten)).at' id=some (.row (qg ys).flatten):=zF _ _ _;have hlen2:=fun(H:Heap)=>zHT (P:=Tryz.prog) (t:=168) (sz:=2) (id:=id) (off:=(i+1)*2) (len:=l.length- (i+1)) (h:=H) Tryz.underlying168;by_cases hlt2:m+1<l.length- (i+1)
   ·have e1:decide (((m+1:Nat):Int)<((l.length- (i+1):Nat):Int))=true:=decide_eq_true (by omega);have ew:IntKind.i64.wrap (((m+1:Nat):Int)+1)=((m+2:Nat):Int):=zf (by unfold lim;omega);have ew2:IntKind.i64.wrap (((m+1:Nat):Int)-1)=((m:Nat):Int):=by rw[zx (by omega) (by omega)];omega
    have a1:=zDY (P:=Tryz.prog) (sz:=2) (id:=id) (off:=(i+1)*2) yo wi (k:= .i64) hlt2;have a2:=zDY (P:=Tryz.prog) (sz:=2) (id:=id) (off:=(i+1)*2) yo wi (k:= .i64) (show m<l.length- (i+1) by omega);obtain⟨x,hx⟩:∃x,l[i+1+m+1]? =some x:=⟨_,List.getElem?_eq_getElem (by omega)⟩;obtain⟨y,hy⟩:∃y,l[i+1+m]? =some y:=⟨_,List.getElem?_eq_getElem (by omega)⟩;have g1:ys[i+1+(m+1)]? =some x:=by
     have:=congrArg (fun z=>z[1]?) hyd;simp only[List.getElem?_drop] at this;rw[show i+1+(m+1)=i+1+m+1 by omega,this,hx]
    have g2:ys[i+1+m]? =some y:=by
     have:=congrArg (fun z=>z[0]?) hyd;simp only[List.getElem?_drop,Nat.add_zero] at this;rw[this,hy]
    have cg:∀ (k:Nat) (x:Trm),ys[k]? =some x→(qg ys)[k]? =some x.cells:=fun k x e=>by simp[qg,e]
    have p1:=zHr (zAW ys) (by omega) (cg _ _ g1);have p2:=zHr (zAW ys) (by omega) (cg _ _ g2);have hsx:zBN zO l (i+2+(m+1))=if(zO x y==0)=true then zBN zO l (i+2+m) else zBN zO l (i+2+m)++ [x]:=by
     have:=zZ3 (c:=zO) hx hy;rw[show i+2+(m+1)=i+1+m+2 by omega,this,show i+2+m=i+1+m+1 by omega]
    have hyd2:∀zs:List Trm,zs.drop (i+1+m)=l.drop (i+1+m)→zs.drop (i+1+(m+1))=l.drop (i+1+(m+1)):=fun zs e=>by
     have:=congrArg (List.drop 1) e;simpa [List.drop_drop,Nat.add_assoc] using this
    generalize hR:zBN zO l (i+2+m)=R at *
    have hq:=zTc x y;have hb0:=zDG x y;rw[←hb0] at hq;have hqn:∀c,zD1 Tryz.prog .neq 51 c (.agg [.str x.a, .str x.b]) (.agg [.str y.a, .str y.b])=some (.bool (!(zO x y==0))):=fun c=>by
     have he:eqT Tryz.prog 51=some [.s, .s]:=by kernel_rfl
     rw[hb0];simp only[zD1,he,zQn,eqK,Option.map_some,Bool.and_true,zAk]
    clear hb0 hq;simp only[Trm.cells] at p1 p2;cases hb:(zO x y==0) with
    |true=>
     rw[hb] at hqn;rw[if_pos hb] at hsx;have hres:m<l.length∧i+1+(m+1+1)≤l.length∧∃zs:List Trm,zs.length=l.length∧h.set id (.row (qg ys).flatten)=h.set id (.row (qg zs).flatten)∧
      (zBN zO l (i+2+(m+1))).length≤i+1+(m+1)∧D.int .i64 ((R.length:Nat):Int)= .int .i64 (((zBN zO l (i+2+(m+1))).length:Nat):Int)∧zs.take (zBN zO l (i+2+(m+1))).length=zBN zO l (i+2+(m+1))∧zs.drop (i+1+(m+1))=l.drop (i+1+(m+1)):=
      ⟨by omega,by omega,ys,hyl,rfl,by rw[hsx];omega,by rw[hsx],by rw[hsx];exact hyt,hyd2 _ hyd⟩
     clear hyt hyd hyd2 hsx g1 g2 cg hx hy hR hcl hb
     repeat' first|simp only[go_sem,zEU, *]|apply bc<;>intro hc
     refine zi (by kernel_rfl) ?_
     repeat' first|simp only[go_sem,zEU, *]|apply bc<;>intro hc
    |false=>
     rw[hb] at hqn;rw[if_neg (by rw[hb];exact Bool.false_ne_true)] at hsx;have hRl:R.length<l.length:=by omega
     have a3:=qk (P:=Tryz.prog) (sz:=2) (id:=id) yo wi (k:= .i64) hRl;have hst:=zNL (P:=Tryz.prog) (t:=51) hrow2 (zAW ys) (by omega) wi (i:=R.length) (by rw[qZ,hyl];exact hRl) (x:=[.str x.a, .str x.b]) rfl rfl;have hset:(qg ys).set R.length [.str x.a, .str x.b]=qg (ys.set R.length x):=by
      have:([.str x.a, .str x.b]:List D)=x.cells:=rfl;rw[this,qg,qg,List.map_set]
     rw[hset,zKf] at hst;have ew3:IntKind.i64.wrap (((R.length:Nat):Int)+1)=((R.length+1:Nat):Int):=zf (by unfold lim;omega);have hres:m<l.length∧i+1+(m+1+1)≤l.length∧∃zs:List Trm,zs.length=l.length∧h.set id (.row (qg (ys.set R.length x)).flatten)=h.set id (.row (qg zs).flatten)∧
      (zBN zO l (i+2+(m+1))).length≤i+1+(m+1)∧D.int .i64 ((R.length+1:Nat):Int)= .int .i64 (((zBN zO l (i+2+(m+1))).length:Nat):Int)∧zs.take (zBN zO l (i+2+(m+1))).length=zBN zO l (i+2+(m+1))∧zs.drop (i+1+(m+1))=l.drop (i+1+(m+1)):=by
      have hRn:(R++ [x]).length=R.length+1:=by simp
      refine⟨by omega,by omega,ys.set R.length x,by simpa using hyl,rfl,by rw[hsx,hRn];omega,by rw[hsx,hRn],?_,?_⟩
      ·rw[hsx,hRn,List.take_succ_eq_append_getElem (by rw[List.length_set];omega),List.getElem_set_self,List.take_set_of_le (Nat.le_refl _),hyt]
      ·rw[List.drop_set_of_lt (by omega)];exact hyd2 _ hyd
     clear hyt hyd hyd2 hsx g1 g2 cg hx hy hR hcl hb hset
     repeat' first|simp only[go_sem,zEU, *]|apply bc<;>intro hc
     refine zi (by kernel_rfl) ?_
     repeat' first|simp only[go_sem,zEU, *]|apply bc<;>intro hc
   ·have e1:decide (((m+1:Nat):Int)<((l.length- (i+1):Nat):Int))=false:=decide_eq_false (by omega);have hme:i+2+m=l.length:=by omega
    have hce:zBN zO l (i+2+m)=cpt zO l:=by rw[hme];rfl
    rw[hce] at hyt f3 hcl;have hcle:(cpt zO l).length≤l.length:=zGi _;have hsl:=fun(H:Heap)=>zF0 (P:=Tryz.prog) (t:=168) (sz:=2) (id:=id) (h:=H) zET yo wi (k:= .i64) hcle;have hsh:=fun(H:Heap)=>zBU (P:=Tryz.prog) (t:=168) (h:=H) zET yo (id:=id) (sz:=2) wi (k:= .i64) hcle;obtain⟨rest,hclr⟩:=zTW (P:=Tryz.prog) (sz:=2) (t:=168) yo zCB rfl rfl hrow2 (zAW ys) (n:=(cpt zO l).length) (by rw[qZ];omega);have htk:(qg ys).take (cpt zO l).length=qg (cpt zO l):=by rw[qg,←List.map_take,hyt];rfl
    rw[htk,zKf,qZ,hyl] at hclr;have hfin:=hQ (.rs id 2 0 (cpt zO l).length) (h.set id (.row ((qg (cpt zO l)).flatten++rest))) ⟨rfl,rest,rfl⟩;clear hyt hyd hme hce htk hQ
    repeat' first|simp only[go_sem,zEU, *]|apply bc<;>intro hc
 ·have e1:decide (((i+1:Nat):Int)<(l.length:Int))=false:=decide_eq_false (by omega);have hd:=hdone fun j h1 h2=>hj j h1 (by omega);clear hj hdone hsame q1 h0 hQ
  repeat' first|simp only[go_sem,zEU, *]|apply bc<;>intro hc
theorem zVw (l:List Trm) (n:Nat):below n (.sl 2 (qg l) .no):=zu (Nat.zero_le _) _ (yN (sz:=2) (xs:=qg l) (fun x hx=>by
 obtain⟨y,_,rfl⟩:=List.mem_map.1 hx;exact⟨rfl,by simp[Trm.cells,yB,below],rfl⟩) .no).2
theorem zTf {id sz:Nat} {cs rest:List D} {xs:List (List D)} {n:Nat} (hx:∀x∈xs,x.length=sz) (hl:xs.length=n) (hc:cs=xs.flatten++rest):frz id cs (.rs id sz 0 n)= .sl sz xs .no:=by
 subst hc hl;simp only[frz];rw[if_pos ⟨trivial,by rw[List.length_append,qR hx];omega⟩,List.drop_zero,List.take_append_of_le_length (by rw[qR hx];omega),List.take_of_length_le (by rw[qR hx];omega),zAN hx]
theorem zZ4 (h:Heap) (i:Nat) (o:Obj):(h.set i o).del i=h.del i:=by
 unfold Heap.set Heap.del;simp only[Heap.mk.injEq,true_and]
 funext j
 by_cases e:j=i<;>simp[e]
theorem zNq {l:List Trm} {id:Nat} {g:Heap} (h0:l≠[]) (hl:l.length≤1048576) (hrow:g.at' id=some (.row (qg l).flatten)):
  zA Tryz.prog 261 [.rs id 2 0 l.length] g fun r h'=>h'=g.del id∧r= .sl 2 (qg (cpt zO l)) .no:=
 zA.freezeD ((zQL h0 hl hrow).mono (by
  rintro r h' ⟨rfl,rest,rfl⟩;exact⟨id,_,zF _ _ _,by rw[zZ4],zTf (zAW _) (qZ _) rfl⟩))
theorem zTg {l:List Trm} {d:D} (hd:zX 2 (qg l) d) (h0:l≠[]) (hl:l.length≤1048576) (h:Heap):
  zA Tryz.prog 126 [d] h fun r h'=>r= .rs h.next 2 0 l.length∧h'=h.new h.next (.row (qg l).flatten):=by
 rcases hd with⟨rfl,hs⟩ | ⟨tk,rfl⟩
 ·exact absurd (List.map_eq_nil_iff.1 hs) h0
 have hpos:0<l.length:=List.length_pos_iff.2 h0;have hn:zD1 Tryz.prog .eql 168 true (.sl 2 (qg l) tk) .nilsl=some (.bool false):=by rw[zCD (zX.mk tk) Tryz.underlying168];rfl
 have hz:=fun nid h=>zAg (P:=Tryz.prog) (nid:=nid) (h:=h) yo zCB wi rfl rfl (by omega:0<2);have hap:zZ Tryz.prog true h.next 168 (.sl 2 [] .full) (.sl 2 (qg l) tk) h=some (.rs h.next 2 0 l.length,h.new h.next (.row (qg l).flatten)):=by
  rw[zEW yo zRX wi (by omega) (zAW l) (by rw[zHI,qZ];unfold lim;omega) (by rw[qZ];unfold lim;omega),qZ,if_neg (by omega),zCC Tryz.underlying51]
 refine zA.of_fn (g:=zOo) mix Tryz.func126 zc5 rfl rfl ?_;simp only[Tryz.f126,gJ];simp only[yv,go_sem,zgm,hn,hz,hap]
theorem zTh:QC zDI where
 anti x y:=by
  unfold zDI;rw[zFK,zFK];rcases Std.lt_trichotomy x y with h|h|h
  ·have:=List.lt_asymm h;have n:¬x=y:=fun e=>by subst e;exact this h
   simp[h,this,n,Ne.symm n]
  ·subst h;simp[List.lt_irrefl]
  ·have:=List.lt_asymm h;have n:¬x=y:=fun e=>by subst e;exact this h
   simp[h,this,n,Ne.symm n]
 trans x y z h1 h2:=by
  unfold zDI at *
  rw[zFK] at *
  have le1:x<y∨x=y:=by
   split at h1
   ·rename_i q;exact .inl (by simpa using q)
   ·split at h1
    ·rename_i q;exact .inr (by simpa using q)
    ·omega
  have le2:y<z∨y=z:=by
   split at h2
   ·rename_i q;exact .inl (by simpa using q)
   ·split at h2
    ·rename_i q;exact .inr (by simpa using q)
    ·omega
  have le3:x<z∨x=z:=by
   rcases le1 with a|rfl
   ·rcases le2 with b|rfl
    ·exact .inl (List.lt_trans a b)
    ·exact .inl a
   ·exact le2
  rcases le3 with a|rfl
  ·simp[a]
  ·simp[List.lt_irrefl]
theorem zBz (x y:Trm):zO x y=zQK (zDI x.a y.a) (zDI x.b y.b):=by
 unfold zO zQK;simp only[orL];split
 ·split
  ·rename_i q;exact q.symm
  ·rfl
 ·rfl
theorem zCw:QC zO:=by
 have:=(zTh.key Trm.a).lex (zTh.key Trm.b);exact⟨fun x y=>by rw[zBz,zBz];exact this.anti x y,fun x y z=>by rw[zBz,zBz,zBz];exact this.trans x y z⟩
theorem zEr (x y:Trm) (h:zO x y=0):x=y:=by
 have:=zDG x y;rw[h] at this
 have:(x.a==y.a&&x.b==y.b)=true:=this.symm;cases x;cases y;simp only[Bool.and_eq_true,beq_iff_eq] at this;obtain⟨rfl,rfl⟩:=this;rfl
end Go.V
