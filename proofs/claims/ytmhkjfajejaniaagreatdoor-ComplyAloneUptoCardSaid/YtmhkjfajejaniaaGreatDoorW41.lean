/- Contracts of functions that the law reaches, part 1. No condition. -/
import Derived.Test.YtmhkjfajejaniaaGreatDoorW30
import Derived.Test.YtmhkjfajejaniaaGreatDoorW31
import Derived.Test.YtmhkjfajejaniaaGreatDoorW40
import Derived.Test.YtmhkjfajejaniaaGreatDoorW29
set_option linter.all false
namespace Go.V
open Go.Proofs
set_option maxRecDepth 100000
set_option maxHeartbeats 4000000 in
theorem zSF {c:Cat} {d x:D} (hc:qg c d) (hs:c.Sm) {fs:List Fac} (hx:zb 12 (zCz fs) x) (hl:fs.length≤1048576) (hok:∀f∈fs,f.Ok0) (g:Heap):zA Tryz.prog 9 [d,x] g fun r h'=>h'=g∧∃b,r= .bool b∧(b=true→zg2 fs):=by
 refine zA.post fun Q hQ=> ?_;have hf:Q (.bool false) g:=hQ _ _ ⟨rfl,_,rfl,fun q=>by cases q⟩;have hfin:zg2 fs→∀b,Q (.bool b) g:=fun hv b=>hQ _ _ ⟨rfl,b,rfl,fun _=>hv⟩;have hlx:=zBG hx;have hfc:=zXA hc hs hx hl hok;have hcs:=hs.cs;obtain⟨ca,cb,ce,cp,rfl,_,_,he,_⟩:=hc;have hv4:∀a b c e:D,zS true 4 [a,b,c,e] 0=some (.agg [a,b,c,e]):=fun a b c e=>zB rfl (by omega);have h47:=zHM;have l3:=zCk he;have s3:=hcs.1;have hI:=isI;clear hQ hs;refine zA.of_fn (g:=zhY) mix Tryz.func9 ok9 rfl rfl ?_;simp only[Tryz.f9,gJ]
 repeat' first|simp only[go_sem,mu9, *]|apply bc<;>intro hc
 refine(hfc _).mono ?_;rintro r h ⟨hq,b,rfl,hb⟩;subst hq;clear hfc;cases b with
 |false=>
  clear hfin hb hcs hok
  repeat' first|simp only[go_sem,mu9, *]|apply bc<;>intro hc
 |true=>
 have hF:=hb rfl;have hfin:=hfin hF;clear hf hb
 repeat' first|simp only[go_sem,mu9, *]|apply bc<;>intro hc
 refine zE (fun i fr h'=>fr 1=x∧fr 2= .iptr [ca,cb,ce,cp] 0∧fr 7= .int .i64 (i:Int)∧IsI (fr 5)∧IsI (fr 6)∧h'=h) c.cs.length (by omega) ?_ ?_ ?_
 ·simp only[go_sem,mu9,true_and,and_true,Int.ofNat_zero,isI]
 ·rintro i fr h hlt ec ew ⟨f1,f2,f7,⟨n5,f5⟩,⟨n6,f6⟩,hq⟩;subst hq;have a1:=zDP he hlt;have o1:=yr (hcs.2 _ (List.getElem_mem hlt)).1;generalize c.cs[i]=y at *
  simp only[Cla.cells] at a1;clear hfin hok hcs
  repeat' first|simp only[go_sem,mu9, *]|apply bc<;>intro hc
 rintro fr h ec ⟨f1,f2,f7,⟨n5,f5⟩,⟨n6,f6⟩,hq⟩;subst hq;clear hcs
 repeat' first|simp only[go_sem,mu9, *]|apply bc<;>intro hc
 clear f7 ec;refine zE (fun i fr h'=>fr 1=x∧fr 8= .int .i64 (i:Int)∧IsI (fr 5)∧IsI (fr 6)∧h'=h) fs.length (by omega) ?_ ?_ ?_
 ·simp only[go_sem,mu9,true_and,and_true,Int.ofNat_zero,isI,f1,f5,f6]
 ·clear f1 f2 f5 f6 n5 n6;rintro i fr h hlt ec ew ⟨f1,f8,⟨n5,f5⟩,⟨n6,f6⟩,hq⟩;subst hq;have a1:=qh hx hlt;have hm:=List.getElem_mem hlt;have hN:=zRi _ (Nat.le_refl _) (hok _ hm).e (by have:=hF.2 _ hm;omega);generalize fs[i]=f at *
  simp only[Fac.cells] at a1;simp only[Ex.cells] at hN;clear hfin hok hm hF
  repeat' first|simp only[go_sem,mu9, *]|apply bc<;>intro hc|(refine zA.mono (hN _) ?_;rintro r h ⟨hq2,rfl⟩)
 ·clear f1 f2 f5 f6 n5 n6;rintro fr h ec ⟨f1,f8,⟨n5,f5⟩,⟨n6,f6⟩,hq⟩;subst hq;clear hok hF
  repeat' first|simp only[go_sem,mu9, *]|apply bc<;>intro hc
theorem zbi {n:Nat} (hn:n≤65535):wk Tryz.prog 30 3 (.int .u16 (n:Int))=some (.int .i64 (n:Int)):=by
 simp only[wk,Tryz.underlying30,Tryz.underlying3];rw[zX (by omega) (by omega)]
theorem zXk {v:Vio} {vd:D} (hvd:zb 1 (qp v.facts) vd) (hl:v.facts.length≤1048576) {id:Nat} {h:Heap} (hr:h.at' id=some (.row [.int .i64 v.row,vd])) (i:Nat):zA Tryz.prog 26 ([]++ [.int .i64 (i:Int)]++ [.ptr id 0]) h fun r h'=>h'=h∧r= .bool (inV v i):=by
 have hc:=zEZ hvd hl (i:Int);unfold inV;refine zA.of_fn (g:=zaN) mix Tryz.func26 zli rfl rfl ?_;simp only[Tryz.f26,gJ]
 repeat' first|simp only[go_sem,zlh, *]|apply bc<;>intro hc|(refine zA.mono (hc _) ?_;rintro r h ⟨hq,rfl⟩)
theorem zf4 {l:List (List Trm)} :∀a∈l.map mkA,a.d.cells= [a.d]∧a.d.notTuple=true∧a.d.flat=true∧ym [a.d]:=fun a ha=>by
 obtain⟨t,_,rfl⟩:=List.mem_map.1 ha;exact⟨rfl,rfl,rfl,zIa t⟩
set_option maxHeartbeats 8000000 in
theorem zLm {c:Cat} {d x:D} (hc:qg c d) (hs:c.Sm) {fs:List Fac} (hx:zb 12 (zCz fs) x) (hl:fs.length≤1048576) (hok:∀f∈fs,f.Ok0) (hpl:∀f∈fs,ym f.cells) {n:Nat} (hn:n≤65535) (g:Heap):zA Tryz.prog 5 [d,x, .int .u16 (n:Int)] g fun r _=>r= .bool true:=by
 refine zA.post fun Q hQ=> ?_;have hT:∀h,Q (.bool true) h:=fun h=>hQ _ _ rfl;have haw:=zGy;have hsh:=zSF hc hs hx hl hok;have hc0:=hc;obtain⟨ca,cb,ce,cp,rfl,_,_,_,_⟩:=hc0;have hv4:∀a b c e:D,zS true 4 [a,b,c,e] 0=some (.agg [a,b,c,e]):=fun a b c e=>zB rfl (by omega);have hv2:∀a b:D,zS true 2 [a,b] 0=some (.agg [a,b]):=fun a b=>zB rfl (by omega);have hcv:=zbi hn;clear hQ;refine zA.of_fn (g:=zh6) mix Tryz.func5 ok5 rfl rfl ?_;simp only[Tryz.f5,gJ]
 repeat' first|simp only[go_sem,mu5, *]|apply bc<;>intro hc|(refine zA.mono (haw _) ?_;rintro r h ⟨rfl,hq⟩)
 refine(hsh _).mono ?_;rintro r h ⟨hq,b,rfl,hF⟩;subst hq;clear haw hsh;cases b with
 |false=>
  clear hF
  repeat' first|simp only[go_sem,mu5, *]|apply bc<;>intro hc
 |true=>
 have hF:=hF rfl;have hok1:∀f∈fs,f.Ok:=fun f hf=>(hok f hf).ok (hF.2 f hf);have hct:=za9 hc hs hx (by have:=hF.1.2;omega) hok1;unfold zNQ at hct;cases e0:(zAC c fs==0) with
 |false=>
  rw[if_neg (by rw[e0];exact Bool.false_ne_true)] at hct
  repeat' first|simp only[go_sem,mu5, *]|apply bc<;>intro hc|(refine zA.mono (hct _) ?_;rintro r h ⟨hq,rfl⟩)
 |true=>
 rw[if_pos e0] at hct;cases m0:((zLZ c fs:Int)==0) with
 |true=>
  repeat' first|simp only[go_sem,mu5, *]|apply bc<;>intro hc|(refine zA.mono (hct _) ?_;rintro r h ⟨hq,rfl⟩)
 |false=>
 have hrem:=zbc (n:=n) m0;have hk:=zVV e0 m0 n;have hnt:=zjN hc hs hx (by have:=hF.1.2;omega) hok1 ((n%zLZ c fs:Nat):Int);rw[hk] at hnt;obtain⟨k,hkk⟩:∃k,n%zLZ c fs=k:=⟨_,rfl⟩;rw[hkk] at hk hnt hrem
 repeat' first|simp only[go_sem,mu5, *]|apply bc<;>intro hc|(refine zA.mono (hct _) ?_;rintro r h ⟨hq,rfl⟩)
 subst hq;clear hct;have hle:∀h,HLe Heap.emp h:=fun h i ob e=>by cases e
 refine z7 Heap.emp [(0, .st,true),(1, .no,true),(2, .no,true),(3, .no,true),(4, .no,true),(5, .no,true),(6, .st,true),(7, .no,true),(8, .no,true),(9, .no,true),(10, .no,true),(11, .no,true),(12, .no,true)] (by kernel_rfl) (by kernel_rfl) (hle _) ?_
 repeat' first|simp only[go_sem,mu5, *]|apply bc<;>intro hc
 obtain⟨td,htd⟩:∃td,nd 1 (yM ((zXO c fs ((k:Nat):Int).toNat).map mkA))=td:=⟨_,rfl⟩;obtain⟨od,hod⟩:∃od,nd 1 (yK (zXP c fs ((k:Nat):Int).toNat))=od:=⟨_,rfl⟩;have F1:zb 1 (yM ((zXO c fs ((k:Nat):Int).toNat).map mkA)) td:=by rw[←htd];exact zVW
 have F2:zb 1 (yK (zXP c fs ((k:Nat):Int).toNat)) od:=by rw[←hod];exact zVW
 refine zab (.tuple [.agg [td,od], .int .i64 0]) (fun H=>(hnt H).mono fun r h2 hr=>by
  obtain⟨hq,td',od',rfl,hok2,_⟩:=hr;obtain⟨G1,G2⟩:=hok2 rfl;exact⟨hq,by rw[G1.det,G2.det,htd,hod]⟩) ?_
 have I:=zbe hc hs hx hF hok1 hk F1 F2;have e1:=zR9 hk;have hvo:=(zY3 hk).1;obtain⟨y,hy⟩:∃y,zHP c fs ((k:Nat):Int).toNat=y:=⟨_,rfl⟩;have htp:∀a∈(zHP c fs ((k:Nat):Int).toNat).ts,a.d.cells= [a.d]∧a.d.notTuple=true∧a.d.flat=true∧ym [a.d]:=zf4;have F1:zb 1 (yM (zHP c fs ((k:Nat):Int).toNat).ts) td:=F1;have F2:zb 1 (yK (zHP c fs ((k:Nat):Int).toNat).own) od:=F2;rw[hy] at I e1 htp F1 F2;have W:=zNj.1 e1;have h16:=I.n16 e1;have e2:=zGm e1
 have hst:zV Tryz.prog 42 (.ptr h.next 0) (.agg [td,od]) (h.new h.next (.row [.nilsl, .nilsl]))=some (h.new h.next (.row [td,od])):=zg zJn (by omega) rfl rfl (by show(td.flat&&(od.flat&&true))=true;rw[(zN F1).2.2,(zN F2).2.2];rfl);obtain⟨G,hG,hGr,hGn⟩:∃G,h.new h.next (.row [td,od])=G∧G.at' h.next=some (.row [td,od])∧h.next<G.next:=⟨_,rfl,zM _ _ _,by rw[zF];omega⟩;rw[hG] at hst;have hvi:=zIt I;have hva:=zLV hc hs hx hl hok1;rw[hvo,zVX hvo] at hva;generalize h.next=n1 at *
 clear htd hod hnt hy hk hrem hkk hG e0 m0;have hve:zIs c fs y=if decide (((zY1 c fs y).length:Int)>1024)=true then 10 else 0:=by unfold zIs;rw[e2];rfl
 repeat' first|simp only[go_sem,mu5, *]|apply bc<;>intro hc
 refine(hva _).mono ?_;rintro r h ⟨hq,tsd,osd,rfl,_,ho⟩;subst hq;clear hva;cases v1:decide (((zY1 c fs y).length:Int)>1024) with
 |true=>
  rw[v1,if_pos rfl] at hve;rw[hve] at hvi
  repeat' first|simp only[go_sem,mu5, *]|apply bc<;>intro hc
  refine(hvi _).mono ?_;rintro r h2 ⟨hq,l,rfl,_,hl2⟩;have hl3:=hl2 (by decide);subst hl3 hq;clear hl2
  repeat' first|simp only[go_sem,mu5, *]|apply bc<;>intro hc
 |false=>
 rw[v1,if_neg (by simp)] at hve;rw[hve] at hvi;have hn1:(zCw c fs y).length≤1024:=by have:=of_decide_eq_false v1;rw[zIu,zGI] at this;omega
 clear hve v1;have hwz:IntKind.i64.wrap ((0:Int)+0)=0:=rfl
 repeat' first|simp only[go_sem,mu5, *]|apply bc<;>intro hc
 refine(hvi _).mono ?_;rintro r h ⟨hq,l,rfl,hl2,_⟩;subst hq;have hls:=(hl2 rfl).isSl;rw[zIu] at hls;have hll:=zVN hls;obtain⟨L,hLL⟩:∃L,zCw c fs y=L:=⟨_,rfl⟩;have hal:∀w∈L,(zJ fs (Ik (inV w) fs.length)).length=w.facts.length∧zEN c (zJ fs (Ik (inV w) fs.length)) (zFh y fs (Ik (inV w) fs.length)) ⟨w.row,zSE (zJ fs (Ik (inV w) fs.length)).length⟩ =0:=by subst hLL;exact fun w hw=>zXj W hw
 have hvis:∀w∈L,w.Is w.cells:=by subst hLL;exact zQv
 rw[hLL] at hls hll hn1;have PI:PIn fs y x td od osd:=⟨hx,by omega,hok1,hpl,F1,F2,ho.isSl,W.tl,W.ol,htp⟩;have ysm:=I.ysm;clear hl2 hvi hF e1 e2 hst hLL htp F1 F2 hpl
 repeat' first|simp only[go_sem,mu5, *]|apply bc<;>intro hc
 refine zE (fun i fr h=>fr 1=x∧fr 3= .iptr [ca,cb,ce,cp] 0∧fr 9= .ptr n1 0∧fr 11=osd∧fr 71=l∧fr 72= .int .i64 (L.length:Int)∧fr 73= .int .i64 (i:Int)∧h.at' n1=some (.row [td,od])∧n1<h.next) L.length (by omega) ?_ ?_ ?_
 ·simp only[go_sem,mu5,true_and,and_true,Int.ofNat_zero,hGr,hGn]
 ·clear hGr hGn;rintro i fr h hlt ec ew ⟨f1,f3,f9,f11,f71,f72,f73,hr1,hn3⟩;have a1:=zY2 hls hlt;have hmw:=List.getElem_mem hlt;have hfc:(L[i]).cells= [.int .i64 (L[i]).row, .sl 1 (qp (L[i]).facts) .no]:=rfl;rw[hfc] at a1;obtain⟨k1,k2⟩:=hal _ hmw;have hwl:(L[i]).facts.length≤1048576:=by obtain⟨_,_,_,q⟩:=hvis _ hmw;exact q
  generalize L[i]=w at *
  have hst3:zV Tryz.prog 33 (.ptr h.next 0) (.agg [.int .i64 w.row, .sl 1 (qp w.facts) .no]) (h.new h.next (.row [.int .i64 0, .nilsl]))=some (h.new h.next (.row [.int .i64 w.row, .sl 1 (qp w.facts) .no])):=zg zBt (by omega) rfl rfl rfl;obtain⟨G3,hG3,q1,q2,hn4⟩:∃G3,h.new h.next (.row [.int .i64 w.row, .sl 1 (qp w.facts) .no])=G3∧G3.at' n1=some (.row [td,od])∧G3.at' h.next=some (.row [.int .i64 w.row, .sl 1 (qp w.facts) .no])∧h.next<G3.next:=⟨_,rfl,by rw[zD (by omega)];exact hr1,zM _ _ _,by rw[zF];omega⟩;obtain⟨n2,hn2⟩:∃n,h.next=n:=⟨_,rfl⟩;rw[hn2] at hst3 hG3 q2 hn4 hn3;rw[hG3] at hst3
  have hpa:=zf3 PI (f:=26) (cap:=[.ptr n2 0]) (K:=inV w) (g:=G3) fun j hj h' hE=>zXk (v:=w) (zb.mk .no) hwl (by rw[hE.2 n2 hn4];exact q2) j;have hwlen:=zAO (l:=w.facts) (zb.mk .no);have hfi:=fun {sd zt zw:D} (h1:Fin 12 (zCz (zJ fs (Ik (inV w) fs.length))) sd) (h2:Fin 1 (yM (qJ y fs (Ik (inV w) fs.length))) zt) (h3:Fin 1 (yK (zG2 y (za fs []) (za (zJ fs (Ik (inV w) fs.length)) []))) zw)=>zXi (K:=inV w) hc hs h16 hok1 W ysm h1.isSl h2.isSl h3.isSl;clear hG3 hal hvis hmw
  repeat' first|simp only[go_sem,mu5, *]|apply bc<;>intro hc
  refine hpa.mono ?_;rintro r h5 ⟨hq,sd,zt,zw,rfl,p1,p2,p3⟩;subst hq;have CI:=hfi p1 p2 p3;have hst4:zV Tryz.prog 42 (.ptr h5.next 0) (.agg [zt,zw]) (h5.new h5.next (.row [.nilsl, .nilsl]))=some (h5.new h5.next (.row [zt,zw])):=zg zJn (by omega) rfl rfl (by show(zt.flat&&(zw.flat&&true))=true;rw[(zN p2.isSl).2.2,(zN p3.isSl).2.2];rfl)
  obtain⟨G5,hG5,s1,s2,s3,hn5⟩:∃G5,h5.new h5.next (.row [zt,zw])=G5∧G5.at' n1=some (.row [td,od])∧G5.at' n2=some (.row [.int .i64 w.row, .sl 1 (qp w.facts) .no])∧G5.at' h5.next=some (.row [zt,zw])∧h5.next<G5.next:=⟨_,rfl,by rw[zD (by omega)];exact q1,by rw[zD (by omega)];exact q2,zM _ _ _,by rw[zF];omega⟩;rw[hG5] at hst4;obtain⟨n3,hn33⟩:∃n,h5.next=n:=⟨_,rfl⟩;rw[hn33] at hst4 hG5 s3 hn5 hn4;have lsd:=zBG p1.isSl;generalize hm:zJ fs (Ik (inV w) fs.length)=gs at *
  have hmb:gs.length≤65536:=by rw[←hm];have:=(zg4 (fs:=fs) (y:=y) (K:=inV w) (Nat.le_refl fs.length)).1;omega
  have k1':gs.length≤w.facts.length∧w.facts.length≤gs.length:=by omega
  clear hG5 hpa hfi p1 p2 p3 hm k1
  repeat' first|simp only[go_sem,mu5, *]|apply bc<;>intro hc
  refine zE (fun k fr h=>fr 1=x∧fr 3= .iptr [ca,cb,ce,cp] 0∧fr 9= .ptr n1 0∧fr 11=osd∧fr 71=l∧fr 72= .int .i64 (L.length:Int)∧fr 73= .int .i64 (i:Int)∧fr 16= .ptr n2 0∧fr 17=sd∧fr 18= .ptr n3 0∧fr 86= .int .i64 (gs.length:Int)∧fr 87= .int .i64 (k:Int)∧Own G5 h 1 (qp (zSE k)) (fr 19)) gs.length (by omega) ?_ ?_ ?_
  ·simp only[go_sem,mu5,true_and,and_true,Int.ofNat_zero,f1,f3,f9,f11,f71,f72,f73];exact Own.start (Ext.refl G5) 1
  ·clear s1 s2 s3 f1 f3 f9 f11 f71 f72 f73;rintro k fr h6 hlt2 ec2 ew2 ⟨f1,f3,f9,f11,f71,f72,f73,f16,f17,f18,f86,f87,ho6⟩;obtain⟨ad,f19⟩:∃d,fr 19=d:=⟨_,rfl⟩;rw[f19] at ho6;have hone:∀nid h,zK Tryz.prog false nid 31 1 [(0, .int .i64 (k:Int))] h=some (.sl 1 [[.int .i64 (k:Int)]] .full,h):=fun nid h=>yQ (x:= .int .i64 (k:Int)) yH zAK wI rfl rfl (by omega) (by omega) rfl rfl;have hkl:(qp (zSE k)).length=k:=by rw[yg,zQ0]
   have hks:qp (zSE (k+1))=qp (zSE k)++ [[.int .i64 (k:Int)]]:=by rw[zVY];simp[qp]
   clear CI k2
   repeat' first|simp only[go_sem,mu5, *]|apply bc<;>intro hc
   refine ho6.appH yH zPc wI (by omega) (by simp) (by simp) (by rw[hkl,zFA];unfold lim;simp only[List.length_cons,List.length_nil];omega) (by rw[hkl];unfold lim;simp only[List.length_cons,List.length_nil];omega) fun d' h7 ho7=> ?_;rw[←hks] at ho7;clear ho6 hks hkl
   repeat' first|simp only[go_sem,mu5, *]|apply bc<;>intro hc
  ·clear f1 f3 f9 f11 f71 f72 f73;rintro fr h6 ec2 ⟨f1,f3,f9,f11,f71,f72,f73,f16,f17,f18,f86,f87,ho6⟩;obtain⟨ad,f19⟩:∃d,fr 19=d:=⟨_,rfl⟩;rw[f19] at ho6;have t1:h6.at' n1=some (.row [td,od]):=by rw[ho6.1.2 n1 (by omega)];exact s1
   have t2:h6.at' n2=some (.row [.int .i64 w.row, .sl 1 (qp w.facts) .no]):=by rw[ho6.1.2 n2 (by omega)];exact s2
   have t3:h6.at' n3=some (.row [zt,zw]):=by rw[ho6.1.2 n3 hn5];exact s3
   have t4:n1<h6.next:=by have:=ho6.1.1;omega
   have hfv:(⟨w.row,zSE gs.length⟩:Vio).Is [.int .i64 w.row,ad]:=⟨ad,rfl,ho6.isSl,by show(zSE gs.length).length≤1048576;rw[zQ0];omega⟩;have hck:=zR7 CI hfv;rw[k2] at hck;obtain⟨u1,u2,u3⟩:=ho6.flat;have hvb:yN Tryz.prog 33 [(0, .int .i64 w.row),(1,ad)]=some (.agg [.int .i64 w.row,ad]):=by simp[yN,zJk,zHD,qi,yc,u2,u3,zUG,zMi,zUF,zMh]
   have hnq:((gs.length:Int)==(w.facts.length:Int))=true:=by rw[beq_iff_eq];omega
   clear CI hfv ho6 k2 s1 s2 s3
   repeat' first|simp only[go_sem,mu5, *]|apply bc<;>intro hc|(refine zA.mono (hck _) ?_;rintro r h ⟨hq,rfl⟩)
 ·rintro fr h ec ⟨f1,f3,f9,f11,f71,f72,f73,hr1,hn3⟩
  repeat' first|simp only[go_sem,mu5, *]|apply bc<;>intro hc
end Go.V
