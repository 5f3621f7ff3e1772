/- Contracts of functions that the law reaches, part 1. No condition. -/
import Derived.Test.YtmhkjfajejaniaaGreatDoorW30
import Derived.Test.YtmhkjfajejaniaaGreatDoorW31
import Derived.Test.YtmhkjfajejaniaaGreatDoorW40
import Derived.Test.YtmhkjfajejaniaaGreatDoorW29
set_option linter.all false
namespace Go.V
open Go.Proofs
set_option maxRecDepth 100000
set_option maxHeartbeats 4000000 in
theorem zRw {c:Cat} {d x:D} (hc:qg c d) (hs:c.Sm) {fs:List Fac} (hx:za 12 (zCz fs) x) (hl:fs.length≤1048576) (hok:∀f∈fs,f.Ok0) (g:Heap):zA Tryz.prog 9 [d,x] g fun r h'=>h'=g∧∃b,r= .bool b∧(b=true→zgj fs):=by
 refine zA.post fun Q hQ=> ?_;have hf:Q (.bool false) g:=hQ _ _ ⟨rfl,_,rfl,fun q=>by cases q⟩;have hfin:zgj fs→∀b,Q (.bool b) g:=fun hv b=>hQ _ _ ⟨rfl,b,rfl,fun _=>hv⟩;have hlx:=zAq hx;have hfc:=zWp hc hs hx hl hok;have hcs:=hs.cs;obtain⟨ca,cb,ce,cp,rfl,_,_,he,_⟩:=hc;have hv4:∀a b c e:D,zS true 4 [a,b,c,e] 0=some (.agg [a,b,c,e]):=fun a b c e=>zB rfl (by omega);have h47:=zHI;have l3:=zCm he;have s3:=hcs.1;have hI:=isI;clear hQ hs;refine zA.of_fn (g:=zhG) mix Tryz.func9 ok9 rfl rfl ?_;simp only[Tryz.f9,gJ]
 repeat' first|simp only[go_sem,mu9, *]|apply bc<;>intro hc
 refine(hfc _).mono ?_;rintro r h ⟨hq,b,rfl,hb⟩;subst hq;clear hfc;cases b with
 |false=>
  clear hfin hb hcs hok
  repeat' first|simp only[go_sem,mu9, *]|apply bc<;>intro hc
 |true=>
 have hF:=hb rfl;have hfin:=hfin hF;clear hf hb
 repeat' first|simp only[go_sem,mu9, *]|apply bc<;>intro hc
 refine zH (fun i fr h'=>fr 1=x∧fr 2= .iptr [ca,cb,ce,cp] 0∧fr 7= .int .i64 (i:Int)∧IsI (fr 5)∧IsI (fr 6)∧h'=h) c.cs.length (by omega) ?_ ?_ ?_
 ·simp only[go_sem,mu9,true_and,and_true,Int.ofNat_zero,isI]
 ·rintro i fr h hlt ec ew ⟨f1,f2,f7,⟨n5,f5⟩,⟨n6,f6⟩,hq⟩;subst hq;have a1:=zDP he hlt;have o1:=yV (hcs.2 _ (List.getElem_mem hlt)).1;generalize c.cs[i]=y at *
  simp only[Cla.cells] at a1;clear hfin hok hcs
  repeat' first|simp only[go_sem,mu9, *]|apply bc<;>intro hc
 rintro fr h ec ⟨f1,f2,f7,⟨n5,f5⟩,⟨n6,f6⟩,hq⟩;subst hq;clear hcs
 repeat' first|simp only[go_sem,mu9, *]|apply bc<;>intro hc
 clear f7 ec;refine zH (fun i fr h'=>fr 1=x∧fr 8= .int .i64 (i:Int)∧IsI (fr 5)∧IsI (fr 6)∧h'=h) fs.length (by omega) ?_ ?_ ?_
 ·simp only[go_sem,mu9,true_and,and_true,Int.ofNat_zero,isI,f1,f5,f6]
 ·clear f1 f2 f5 f6 n5 n6;rintro i fr h hlt ec ew ⟨f1,f8,⟨n5,f5⟩,⟨n6,f6⟩,hq⟩;subst hq;have a1:=qh hx hlt;have hm:=List.getElem_mem hlt;have hN:=zRT _ (Nat.le_refl _) (hok _ hm).e (by have:=hF.2 _ hm;omega);generalize fs[i]=f at *
  simp only[Fac.cells] at a1;simp only[Ex.cells] at hN;clear hfin hok hm hF
  repeat' first|simp only[go_sem,mu9, *]|apply bc<;>intro hc|(refine zA.mono (hN _) ?_;rintro r h ⟨hq2,rfl⟩)
 ·clear f1 f2 f5 f6 n5 n6;rintro fr h ec ⟨f1,f8,⟨n5,f5⟩,⟨n6,f6⟩,hq⟩;subst hq;clear hok hF
  repeat' first|simp only[go_sem,mu9, *]|apply bc<;>intro hc
theorem zbK {n:Nat} (hn:n≤65535):wp Tryz.prog 30 3 (.int .u16 (n:Int))=some (.int .i64 (n:Int)):=by
 simp only[wp,Tryz.underlying30,Tryz.underlying3];rw[zZ (by omega) (by omega)]
theorem zfl {l:List (List Trm)} :∀a∈l.map mkA,a.d.cells= [a.d]∧a.d.notTuple=true∧a.d.flat=true∧yS [a.d]:=fun a ha=>by
 obtain⟨t,_,rfl⟩:=List.mem_map.1 ha;exact⟨rfl,rfl,rfl,zIY t⟩
def kB (kp:Int) (i:Nat):Bool:=IntKind.u16.wrap (BitVec.ofInt IntKind.u16.bits (kp.fdiv (2^ (min ((i:Int)).toNat IntKind.u16.bits))) &&& BitVec.ofInt IntKind.u16.bits 1).toNat==1
theorem zbL (kp:Int) (i:Nat) (g:Heap):zA Tryz.prog 28 ([]++ [.int .i64 (i:Int)]++ [.iptr [.int .u16 kp] 0]) g fun r h'=>h'=g∧r= .bool (kB kp i):=by
 have h1:wZ .shr .u16 .i64 kp (i:Int)=some (.int .u16 (kp.fdiv (2^ (min ((i:Int)).toNat IntKind.u16.bits)))):=by
  simp only[wZ,zJG];rw[if_neg (by omega)]
 obtain⟨a,ha⟩:∃a,kp.fdiv (2^ (min ((i:Int)).toNat IntKind.u16.bits))=a:=⟨_,rfl⟩;rw[ha] at h1;have h2:wZ .and .u16 .u16 a 1=some (.int .u16 (IntKind.u16.wrap (BitVec.ofInt IntKind.u16.bits a &&& BitVec.ofInt IntKind.u16.bits 1).toNat)):=by simp only[wZ,zLn,if_true]
 have h3:(IntKind.u16.wrap (BitVec.ofInt IntKind.u16.bits a &&& BitVec.ofInt IntKind.u16.bits 1).toNat==1)=kB kp i:=by unfold kB;rw[ha]
 generalize IntKind.u16.wrap (BitVec.ofInt IntKind.u16.bits a &&& BitVec.ofInt IntKind.u16.bits 1).toNat=b at *
 clear ha;refine zA.of_fn (g:=zZi) mix Tryz.func28 zku rfl rfl ?_;simp only[Tryz.f28,gJ]
 repeat' first|simp only[go_sem,zkt, *]|apply bc<;>intro hc
theorem zbM {W:List (List UInt8)} {i:Nat} (h:i<W.length):((W.take i++List.replicate (W.length-i) []).map D.str).set i (.str W[i])=(W.take (i+1)++List.replicate (W.length- (i+1)) []).map D.str:=by
 have e:W.length-i=(W.length- (i+1))+1:=by omega
 have hl:((W.take i).map D.str).length=i:=by rw[List.length_map,List.length_take];omega
 rw[e,List.replicate_succ,List.map_append,List.map_cons,List.set_append_right _ _ (by omega),hl,Nat.sub_self,List.set_cons_zero,List.take_succ_eq_append_getElem h,List.append_assoc,List.map_append];rfl
def TpA (y:Cho):Prop:=∀a∈y.ts,a.d.cells= [a.d]∧a.d.notTuple=true∧a.d.flat=true∧yS [a.d]
theorem zRx (l:List (List UInt8)):(yI l).flatten=l.map D.str:=by
 induction l with
 |nil=>rfl
 |cons a l ih=>show [D.str a]++(yI l).flatten=_;rw[ih];rfl
theorem zbN {h:Heap} {n1:Nat} {o1 o:Obj} (hr:h.at' n1=some o1) (hn:n1<h.next):∃G,h.new h.next o=G∧G.at' n1=some o1∧G.at' h.next=some o∧h.next<G.next:=⟨_,rfl,by rw[zD (Nat.ne_of_lt hn)];exact hr,zJ _ _ _,by rw[zF];omega⟩
theorem zNd {sz:Nat} {xs:List (List D)} {d:D} (hp:∀x∈xs,yS x) (h:Fin sz xs d):below 0 d:=by
 rcases h with⟨rfl,_⟩ |rfl
 ·trivial
 ·exact(yh hp .no).2
theorem zVG {c:Cat} {fs:List Fac} {y:Cho} {p:Bool} (h:yO c fs y p=0):(zG c fs).2.2=0:=by
 unfold yO at h;split at h
 ·rename_i q;rw[h] at q;exact absurd q (by decide)
 ·rename_i q1;simpa using q1
theorem zRy {fs:List Fac} (h:∀f∈fs,yS f.cells):∀c∈zCz fs,yS c:=fun c hc=>by
 obtain⟨a,ha,rfl⟩:=List.mem_map.1 hc;exact h a ha
theorem zO3 {c:Cat} {fs:List Fac} {y:Cho} (W:Whole c fs y) (K:Nat→Bool) (tp:∀a∈y.ts,yS [a.d]):∀x∈yK (qK y fs (Ik K fs.length)),yS x:=fun x hx=>by
 obtain⟨a,ha,rfl⟩:=List.mem_map.1 hx;obtain⟨k,hk,rfl⟩:=List.mem_map.1 ha;obtain⟨hk1,hk2⟩:=List.mem_filter.1 hk;exact tp _ (zYg W ((zVC (K:=K) (fs:=fs) (Nat.le_refl _)).lt k hk1) (by simpa using hk2))
set_option maxHeartbeats 8000000 in
theorem zGx {c:Cat} {d x:D} (hc:qg c d) (hs:c.Sm) (hcl:below 0 d) {fs:List Fac} (hx:za 12 (zCz fs) x) (hl:fs.length≤1048576) (hok:∀f∈fs,f.Ok0) (hpl:∀f∈fs,yS f.cells) {n:Nat} (hn:n≤65535) (kp:Int) (g:Heap):zA Tryz.prog 6 [d,x, .int .u16 (n:Int), .int .u16 kp] g fun r _=>r= .bool true:=by
 refine zA.post fun Q hQ=> ?_;have hT:∀h,Q (.bool true) h:=fun h=>hQ _ _ rfl;have haw:=zGt;have hsh:=zRw hc hs hx hl hok;have hc0:=hc;have hlx:=zAq hx;obtain⟨ca,cb,ce,cp,rfl,_,_,_,_⟩:=hc0;have hv4:∀a b c e:D,zS true 4 [a,b,c,e] 0=some (.agg [a,b,c,e]):=fun a b c e=>zB rfl (by omega);have hv2:∀a b:D,zS true 2 [a,b] 0=some (.agg [a,b]):=fun a b=>zB rfl (by omega);have hcv:=zbK hn;clear hQ;refine zA.of_fn (g:=zh2) mix Tryz.func6 ok6 rfl rfl ?_;simp only[Tryz.f6,gJ]
 repeat' first|simp only[go_sem,mu6, *]|apply bc<;>intro hc|(refine zA.mono (haw _) ?_;rintro r h ⟨rfl,hq⟩)
 refine(hsh _).mono ?_;rintro r h ⟨hq,b,rfl,hF⟩;subst hq;clear haw hsh;cases b with
 |false=>
  clear hF
  repeat' first|simp only[go_sem,mu6, *]|apply bc<;>intro hc
 |true=>
 have hF:=hF rfl;have hok1:∀f∈fs,f.Ok:=fun f hf=>(hok f hf).ok (hF.2 f hf);cases l16:decide ((fs.length:Int)>16) with
 |true=>
  repeat' first|simp only[go_sem,mu6, *]|apply bc<;>intro hc
 |false=>
 have hct:=zam hc hs hx (by have:=hF.1.2;omega) hok1;unfold zNJ at hct;cases e0:(zAG c fs==0) with
 |false=>
  rw[if_neg (by rw[e0];exact Bool.false_ne_true)] at hct
  repeat' first|simp only[go_sem,mu6, *]|apply bc<;>intro hc|(refine zA.mono (hct _) ?_;rintro r h ⟨hq,rfl⟩)
 |true=>
 rw[if_pos e0] at hct;cases m0:((zLa c fs:Int)==0) with
 |true=>
  repeat' first|simp only[go_sem,mu6, *]|apply bc<;>intro hc|(refine zA.mono (hct _) ?_;rintro r h ⟨hq,rfl⟩)
 |false=>
 have hrem:=zbF (n:=n) m0;have hk:=zVE e0 m0 n;have hnt:=zi5 hc hs hx (by have:=hF.1.2;omega) hok1 ((n%zLa c fs:Nat):Int);rw[hk] at hnt;obtain⟨k,hkk⟩:∃k,n%zLa c fs=k:=⟨_,rfl⟩;rw[hkk] at hk hnt hrem
 repeat' first|simp only[go_sem,mu6, *]|apply bc<;>intro hc|(refine zA.mono (hct _) ?_;rintro r h ⟨hq,rfl⟩)
 subst hq;clear hct;have hle:∀h,HLe Heap.emp h:=fun h i ob e=>by cases e
 refine zCg (fun fr h=>∃td od n1 y,fr 1=x∧fr 4= .iptr [ca,cb,ce,cp] 0∧fr 7= .iptr [.int .u16 kp] 0∧fr 10= .int .i64 0∧fr 11= .ptr n1 0∧h.at' n1=some (.row [td,od])∧n1<h.next∧CIn c fs y (.agg [ca,cb,ce,cp]) x (.agg [td,od])∧yO c fs y false=0∧(zG c fs).2.2=0∧za 1 (yK y.ts) td∧za 1 (yI y.own) od∧TpA y) ?_ ?_
 ·refine z8 Heap.emp [(0, .st,true),(1, .no,true),(2, .no,true),(3, .no,true),(4, .no,true),(5, .no,true),(6, .st,true),(7, .no,true),(8, .no,true),(9, .no,true),(10, .no,true),(11, .no,true),(12, .no,true)] (by kernel_rfl) (by kernel_rfl) (hle _) ?_
  repeat' first|simp only[go_sem,mu6, *]|apply bc<;>intro hc
  obtain⟨td,htd⟩:∃td,nd 1 (yK ((zW3 c fs ((k:Nat):Int).toNat).map mkA))=td:=⟨_,rfl⟩;obtain⟨od,hod⟩:∃od,nd 1 (yI (zW4 c fs ((k:Nat):Int).toNat))=od:=⟨_,rfl⟩;have F1:za 1 (yK ((zW3 c fs ((k:Nat):Int).toNat).map mkA)) td:=by rw[←htd];exact zVF
  have F2:za 1 (yI (zW4 c fs ((k:Nat):Int).toNat)) od:=by rw[←hod];exact zVF
  refine zaD (.tuple [.agg [td,od], .int .i64 0]) (fun H=>(hnt H).mono fun r h2 hr=>by
   obtain⟨hq,td',od',rfl,hok2,_⟩:=hr;obtain⟨G1,G2⟩:=hok2 rfl;exact⟨hq,by rw[G1.det,G2.det,htd,hod]⟩) ?_
  have I:=zbH hc hs hx hF hok1 hk F1 F2;have e1:=zRs hk;have hvo:=(zYd hk).1;obtain⟨y,hy⟩:∃y,zHM c fs ((k:Nat):Int).toNat=y:=⟨_,rfl⟩;have htp:∀a∈(zHM c fs ((k:Nat):Int).toNat).ts,a.d.cells= [a.d]∧a.d.notTuple=true∧a.d.flat=true∧yS [a.d]:=zfl;have F1:za 1 (yK (zHM c fs ((k:Nat):Int).toNat).ts) td:=F1;have F2:za 1 (yI (zHM c fs ((k:Nat):Int).toNat).own) od:=F2;rw[hy] at I e1 htp F1 F2;have W:=zIq.1 e1;have h16:=I.n16 e1
  have hst:zW Tryz.prog 42 (.ptr h.next 0) (.agg [td,od]) (h.new h.next (.row [.nilsl, .nilsl]))=some (h.new h.next (.row [td,od])):=zh zJl (by omega) rfl rfl (by show(td.flat&&(od.flat&&true))=true;rw[(zN F1).2.2,(zN F2).2.2];rfl);obtain⟨G,hG,hGr,hGn⟩:∃G,h.new h.next (.row [td,od])=G∧G.at' h.next=some (.row [td,od])∧h.next<G.next:=⟨_,rfl,zJ _ _ _,by rw[zF];omega⟩;rw[hG] at hst;generalize h.next=n1 at *
  have hfin:∃td od n1_1 y,D.ptr n1 0=D.ptr n1_1 0∧G.at' n1_1=some (.row [td,od])∧n1_1<G.next∧CIn c fs y (.agg [ca,cb,ce,cp]) x (.agg [td,od])∧yO c fs y false=0∧(zG c fs).2.2=0∧za 1 (yK y.ts) td∧za 1 (yI y.own) od∧TpA y:=⟨td,od,n1,y,rfl,hGr,hGn,I,e1,hvo,F1,F2,htp⟩;clear htd hod hnt hy hk hrem hkk hG e0 m0 hc hs hcl I e1 hvo F1 F2 htp hGr hGn W
  repeat' first|simp only[go_sem,mu6, *]|apply bc<;>intro hc
 rintro fr h ⟨td,od,n1,y,f1,f4,f7,f10,f11,hGr,hGn,I,e1,hvo,F1,F2,htp⟩;clear hnt hk hrem hkk e0 m0;have W:=zIq.1 e1;have h16:=I.n16 e1;have hco:=zFc I;unfold zGh at hco;rw[e1] at hco;simp only[beq_self_eq_true,Bool.not_true,Bool.false_eq_true,if_false] at hco;rw[zNY] at hco;have hva:=zHK hc hs hx hl hok1;rw[hvo,zNc hvo] at hva;have hwz:IntKind.i64.wrap ((0:Int)+0)=0:=rfl
 repeat' first|simp only[go_sem,mu6, *]|apply bc<;>intro hc
 refine(hva _).mono ?_;rintro r h ⟨hq,tsd,osd,rfl,_,ho⟩;subst hq;clear hva;cases hX:(vcs (zJF c fs y)).head?.isSome with
 |true=>
  rw[hX] at hco
  repeat' first|simp only[go_sem,mu6, *]|apply bc<;>intro hc|(refine zA.mono (hco _) ?_;rintro r h ⟨hq,rfl⟩)
 |false=>
 rw[hX] at hco;have hnil:zJF c fs y= []:=by
  cases q:zJF c fs y with
  |nil=>rfl
  |cons v r=>rw[q] at hX;cases hX
 have PI:PIn fs y x td od osd:=⟨hx,by omega,hok1,hpl,F1,F2,ho.isSl,W.tl,W.ol,htp⟩;have ysm:=I.ysm;have hpa:=fun g=>zfk PI (f:=28) (cap:=[.iptr [.int .u16 kp] 0]) (K:=kB kp) (g:=g) fun j hj h' hE=>zbL kp j h';clear hX hF l16
 repeat' first|simp only[go_sem,mu6, *]|apply bc<;>intro hc|(refine zA.mono (hco _) ?_;rintro r h ⟨hq,rfl⟩)
 subst hq;refine(hpa _).mono ?_;rintro r h5 ⟨hq,sd,zt,zw,rfl,p1,p2,p3⟩;subst hq;have H:=zVC (fs:=fs) (K:=kB kp) (Nat.le_refl _);have PW:=zRv W H (by have:=zYe (K:=kB kp) (i:=fs.length);have:=W.len;omega);have PC:=zLm W H hnil;have e2:=zIq.2 PW;have hlg:=(zgl (fs:=fs) (y:=y) (K:=kB kp) (Nat.le_refl fs.length));have hok2:∀f∈zK fs (Ik (kB kp) fs.length),f.Ok:=fun f hf=>hok1 f (zAn hf);have hv2':(zG c (zK fs (Ik (kB kp) fs.length))).2.2=0:=zVG e2;have hva:=zHK hc hs p1.isSl (by omega) hok2;rw[hv2',zNc hv2'] at hva
 have CI:=fun {zz:D} (h3:za 1 (yI (zD5 y (zU fs []) (zU (zK fs (Ik (kB kp) fs.length)) []))) zz)=>zXL (K:=kB kp) hc hs h16 hok1 W ysm p1.isSl p2.isSl h3;have lzw:=yV p3.isSl;have hll:(zD5 y (zU fs []) (zU (zK fs (Ik (kB kp) fs.length)) [])).length=(zU (zK fs (Ik (kB kp) fs.length)) []).length:=by unfold zD5;rw[List.length_map]
 rw[hll] at lzw;have hmem:∀o∈zU (zK fs (Ik (kB kp) fs.length)) [],o∈zU fs []:=fun o ho=>zIs ho;have hco2:∀ {zz:D},za 1 (yI (zD5 y (zU fs []) (zU (zK fs (Ik (kB kp) fs.length)) []))) zz→∀g,zA Tryz.prog 14 [.agg [ca,cb,ce,cp],sd, .agg [zt,zz]] g fun r h'=>h'=g∧r= .tuple [.bool true, .int .i64 0]:=fun h3 g=>by
  have:=zFc (CI h3) g;unfold zGh at this;rw[show yO c (zK fs (Ik (kB kp) fs.length)) (zIr y fs (Ik (kB kp) fs.length)) false=0 from e2] at this
  simp only[beq_self_eq_true,Bool.not_true,Bool.false_eq_true,if_false] at this;rw[zNY,PC] at this;exact this
 have hst4:zW Tryz.prog 42 (.ptr h5.next 0) (.agg [zt,zw]) (h5.new h5.next (.row [.nilsl, .nilsl]))=some (h5.new h5.next (.row [zt,zw])):=zh zJl (by omega) rfl rfl (by show(zt.flat&&(zw.flat&&true))=true;rw[(zN p2.isSl).2.2,(zN p3.isSl).2.2];rfl);have hG:= @zbN h5 n1 _ (.row [zt,zw]) hGr hGn;obtain⟨G5,hG⟩:=hG;have hG5:=hG.1;have s1:=hG.2.1;have s2:=hG.2.2.1;have hn5:=hG.2.2.2;clear hG;rw[hG5] at hst4;have hlt:n1<G5.next:=Nat.lt_trans hGn hn5;obtain⟨n3,hn33⟩:∃n,h5.next=n:=⟨_,rfl⟩;rw[hn33] at hst4 hG5 s2 hn5 hGn
 have hcd:∀id cs,frz id cs (.agg [ca,cb,ce,cp])= .agg [ca,cb,ce,cp]:=fun id cs=>zCL id cs _ hcl;have hcs:∀id cs,frz id cs sd=sd:=fun id cs=>zCL id cs _ (zNd (zRy fun f hf=>hpl f (zAn hf)) p1);have hct:∀id cs,frz id cs zt=zt:=fun id cs=>zCL id cs _ (zNd (zO3 W (kB kp) fun a ha=>(htp a ha).2.2.2) p2);have hzf:=(zN p2.isSl);have lsd:=zAq p1.isSl;have lod:=yV F2;have lob:=yV ho.isSl;have hol:=W.ol;have hix:=fun o=>zK7 ho.isSl (show(zU fs []).length≤1048576 by have:=I.ysm.ol;rw[hol] at this;exact this) o;have hnb:(zU (zK fs (Ik (kB kp) fs.length)) []).length≤1048576:=by have:=W.len;omega
 clear hG5 hpa PC PW e2 hlg hll H p1 p2 p3 hv2';generalize zK fs (Ik (kB kp) fs.length)=gs at *
 repeat' first|simp only[go_sem,mu6, *]|apply bc<;>intro hc
 refine(hva _).mono ?_;rintro r h6 ⟨hq,tsd2,osd2,rfl,_,ho2⟩;subst hq;have ho2:=ho2.isSl;have lnd:=yV ho2;clear hva;generalize zU gs []=ns at *
 have hnl:ns.length≤1048576:=hnb;have hmk:∀nid H,qM Tryz.prog true nid 40 (.int .i64 (ns.length:Int)) (.int .i64 (ns.length:Int)) H=some (.rs nid 1 0 ns.length,H.new nid (.row (List.replicate ns.length (.str [])))):=fun nid H=>by
  have hb:ns.length*16≤lim:=by unfold lim;omega
  have hb2:ns.length≤lim:=by unfold lim;omega
  simp only[qM,yq,zFv,zAe,zAo,Int.toNat_natCast];rw[if_pos (by simp[D.notTuple,D.cells,hb,hb2])]
  have:∀m,zA7 m (D.str []).cells=List.replicate m (.str []):=fun m=>by
   unfold zA7;simp only[D.cells]
   induction m with
   |zero=>rfl
   |succ m ih=>rw[List.replicate_succ,List.flatten_cons,ih,List.replicate_succ];rfl
  simp only[if_true,this]
 have hself:((ns.length:Int)==(ns.length:Int))=true:=by simp
 obtain⟨ow,how⟩:∃ow,zD5 y (zU fs []) ns=ow:=⟨_,rfl⟩;have hol2:ow.length=ns.length:=by rw[←how];unfold zD5;rw[List.length_map]
 have hwi:∀i (h:i<ns.length),∃j,(∀g,zA Tryz.prog 29 [osd, .str ns[i]] g fun r h'=>h'=g∧r= .int .i64 (j:Nat))∧∃hj:j<y.own.length,ow[i]'(by rw[hol2];exact h)=y.own[j]:=fun i h=>by
  have q:=zYf (hmem _ (List.getElem_mem h));refine⟨_,fun g=> ?_,by rw[hol];exact q.2,?_⟩
  ·have:=hix ns[i] g;rw[List.findIdx?_eq_some_iff_findIdx_eq.2 ⟨q.2,rfl⟩] at this;exact this
  ·have e:ow[i]'(by rw[hol2];exact h)=(zD5 y (zU fs []) ns)[i]'(by unfold zD5;rw[List.length_map];exact h):=by subst how;rfl
   rw[e];unfold zD5;rw[List.getElem_map];unfold zBN;rw[List.getD_eq_getElem?_getD,List.getElem?_eq_getElem (by rw[hol];exact q.2)];rfl
 rw[how] at hco2;obtain⟨B,hB⟩:∃n,h6.next=n:=⟨_,rfl⟩;obtain⟨G7,hG7⟩:∃G,h6.new B (.row (List.replicate ns.length (.str [])))=G:=⟨_,rfl⟩;have n1B:n1≠B:=by omega
 have n3B:n3≠B:=by omega
 have t1:G7.at' n1=some (.row [td,od]):=by rw[←hG7,zD n1B];exact s1
 have t3:G7.at' n3=some (.row [zt,zw]):=by rw[←hG7,zD n3B];exact s2
 have tB:G7.at' B=some (.row (List.replicate ns.length (.str []))):=by rw[←hG7];exact zJ _ _ _
 clear how hmem hix CI lob hst4 hcl
 repeat' first|simp only[go_sem,mu6, *]|apply bc<;>intro hc
 have h0:G7=G7.set B (.row ((ow.take 0++List.replicate (ow.length-0) []).map D.str)):=by
  rw[List.take_zero,List.nil_append,Nat.sub_zero,List.map_replicate,hol2,zBK tB]
 clear hmk s1 s2 hB hG7 tB;refine zH (fun i fr h=>fr 4= .iptr [ca,cb,ce,cp] 0∧fr 11= .ptr n1 0∧fr 13=osd∧fr 17=sd∧fr 18= .ptr n3 0∧fr 21= .rs B 1 0 ns.length∧fr 108=osd2∧fr 109= .int .i64 (ns.length:Int)∧fr 110= .int .i64 (i:Int)∧h=G7.set B (.row ((ow.take i++List.replicate (ow.length-i) []).map D.str))) ns.length (by omega) ?_ ?_ ?_
 ·simp only[go_sem,mu6,true_and,and_true,Int.ofNat_zero];exact⟨f4,f11,h0⟩
 ·clear h0;rintro i fr h hlt ec ew ⟨f4,f11,f13,f17,f18,f21,f108,f109,f110,rfl⟩;have a1:=wb ho2 hlt;obtain⟨j,hx,hj,hw⟩:=hwi i hlt;have a2:=wb F2 hj;have a3:=zx (P:=Tryz.prog) (sz:=1) (id:=B) yq zAe (k:= .i64) hlt;rw[Nat.mul_one] at a3;have hlw:i<ow.length:=by rw[hol2];exact hlt
  have hrs:=zbM hlw;rw[hw] at hrs;have e1:decide ((j:Int)≥0)=true:=decide_eq_true (by omega);have e2:decide ((j:Int)<(y.own.length:Int))=true:=decide_eq_true (by omega);have hXl:i<((ow.take i++List.replicate (ow.length-i) []).map D.str).length:=by
   rw[List.length_map,List.length_append,List.length_take,List.length_replicate];omega
  generalize ns[i]=o at *
  generalize y.own[j]=v at *
  generalize(ow.take i++List.replicate (ow.length-i) []).map D.str=X at *
  generalize(ow.take (i+1)++List.replicate (ow.length- (i+1)) []).map D.str=X2 at *
  have r1:(G7.set B (.row X)).at' n1=some (.row [td,od]):=by rw[zE n1B];exact t1
  have hst5:=zT (P:=Tryz.prog) (t:=9) (off:=i) (x:= .str v) (zC G7 B (.row X)) zAe hXl rfl rfl;rw[hrs,zDU] at hst5;clear hrs hXl hw hwi hlw t1 t3 hol2 hol
  repeat' first|simp only[go_sem,mu6, *]|apply bc<;>intro hc|(refine zA.mono (hx _) ?_;rintro r h ⟨hq,rfl⟩)
 ·clear h0 hwi;rintro fr h ec ⟨f4,f11,f13,f17,f18,f21,f108,f109,f110,rfl⟩;have eX:(ow.take ns.length++List.replicate (ow.length-ns.length) []).map D.str=ow.map D.str:=by
   rw[←hol2,Nat.sub_self,List.take_length,List.replicate_zero,List.append_nil]
  rw[eX];clear eX;have r3:(G7.set B (.row (ow.map D.str))).at' n3=some (.row [zt,zw]):=by rw[zE n3B];exact t3
  have rB:(G7.set B (.row (ow.map D.str))).at' B=some (.row (ow.map D.str)):=zC _ _ _;generalize G7.set B (.row (ow.map D.str))=G8 at *
  have hst6:zW Tryz.prog 40 (.ptr n3 1) (.rs B 1 0 ns.length) G8=some (G8.set n3 (.row [zt, .rs B 1 0 ns.length])):=zT (P:=Tryz.prog) (t:=40) (off:=1) (x:= .rs B 1 0 ns.length) r3 zPT (by simp) rfl rfl;have r4:(G8.set n3 (.row [zt, .rs B 1 0 ns.length])).at' n3=some (.row [zt, .rs B 1 0 ns.length]):=zC _ _ _;have r5:(G8.set n3 (.row [zt, .rs B 1 0 ns.length])).at' B=some (.row (ow.map D.str)):=by rw[zE (Ne.symm n3B)];exact rB
  generalize G8.set n3 (.row [zt, .rs B 1 0 ns.length])=G9 at *
  have hcall:zA Tryz.prog 14 [.agg [ca,cb,ce,cp],sd, .agg [zt, .rs B 1 0 ns.length]] G9 fun r h'=>r= .tuple [.bool true, .int .i64 0]:=by
   refine zA.argsFrz r5 ?_;show zA _ _ [frz B _ (.agg [ca,cb,ce,cp]),frz B _ sd, .agg [frz B _ zt,frz B _ (.rs B 1 0 ns.length)]] _ _;rw[hcd,hcs,hct,zYP (xs:=yI ow) (fun x hx=>by obtain⟨s,_,rfl⟩:=List.mem_map.1 hx;rfl) (by rw[zp];exact hol2) (zRx ow).symm];exact(hco2 (za.mk .no) _).mono fun r h' q=>q.2
  clear hcd hcs hct hco2 r3 r5 rB t1 t3
  repeat' first|simp only[go_sem,mu6, *]|apply bc<;>intro hc|(refine zA.mono hcall ?_;rintro r h rfl)
end Go.V
