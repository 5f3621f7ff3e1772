/- Contracts of functions that the law reaches, part 1. No condition. -/
import Derived.Test.YtmhkjfajejaniaaGreatDoorW30
import Derived.Test.YtmhkjfajejaniaaGreatDoorW31
import Derived.Test.YtmhkjfajejaniaaGreatDoorW39
import Derived.Test.YtmhkjfajejaniaaGreatDoorW29
import Derived.Test.YtmhkjfajejaniaaGreatDoorW32
set_option linter.all false
namespace Go.V
open Go.Proofs
set_option maxRecDepth 100000
set_option maxHeartbeats 4000000 in
theorem zRs {c:Cat} {d x:D} (hc:qX c d) (hs:c.Sm) {fs:List Fac} (hx:zX 12 (zIH fs) x) (hl:fs.length≤1048576) (hok:∀f∈fs,f.Ok0) (g:Heap):zA Tryz.prog 9 [d,x] g fun r h'=>h'=g∧∃b,r= .bool b∧(b=true→zgZ fs):=by
 refine zA.post fun Q hQ=> ?_;have hf:Q (.bool false) g:=hQ _ _ ⟨rfl,_,rfl,fun q=>by cases q⟩;have hfin:zgZ fs→∀b,Q (.bool b) g:=fun hv b=>hQ _ _ ⟨rfl,b,rfl,fun _=>hv⟩;have hlx:=zCb hx;have hfc:=zWp hc hs hx hl hok;have hcs:=hs.cs;obtain⟨ca,cb,ce,cp,rfl,_,_,he,_⟩:=hc;have hv4:∀a b c e:D,zR true 4 [a,b,c,e] 0=some (.agg [a,b,c,e]):=fun a b c e=>zB rfl (by omega);have h47:=zG4;have l3:=zCY he;have s3:=hcs.1;have hI:=isI;clear hQ hs;refine zA.of_fn (g:=zg6) mix Tryz.func9 ok9 rfl rfl ?_;simp only[Tryz.f9,gJ]
 repeat' first|simp only[go_sem,mu9, *]|apply bc<;>intro hc
 refine(hfc _).mono ?_;rintro r h ⟨hq,b,rfl,hb⟩;subst hq;clear hfc;cases b with
 |false=>
  clear hfin hb hcs hok
  repeat' first|simp only[go_sem,mu9, *]|apply bc<;>intro hc
 |true=>
 have hF:=hb rfl;have hfin:=hfin hF;clear hf hb
 repeat' first|simp only[go_sem,mu9, *]|apply bc<;>intro hc
 refine zF (fun i fr h'=>fr 1=x∧fr 2= .iptr [ca,cb,ce,cp] 0∧fr 7= .int .i64 (i:Int)∧IsI (fr 5)∧IsI (fr 6)∧h'=h) c.cs.length (by omega) ?_ ?_ ?_
 ·simp only[go_sem,mu9,true_and,and_true,Int.ofNat_zero,isI]
 ·rintro i fr h hlt ec ew ⟨f1,f2,f7,⟨n5,f5⟩,⟨n6,f6⟩,hq⟩;subst hq;have a1:=zDA he hlt;have o1:=yz (hcs.2 _ (List.getElem_mem hlt)).1;generalize c.cs[i]=y at *
  simp only[Cla.cells] at a1;clear hfin hok hcs
  repeat' first|simp only[go_sem,mu9, *]|apply bc<;>intro hc
 rintro fr h ec ⟨f1,f2,f7,⟨n5,f5⟩,⟨n6,f6⟩,hq⟩;subst hq;clear hcs
 repeat' first|simp only[go_sem,mu9, *]|apply bc<;>intro hc
 clear f7 ec;refine zF (fun i fr h'=>fr 1=x∧fr 8= .int .i64 (i:Int)∧IsI (fr 5)∧IsI (fr 6)∧h'=h) fs.length (by omega) ?_ ?_ ?_
 ·simp only[go_sem,mu9,true_and,and_true,Int.ofNat_zero,isI,f1,f5,f6]
 ·clear f1 f2 f5 f6 n5 n6;rintro i fr h hlt ec ew ⟨f1,f8,⟨n5,f5⟩,⟨n6,f6⟩,hq⟩;subst hq;have a1:=qf hx hlt;have hm:=List.getElem_mem hlt;have hN:=zRP _ (Nat.le_refl _) (hok _ hm).e (by have:=hF.2 _ hm;omega);generalize fs[i]=f at *
  simp only[Fac.cells] at a1;simp only[Ex.cells] at hN;clear hfin hok hm hF
  repeat' first|simp only[go_sem,mu9, *]|apply bc<;>intro hc|(refine zA.mono (hN _) ?_;rintro r h ⟨hq2,rfl⟩)
 ·clear f1 f2 f5 f6 n5 n6;rintro fr h ec ⟨f1,f8,⟨n5,f5⟩,⟨n6,f6⟩,hq⟩;subst hq;clear hok hF
  repeat' first|simp only[go_sem,mu9, *]|apply bc<;>intro hc
theorem zbF {n:Nat} (hn:n≤65535):wZ Tryz.prog 30 3 (.int .u16 (n:Int))=some (.int .i64 (n:Int)):=by
 simp only[wZ,Tryz.underlying30,Tryz.underlying3];rw[zV (by omega) (by omega)]
theorem zfX {l:List (List Trm)} :∀a∈l.map mkA,a.d.cells= [a.d]∧a.d.notTuple=true∧a.d.flat=true∧qC [a.d]:=fun a ha=>by
 obtain⟨t,_,rfl⟩:=List.mem_map.1 ha;exact⟨rfl,rfl,rfl,zIN t⟩
def TpA (y:Cho):Prop:=∀a∈y.ts,a.d.cells= [a.d]∧a.d.notTuple=true∧a.d.flat=true∧qC [a.d]
theorem zKA (l:List (List UInt8)):(yP l).flatten=l.map D.str:=by
 induction l with
 |nil=>rfl
 |cons a l ih=>show [D.str a]++(yP l).flatten=_;rw[ih];rfl
theorem zIk {sz:Nat} {xs:List (List D)} {d:D} (hp:∀x∈xs,qC x) (h:Fin sz xs d):below 0 d:=by
 rcases h with⟨rfl,_⟩ |rfl
 ·trivial
 ·exact(yO hp .no).2
def CL (h:Heap) (cs:List D) (n:Nat) (r:D) (h':Heap):Prop:=(n=0∧r= .nilsl∧h'=h)∨(n≠0∧r= .rs h.next 1 0 n∧h'=h.new h.next (.row cs))
def zI8 (h h':Heap):Prop:=h.next≤h'.next∧∀i,i<h.next→h'.at' i=h.at' i
theorem zI8.trans {h h1 h2:Heap} (a:zI8 h h1) (b:zI8 h1 h2):zI8 h h2:=⟨Nat.le_trans a.1 b.1,fun i hi=>by rw[b.2 i (Nat.lt_of_lt_of_le hi a.1),a.2 i hi]⟩
theorem zI8.new (h:Heap) (o:Obj):zI8 h (h.new h.next o):=⟨by rw[zD];omega,fun i hi=>zG (by omega)⟩
def Slo (h:Heap) (N:Nat) (cs:List D) (n:Nat) (d:D):Prop:=(n=0∧d= .nilsl)∨(n≠0∧N<h.next∧d= .rs N 1 0 n∧h.at' N=some (.row cs))
theorem Slo.grow {h h':Heap} {N:Nat} {cs:List D} {n:Nat} {d:D} (s:Slo h N cs n d) (g:zI8 h h'):Slo h' N cs n d:=by
 rcases s with s| ⟨s1,s2,s3,s4⟩
 ·exact .inl s
 ·exact .inr ⟨s1,Nat.lt_of_lt_of_le s2 g.1,s3,by rw[g.2 N s2];exact s4⟩
theorem Slo.lt {h:Heap} {N:Nat} {cs:List D} {n:Nat} {d:D} (s:Slo h N cs n d):n=0∨N<h.next:=by
 rcases s with s| ⟨_,s2,_⟩
 ·exact .inl s.1
 ·exact .inr s2
theorem Slo.flat {h:Heap} {N:Nat} {cs:List D} {n:Nat} {d:D} (s:Slo h N cs n d):d.flat=true:=by
 rcases s with⟨_,rfl⟩ | ⟨_,_,rfl,_⟩ <;>rfl
theorem CL.grow {h h':Heap} {cs:List D} {n:Nat} {r:D} (c:CL h cs n r h'):zI8 h h':=by
 rcases c with⟨_,_,rfl⟩ | ⟨_,_,rfl⟩
 ·exact⟨Nat.le_refl _,fun _ _=>rfl⟩
 ·exact zI8.new _ _
theorem CL.slo {h h':Heap} {cs:List D} {n:Nat} {r:D} (c:CL h cs n r h'):Slo h' h.next cs n r:=by
 rcases c with⟨h1,h2,rfl⟩ | ⟨h1,h2,rfl⟩
 ·exact .inl ⟨h1,h2⟩
 ·exact .inr ⟨h1,by rw[zD];omega,h2,zJ _ _ _⟩
theorem zI8.one {h h':Heap} {i:Nat} {o:Obj} (g:zI8 h h') (hi:i<h.next) (hl:HLe (Heap.one i o) h):HLe (Heap.one i o) h':=by
 rw[wx] at hl⊢;rw[g.2 i hi];exact hl
def MS (h:Heap) (a:Nat) (cs:List D) (n:Nat) (d:D):Prop:=(n=0∧d= .nilsl)∨(n≠0∧d= .rs a 1 0 n∧h.at' a=some (.row cs))
structure Dst (n1 n2 a b:Nat):Prop where
 h1:n1≠n2
 h2:a≠n1
 h3:a≠n2
 h4:b≠n1
 h5:b≠n2
 h6:a≠b
def P9 (y:Cho) (n1:Nat) (td od:D) (h:Heap) (n2:Nat):Prop:=∃tz oz a b,Dst n1 n2 a b∧h.at' n1=some (.row [td,od])∧h.at' n2=some (.row [tz,oz])∧MS h a (y.ts.map Alt.d) y.ts.length tz∧MS h b (y.own.map D.str) y.own.length oz
theorem zb6 {y:Cho} {n1 n2 NA NB:Nat} {td od tz oz:D} {H:Heap} (g1:H.at' n1=some (.row [td,od])) (h12:n1≠n2) (sA:Slo H NA (y.ts.map Alt.d) y.ts.length tz) (sB:Slo H NB (y.own.map D.str) y.own.length oz)
  (dA:y.ts.length=0∨NA≠n1∧NA≠n2) (dB:y.own.length=0∨NB≠n1∧NB≠n2) (dC:y.ts.length=0∨y.own.length=0∨NA≠NB):P9 y n1 td od (H.set n2 (.row [tz,oz])) n2:=by
 have mk:∀ {N n:Nat} {cs:List D} {d:D} (w:Nat),Slo H N cs n d→(n=0∨N≠n1∧N≠n2)→w≠n1∧w≠n2→∃a,(n≠0∧a=N∨n=0∧a=w)∧a≠n1∧a≠n2∧MS (H.set n2 (.row [tz,oz])) a cs n d:=fun {N n cs d} w s hd hw=>by
  rcases s with⟨s1,s2⟩ | ⟨s1,_,s3,s4⟩
  ·exact⟨w, .inr ⟨s1,rfl⟩,hw.1,hw.2, .inl ⟨s1,s2⟩⟩
  ·have hd:=hd.resolve_left s1;exact⟨N, .inl ⟨s1,rfl⟩,hd.1,hd.2, .inr ⟨s1,s3,by rw[zE hd.2];exact s4⟩⟩
 obtain⟨a,a1,a2,a3,a4⟩:=mk (n1+n2+NA+NB+1) sA dA (by omega);obtain⟨b,b1,b2,b3,b4⟩:=mk (n1+n2+NA+NB+2) sB dB (by omega);exact⟨tz,oz,a,b,⟨h12,a2,a3,b2,b3,by omega⟩,by rw[zE h12];exact g1,zC _ _ _,a4,b4⟩
noncomputable def zOy:Cfg:=⟨fun t=>List.contains (α:=Nat) [7] t,fun i=>(zJV (α:=List (Nat×Fl)) [] i).getD []⟩
theorem zgb (t:Tmp):zOy.mu t=List.contains [7] t:=(rfl)
theorem zfY:zd Tryz.prog zOy Tryz.f21=true:=by kernel_rfl
theorem zfZ:zd Tryz.prog zOy Tryz.f22=true:=by kernel_rfl
theorem zU7 {l:List Alt} (hl:l.length≤1048576) (h:Heap):zA Tryz.prog 21 [nd 1 (yJ l)] h (CL h (l.map Alt.d) l.length):=by
 refine zA.post fun Q hQ=> ?_;have hlen:(yJ l).length=l.length:=List.length_map ..;have hc:=zIM l;have h1:=zBi l;cases hx:yJ l with
 |nil=>
  have h0:l= []:=List.map_eq_nil_iff.1 hx;subst h0;have hn:zCl Tryz.prog .eql 39 true .nilsl .nilsl=some (.bool true):=by rw[qi (sz:=1) zX.nil Tryz.underlying39];rfl
  have hf:Q .nilsl h:=hQ _ _ (.inl ⟨rfl,rfl,rfl⟩);show zA _ _ [.nilsl] _ _;clear hQ hx hlen hc h1;refine zA.of_fn (g:=zOy) mix Tryz.func21 zfY rfl rfl ?_;simp only[Tryz.f21,gJ]
  repeat' first|simp only[go_sem,zgb, *]|apply bc<;>intro hc
 |cons x xs=>
  rw[←hx];have hpos:l.length≠0:=by rw[←hlen,hx];simp
  have hn:zCl Tryz.prog .eql 39 true (.sl 1 (yJ l) .no) .nilsl=some (.bool false):=by rw[qi (zX.mk .no) Tryz.underlying39];rfl
  have hz:=fun nid h=>qK (P:=Tryz.prog) (nid:=nid) (h:=h) qh zGu zAF rfl rfl (by omega:0<1);have hap:z6 Tryz.prog true h.next 39 (.sl 1 [] .full) (.sl 1 (yJ l) .no) h=some (.rs h.next 1 0 l.length,h.new h.next (.row (l.map Alt.d))):=by
   rw[zA2 qh zED zAF (by omega) h1 (by rw[zBO,hlen];unfold lim;omega) (by rw[hlen];unfold lim;omega),hlen,if_neg (by omega),hc,zMq Tryz.underlying62]
  have hf:Q (.rs h.next 1 0 l.length) (h.new h.next (.row (l.map Alt.d))):=hQ _ _ (.inr ⟨hpos,rfl,rfl⟩);have hnd:nd 1 (yJ l)= .sl 1 (yJ l) .no:=by rw[hx];rfl
  rw[hnd];clear hQ hx hlen hc h1 hnd hpos;refine zA.of_fn (g:=zOy) mix Tryz.func21 zfY rfl rfl ?_;simp only[Tryz.f21,gJ];simp only[qR,go_sem,zgb,hn,hz,hap,hf]
theorem zU8 {l:List (List UInt8)} (hl:l.length≤1048576) (h:Heap):zA Tryz.prog 22 [nd 1 (yP l)] h (CL h (l.map D.str) l.length):=by
 refine zA.post fun Q hQ=> ?_;have hlen:=zq l;have hc:=zKA l;have h1:=zIC l;cases hx:yP l with
 |nil=>
  have h0:l= []:=List.map_eq_nil_iff.1 hx;subst h0;have hn:zCl Tryz.prog .eql 40 true .nilsl .nilsl=some (.bool true):=by rw[qi (sz:=1) zX.nil Tryz.underlying40];rfl
  have hf:Q .nilsl h:=hQ _ _ (.inl ⟨rfl,rfl,rfl⟩);show zA _ _ [.nilsl] _ _;clear hQ hx hlen hc h1;refine zA.of_fn (g:=zOy) mix Tryz.func22 zfZ rfl rfl ?_;simp only[Tryz.f22,gJ]
  repeat' first|simp only[go_sem,zgb, *]|apply bc<;>intro hc
 |cons x xs=>
  rw[←hx];have hpos:l.length≠0:=by rw[←hlen,hx];simp
  have hn:zCl Tryz.prog .eql 40 true (.sl 1 (yP l) .no) .nilsl=some (.bool false):=by rw[qi (zX.mk .no) Tryz.underlying40];rfl
  have hz:=fun nid h=>qK (P:=Tryz.prog) (nid:=nid) (h:=h) yj zFg zAh rfl rfl (by omega:0<1);have hap:z6 Tryz.prog true h.next 40 (.sl 1 [] .full) (.sl 1 (yP l) .no) h=some (.rs h.next 1 0 l.length,h.new h.next (.row (l.map D.str))):=by
   rw[zA2 yj zHg zAh (by omega) h1 (by rw[zBe,hlen];unfold lim;omega) (by rw[hlen];unfold lim;omega),hlen,if_neg (by omega),hc,zRB Tryz.underlying9]
  have hf:Q (.rs h.next 1 0 l.length) (h.new h.next (.row (l.map D.str))):=hQ _ _ (.inr ⟨hpos,rfl,rfl⟩);have hnd:nd 1 (yP l)= .sl 1 (yP l) .no:=by rw[hx];rfl
  rw[hnd];clear hQ hx hlen hc h1 hnd hpos;refine zA.of_fn (g:=zOy) mix Tryz.func22 zfZ rfl rfl ?_;simp only[Tryz.f22,gJ];simp only[qR,go_sem,zgb,hn,hz,hap,hf]
theorem zKB {H:Heap} {NA NB nA nB:Nat} {csA csB:List D} {rA rB:D} (sA:Slo H NA csA nA rA) (sB:Slo H NB csB nB rB):yG Tryz.prog 42 [(0,rA),(1,rB)]=some (.agg [rA,rB]):=by
 rcases sA with⟨_,rfl⟩ | ⟨_,_,rfl,_⟩ <;>rcases sB with⟨_,rfl⟩ | ⟨_,_,rfl,_⟩ <;>simp[yG,zJc,zPO,qZ,yW,D.notTuple,D.cells]
theorem zbG {h:Heap} {a:Nat} {cs:List D} {n:Nat} {d:D} (m:MS h a cs n d) (h':Heap):zCF Tryz.prog 39 d h'=some (.int .i64 (n:Int)):=by
 rcases m with⟨rfl,rfl⟩ | ⟨_,rfl,_⟩
 ·exact yY (sz:=1) zX.nil Tryz.underlying39
 ·exact zBP Tryz.underlying39
theorem zbH {h:Heap} {a:Nat} {cs:List D} {n:Nat} {d:D} (m:MS h a cs n d) (h':Heap):zCF Tryz.prog 40 d h'=some (.int .i64 (n:Int)):=by
 rcases m with⟨rfl,rfl⟩ | ⟨_,rfl,_⟩
 ·exact yY (sz:=1) zX.nil Tryz.underlying40
 ·exact zBP Tryz.underlying40
theorem MS.is {h:Heap} {a:Nat} {cs:List D} {n:Nat} {d:D} (m:MS h a cs n d) {i:Nat} (hi:i<n):d= .rs a 1 0 n∧h.at' a=some (.row cs):=by
 rcases m with⟨rfl,_⟩ | ⟨_,q,r⟩
 ·omega
 ·exact⟨q,r⟩
theorem MS.set {h:Heap} {a b:Nat} {cs:List D} {n:Nat} {d:D} {o:Obj} (m:MS h a cs n d) (hab:a≠b):MS (h.set b o) a cs n d:=by
 rcases m with m| ⟨q,r,s⟩
 ·exact .inl m
 ·exact .inr ⟨q,r,by rw[zE hab];exact s⟩
theorem zA.ms {f:FuncId} {D1 D2 tz oz:D} {h:Heap} {Q:D→Heap→Prop} {a b n1:Nat} {nA nB:Nat} {csA csB:List D} {xa xb:List (List D)} {row:List D} (hd1:below 0 D1) (hd2:below 0 D2) (hab:a≠b) (ha:a≠n1) (hb:b≠n1) (hr:h.at' n1=some (.row row)) (hrb:zb 0 row)
  (mA:MS h a csA nA tz) (mB:MS h b csB nB oz) (hxa:∀x∈xa,x.length=1) (hxb:∀x∈xb,x.length=1) (hla:xa.length=nA) (hlb:xb.length=nB) (hca:csA=xa.flatten) (hcb:csB=xb.flatten) (hbb:zb 0 csB) (hac:below 0 (.sl 1 xa .no))
  (hv:∀tf of h',zX 1 xa tf→zX 1 xb of→h'.at' n1=some (.row row)→zA Tryz.prog f [D1,D2, .agg [tf,of]] h' Q):zA Tryz.prog f [D1,D2, .agg [tz,oz]] h Q:=by
 have zbE:∀ {xs:List (List D)},xs.length=0→zX 1 xs .nilsl:=fun e=>by rw[List.length_eq_zero_iff.1 e];exact zX.nil
 have snd:∀ {h:Heap} {tf:D},zX 1 xa tf→(∀id cs,frz id cs tf=tf)→h.at' n1=some (.row row)→MS h b csB nB oz→zA Tryz.prog f [D1,D2, .agg [tf,oz]] h Q:=fun {h tf} ht hft hr mB=>by
  rcases mB with⟨e,rfl⟩ | ⟨e,rfl,hi⟩
  ·exact hv _ _ _ ht (zbE (by omega)) hr
  ·refine zA.argsFrz hi ?_;show zA _ _ [frz b _ D1,frz b _ D2, .agg [frz b _ tf,frz b _ (.rs b 1 0 nB)]] _ _;rw[zAS _ _ _ hd1,zAS _ _ _ hd2,hft,zT2 hxb hlb hcb];refine hv _ _ _ ht (zX.mk .no) ?_;show(if n1=b then none else(h.at' n1).map (zcC b csB))=_
   rw[if_neg (Ne.symm hb),hr];show some (Obj.row (zEo b csB row))=_;rw[qV _ _ _ hrb]
 rcases mA with⟨e,rfl⟩ | ⟨e,rfl,hi⟩
 ·exact snd (zbE (by omega)) (fun _ _=>rfl) hr mB
 ·refine zA.argsFrz hi ?_;have hoz:frz a csA oz=oz:=by
   rcases mB with⟨_,rfl⟩ | ⟨_,rfl,_⟩
   ·rfl
   ·simp only[frz];rw[if_neg (fun q=>hab q.1.symm)]
  show zA _ _ [frz a _ D1,frz a _ D2, .agg [frz a _ (.rs a 1 0 nA),frz a _ oz]] _ _;rw[zAS _ _ _ hd1,zAS _ _ _ hd2,zT2 hxa hla hca,hoz];refine snd (zX.mk .no) (fun id cs=>zAS id cs _ hac) ?_ ?_
  ·show(if n1=a then none else(h.at' n1).map (zcC a csA))=_
   rw[if_neg (Ne.symm ha),hr];show some (Obj.row (zEo a csA row))=_;rw[qV _ _ _ hrb]
  ·rcases mB with m| ⟨e,rfl,hi2⟩
   ·exact .inl m
   ·refine .inr ⟨e,rfl,?_⟩;show(if b=a then none else(h.at' b).map (zcC a csA))=_
    rw[if_neg (Ne.symm hab),hi2];show some (Obj.row (zEo a csA csB))=_;rw[qV _ _ _ hbb]
def zRt (l:List Bool):List (List D):=l.map fun b=>[D.bool b]
theorem zNX (l:List Bool):(zRt l).length=l.length:=List.length_map ..
theorem zU9 {l:List Bool} {d:D} (hd:zX 1 (zRt l) d) (h:Heap):zCF Tryz.prog 59 d h=some (.int .i64 l.length):=by rw[yY hd Tryz.underlying59,zNX]
theorem zXO {l:List Bool} {d:D} (hd:zX 1 (zRt l) d) {i:Nat} (hi:i<l.length):zS Tryz.prog 59 d (.int .i64 (i:Int))=some (.iptr [.bool l[i]] 0):=zY hd zVi zcs (by simp[zRt,hi])
def tr9:Pl:= .op 0 .no (.op 3 .no (.op 1 .st (.op 4 .st (.or (.or
 (.op 2 .no (.or (.op 5 .no (.op 6 .no (.op 7 .no (.op 8 .no .nil)))) (.op 7 .no (.op 5 .no (.op 6 .no (.op 8 .no .nil))))))
 (.op 5 .no (.or (.op 2 .no (.op 6 .no (.op 7 .no (.op 8 .no .nil)))) (.op 7 .no (.op 2 .no (.op 6 .no (.op 8 .no .nil)))))))
 (.op 7 .no (.or (.op 2 .no (.op 5 .no (.op 6 .no (.op 8 .no .nil)))) (.op 5 .no (.op 2 .no (.op 6 .no (.op 8 .no .nil))))))))))
theorem ziz:zaD Tryz.prog zhO 9 tr9 Tryz.f4=true:=by kernel_rfl
theorem zRu {c:Cat} {fs:List Fac} {y:Cho} {ca cb ce cp x td od:D} (I:CIn c fs y (.agg [ca,cb,ce,cp]) x (.agg [td,od])) {w:Vio} (hw:w.Is w.cells) {n1:Nat} {h:Heap} (hr:h.at' n1=some (.row [td,od])):
  zA Tryz.prog 23 ([]++ [.agg w.cells]++ [.iptr [ca,cb,ce,cp] 0, .iptr [x] 0, .ptr n1 0]) h fun r h'=>h'=h∧r= .bool (!(zDT c fs y w==0)):=by
 have hc:=zRp I hw;have h2:=Vio.Is.two hw;have hv4:∀a b c e:D,zR true 4 [a,b,c,e] 0=some (.agg [a,b,c,e]):=fun a b c e=>zB rfl (by omega);have hv2:∀a b:D,zR true 2 [a,b] 0=some (.agg [a,b]):=fun a b=>zB rfl (by omega);obtain⟨x1,x2,_⟩:=zK I.x;show zA _ _ [.agg w.cells, .iptr [ca,cb,ce,cp] 0, .iptr [x] 0, .ptr n1 0] _ _;clear I hw;generalize w.cells=wc at *
 refine zA.of_fn (g:=zZh) mix Tryz.func23 zks rfl rfl ?_;simp only[Tryz.f23,gJ]
 repeat' first|simp only[go_sem,zkr, *]|apply bc<;>intro hc|(refine zA.mono (hc _) ?_;rintro r h ⟨hq,rfl⟩)
theorem zYf {sz:Nat} (xs:List (List D)):Fin sz xs (nd sz xs):=by
 cases xs with
 |nil=>exact .inl ⟨rfl,rfl⟩
 |cons a xs=>exact .inr rfl
theorem zIl:∀l:List (List UInt8),zb 0 (l.map D.str)
 | []=>trivial
 |_::l=>⟨trivial,zIl l⟩
def L9 (y:Cho) (n1 n2:Nat) (td od tz oz:D) (a b:Nat) (h:Heap):Prop:=∃T O,Gap T O y∧h.at' n1=some (.row [td,od])∧h.at' n2=some (.row [tz,oz])∧MS h a (T.map Alt.d) T.length tz∧MS h b (O.map D.str) O.length oz
set_option maxHeartbeats 16000000 in
theorem zIm {c:Cat} {d x:D} (hc:qX c d) (hs:c.Sm) (hcl:below 0 d) {fs:List Fac} (hx:zX 12 (zIH fs) x) (hxc:below 0 x) (hl:fs.length≤1048576) (hok:∀f∈fs,f.Ok0) {n:Nat} (hn:n≤65535) {op:D} {ol:List Bool} (hop:zX 1 (zRt ol) op) (hol:ol.length≤1048576) (g:Heap):zA Tryz.prog 4 [d,x, .int .u16 (n:Int),op] g fun r _=>r= .bool true:=by
 refine zA.post fun Q hQ=> ?_;have hT:∀h,Q (.bool true) h:=fun h=>hQ _ _ rfl;have haw:=zGe;have hsh:=zRs hc hs hx hl hok;have hlo:=zU9 hop;have hc0:=hc;obtain⟨ca,cb,ce,cp,rfl,_,_,_,_⟩:=hc0;have hv4:∀a b c e:D,zR true 4 [a,b,c,e] 0=some (.agg [a,b,c,e]):=fun a b c e=>zB rfl (by omega);have hv2:∀a b:D,zR true 2 [a,b] 0=some (.agg [a,b]):=fun a b=>zB rfl (by omega);obtain⟨x1,x2,_⟩:=zK hx;have hcv:=zbF hn;clear hQ;refine zA.of_fnT (g:=zhO) 9 tr9 mix Tryz.func4 ziz rfl rfl ?_;simp only[Tryz.f4,gJ];simp only[zWY,zAX,Nat.reduceBEq]
 refine zBr (fun fr h=>fr 1=x∧fr 2= .int .u16 (n:Int)∧fr 3=op∧fr 4= .iptr [ca,cb,ce,cp] 0∧fr 5= .iptr [x] 0∧h=g) ?_ ?_
 ·clear hT hsh haw hc hlo hop hok hxc hcl hl hs;rcases hx with⟨rfl,_⟩ | ⟨tk,rfl⟩
  ·repeat' first|simp only[go_sem,mu4, *]|apply bc<;>intro hc
  ·repeat' first|simp only[go_sem,mu4, *]|apply bc<;>intro hc
 rintro fr h ⟨f1,f2,f3,f4,f5,hq⟩;subst hq
 repeat' first|simp only[go_sem,mu4,zAX, *]|apply bc<;>intro hc|(refine zA.mono (haw _) ?_;rintro r h ⟨rfl,hq⟩)
 refine(hsh _).mono ?_;rintro r h ⟨hq,b,rfl,hF⟩;subst hq;clear haw hsh;cases b with
 |false=>
  clear hF
  repeat' first|simp only[go_sem,mu4,zAX, *]|apply bc<;>intro hc
 |true=>
 have hF:=hF rfl;have hok1:∀f∈fs,f.Ok:=fun f hf=>(hok f hf).ok (hF.2 f hf);cases o40:decide ((ol.length:Int)>40) with
 |true=>
  repeat' first|simp only[go_sem,mu4,zAX, *]|apply bc<;>intro hc
 |false=>
 have hct:=zaj hc hs hx (by have:=hF.1.2;omega) hok1;unfold zNE at hct;cases e0:(wn c fs==0) with
 |false=>
  rw[if_neg (by rw[e0];exact Bool.false_ne_true)] at hct
  repeat' first|simp only[go_sem,mu4,zAX, *]|apply bc<;>intro hc|(refine zA.mono (hct _) ?_;rintro r h ⟨hq,rfl⟩)
 |true=>
 rw[if_pos e0] at hct;cases m0:((zLP c fs:Int)==0) with
 |true=>
  repeat' first|simp only[go_sem,mu4,zAX, *]|apply bc<;>intro hc|(refine zA.mono (hct _) ?_;rintro r h ⟨hq,rfl⟩)
 |false=>
 have hrem:=zbB (n:=n) m0;have hk:=zU6 e0 m0 n;have hnt:=ziw hc hs hx (by have:=hF.1.2;omega) hok1 ((n%zLP c fs:Nat):Int);rw[hk] at hnt;obtain⟨k,hkk⟩:∃k,n%zLP c fs=k:=⟨_,rfl⟩;rw[hkk] at hk hnt hrem
 repeat' first|simp only[go_sem,mu4,zAX, *]|apply bc<;>intro hc|(refine zA.mono (hct _) ?_;rintro r h ⟨hq,rfl⟩)
 subst hq;clear hct;have hle:∀h,HLe Heap.emp h:=fun h i ob e=>by cases e
 refine zBr (fun fr h=>∃td od n1 y,fr 3=op∧fr 4= .iptr [ca,cb,ce,cp] 0∧fr 5= .iptr [x] 0∧fr 10= .int .i64 0∧fr 11= .ptr n1 0∧h.at' n1=some (.row [td,od])∧n1<h.next∧CIn c fs y (.agg [ca,cb,ce,cp]) x (.agg [td,od])∧zl c fs y false=0∧td=nd 1 (yJ y.ts)∧od=nd 1 (yP y.own)∧TpA y) ?_ ?_
 ·refine zz Heap.emp [(0, .st,true),(1, .st,true),(2, .no,true),(3, .no,true),(4, .no,true),(5, .no,true),(6, .st,true),(7, .no,true),(8, .no,true),(9, .no,true),(10, .no,true),(11, .no,true),(12, .no,true)] (by kernel_rfl) (by kernel_rfl) (hle _) ?_
  repeat' first|simp only[go_sem,mu4, *]|apply bc<;>intro hc
  obtain⟨td,htd⟩:∃td,nd 1 (yJ ((zW3 c fs ((k:Nat):Int).toNat).map mkA))=td:=⟨_,rfl⟩;obtain⟨od,hod⟩:∃od,nd 1 (yP (zW4 c fs ((k:Nat):Int).toNat))=od:=⟨_,rfl⟩;have F1:zX 1 (yJ ((zW3 c fs ((k:Nat):Int).toNat).map mkA)) td:=by rw[←htd];exact zLX
  have F2:zX 1 (yP (zW4 c fs ((k:Nat):Int).toNat)) od:=by rw[←hod];exact zLX
  refine zZ8 (.tuple [.agg [td,od], .int .i64 0]) (fun H=>(hnt H).mono fun r h2 hr=>by
   obtain⟨hq,td',od',rfl,hok2,_⟩:=hr;obtain⟨G1,G2⟩:=hok2 rfl;exact⟨hq,by rw[G1.det,G2.det,htd,hod]⟩) ?_
  have I:=zbD hc hs hx hF hok1 hk F1 F2;have e1:=zRr hk;obtain⟨y,hy⟩:∃y,zG8 c fs ((k:Nat):Int).toNat=y:=⟨_,rfl⟩;have htp:∀a∈(zG8 c fs ((k:Nat):Int).toNat).ts,a.d.cells= [a.d]∧a.d.notTuple=true∧a.d.flat=true∧qC [a.d]:=zfX;have htd:nd 1 (yJ (zG8 c fs ((k:Nat):Int).toNat).ts)=td:=htd;have hod:nd 1 (yP (zG8 c fs ((k:Nat):Int).toNat).own)=od:=hod;have hst:zU Tryz.prog 42 (.ptr h.next 0) (.agg [td,od]) (h.new h.next (.row [.nilsl, .nilsl]))=some (h.new h.next (.row [td,od])):=zj zD0 (by omega) rfl rfl (by show(td.flat&&(od.flat&&true))=true;rw[(zK F1).2.2,(zK F2).2.2];rfl);rw[hy] at I e1 htp htd hod
  obtain⟨G,hG,hGr,hGn⟩:∃G,h.new h.next (.row [td,od])=G∧G.at' h.next=some (.row [td,od])∧h.next<G.next:=⟨_,rfl,zJ _ _ _,by rw[zD];omega⟩;rw[hG] at hst;generalize h.next=n1 at *
  have hfin:∃td od n1_1 y,D.ptr n1 0=D.ptr n1_1 0∧G.at' n1_1=some (.row [td,od])∧n1_1<G.next∧CIn c fs y (.agg [ca,cb,ce,cp]) x (.agg [td,od])∧zl c fs y false=0∧td=nd 1 (yJ y.ts)∧od=nd 1 (yP y.own)∧TpA y:=⟨td,od,n1,y,rfl,hGr,hGn,I,e1,htd.symm,hod.symm,htp⟩;clear htd hod hnt hy hk hrem hkk hG e0 m0 hc hs hcl I e1 F1 F2 htp hGr hGn
  repeat' first|simp only[go_sem,mu4, *]|apply bc<;>intro hc
 rintro fr h ⟨td,od,n1,y,f3,f4,f5,f10,f11,hGr,hGn,I,e1,htd,hod,htp⟩;clear hnt hk hrem hkk e0 m0 hF hok hok1;have ysm:=I.ysm;have clA:∀h,zA Tryz.prog 21 [td] h (CL h (y.ts.map Alt.d) y.ts.length):=fun h=>by rw[htd];exact zU7 ysm.tl h
 have clB:∀h,zA Tryz.prog 22 [od] h (CL h (y.own.map D.str) y.own.length):=fun h=>by rw[hod];exact zU8 ysm.ol h
 have ftd:td.flat=true:=by rw[htd];exact(zK (zLX (sz:=1))).2.2
 have fod:od.flat=true:=by rw[hod];exact(zK (zLX (sz:=1))).2.2
 repeat' first|simp only[go_sem,mu4,zAX, *]|apply bc<;>intro hc
 have eh:HLe (Heap.one n1 (.row [td,od])) h:=by rw[wx];exact hGr
 refine zUB (Heap.one n1 (.row [td,od])) (fun fr h=>∃n2,fr 3=op∧fr 4= .iptr [ca,cb,ce,cp] 0∧fr 5= .iptr [x] 0∧fr 10= .int .i64 0∧fr 11= .ptr n1 0∧fr 12= .ptr n2 0∧P9 y n1 td od h n2) rfl eh ?_ ?_
 ·have h1at:=zYV n1 (.row [td,od]);have hz:(Heap.one n1 (.row [td,od])).at' n1=some (.row [td,od]):=h1at;clear h1at I e1 htd hod htp hop hlo hcl hxc hc hs hx
  repeat' first|simp only[go_sem,mu4,tr9, *]|apply bc<;>intro hc
  refine And.intro (And.intro ?_ ?_) ?_
  ·repeat' first|simp only[go_sem,mu4, *]|apply bc<;>intro hc
   refine(clA _).mono ?_;rintro rA h1 cA;have gA:=cA.grow;have lA:=cA.slo;have gA1:=gA.1;have ltA:=lA.lt;have eh1:=gA.one (by omega) eh;refine And.intro eh1 (And.intro ?_ ?_)
   ·repeat' first|simp only[go_sem,mu4, *]|apply bc<;>intro hc
    refine(clB _).mono ?_;rintro rB h2 cB;have gB:=cB.grow;have lB:=cB.slo;have gB1:=gB.1;have ltB:=lB.lt;have eh2:=gB.one (by omega) eh1;refine And.intro eh2 ?_;obtain⟨n2,hn2⟩:∃n,h2.next=n:=⟨_,rfl⟩;obtain⟨h3,hC,gC,tC,nC⟩:∃q,h2.new n2 (.row [.nilsl, .nilsl])=q∧zI8 h2 q∧q.at' n2=some (.row [.nilsl, .nilsl])∧n2<q.next:=⟨_,rfl,by rw[←hn2];exact zI8.new _ _,zJ _ _ _,by rw[←hn2,zD];omega⟩;have gC1:=gC.1;have eh3:=gC.one (by omega) eh2;have sA:=lA.grow (gB.trans gC);have sB:=lB.grow gC;have tn:h3.at' n2=some (.row [.nilsl, .nilsl]):=tC
    have t1:h3.at' n1=some (.row [td,od]):=by rw[wx] at eh3;exact eh3
    have h12:n1≠n2:=by omega
    have hP:=zb6 t1 h12 sA sB (by omega) (by omega) (by omega);have hst:zU Tryz.prog 42 (.ptr n2 0) (.agg [rA,rB]) h3=some (h3.set n2 (.row [rA,rB])):=yD tn zD0 rfl (by simp) (by show(rA.flat&&(rB.flat&&true))=true;rw[sA.flat,sB.flat];rfl);have e4:HLe (Heap.one n1 (.row [td,od])) (h3.set n2 (.row [rA,rB])):=by rw[wx,zE h12];exact t1
    have hfin:∃n2_1,D.ptr n2 0=D.ptr n2_1 0∧P9 y n1 td od (h3.set n2 (.row [rA,rB])) n2_1:=⟨n2,rfl,hP⟩;have hvb:=zKB sA sB;clear hP sA sB t1 tn
    repeat' first|simp only[go_sem,mu4, *]|apply bc<;>intro hc
   ·obtain⟨n2,hn2⟩:∃n,h1.next=n:=⟨_,rfl⟩;obtain⟨h2,hC,gC,tC,nC⟩:∃q,h1.new n2 (.row [.nilsl, .nilsl])=q∧zI8 h1 q∧q.at' n2=some (.row [.nilsl, .nilsl])∧n2<q.next:=⟨_,rfl,by rw[←hn2];exact zI8.new _ _,zJ _ _ _,by rw[←hn2,zD];omega⟩;have gC1:=gC.1;have eh2:=gC.one (by omega) eh1
    repeat' first|simp only[go_sem,mu4, *]|apply bc<;>intro hc
    refine(clB _).mono ?_;rintro rB h3 cB;have gB:=cB.grow;have lB:=cB.slo;have gB1:=gB.1;have ltB:=lB.lt;have eh3:=gB.one (by omega) eh2;refine And.intro eh3 ?_;have sA:=lA.grow (gC.trans gB);have sB:=lB;have tn:h3.at' n2=some (.row [.nilsl, .nilsl]):=by rw[gB.2 n2 nC];exact tC
    have t1:h3.at' n1=some (.row [td,od]):=by rw[wx] at eh3;exact eh3
    have h12:n1≠n2:=by omega
    have hP:=zb6 t1 h12 sA sB (by omega) (by omega) (by omega);have hst:zU Tryz.prog 42 (.ptr n2 0) (.agg [rA,rB]) h3=some (h3.set n2 (.row [rA,rB])):=yD tn zD0 rfl (by simp) (by show(rA.flat&&(rB.flat&&true))=true;rw[sA.flat,sB.flat];rfl);have e4:HLe (Heap.one n1 (.row [td,od])) (h3.set n2 (.row [rA,rB])):=by rw[wx,zE h12];exact t1
    have hfin:∃n2_1,D.ptr n2 0=D.ptr n2_1 0∧P9 y n1 td od (h3.set n2 (.row [rA,rB])) n2_1:=⟨n2,rfl,hP⟩;have hvb:=zKB sA sB;clear hP sA sB t1 tn
    repeat' first|simp only[go_sem,mu4, *]|apply bc<;>intro hc
  ·repeat' first|simp only[go_sem,mu4, *]|apply bc<;>intro hc
   refine(clB _).mono ?_;rintro rB h1 cB;have gB:=cB.grow;have lB:=cB.slo;have gB1:=gB.1;have ltB:=lB.lt;have eh1:=gB.one (by omega) eh;refine And.intro eh1 (And.intro ?_ ?_)
   ·repeat' first|simp only[go_sem,mu4, *]|apply bc<;>intro hc
    refine(clA _).mono ?_;rintro rA h2 cA;have gA:=cA.grow;have lA:=cA.slo;have gA1:=gA.1;have ltA:=lA.lt;have eh2:=gA.one (by omega) eh1;refine And.intro eh2 ?_;obtain⟨n2,hn2⟩:∃n,h2.next=n:=⟨_,rfl⟩;obtain⟨h3,hC,gC,tC,nC⟩:∃q,h2.new n2 (.row [.nilsl, .nilsl])=q∧zI8 h2 q∧q.at' n2=some (.row [.nilsl, .nilsl])∧n2<q.next:=⟨_,rfl,by rw[←hn2];exact zI8.new _ _,zJ _ _ _,by rw[←hn2,zD];omega⟩;have gC1:=gC.1;have eh3:=gC.one (by omega) eh2;have sA:=lA.grow gC;have sB:=lB.grow (gA.trans gC);have tn:h3.at' n2=some (.row [.nilsl, .nilsl]):=tC
    have t1:h3.at' n1=some (.row [td,od]):=by rw[wx] at eh3;exact eh3
    have h12:n1≠n2:=by omega
    have hP:=zb6 t1 h12 sA sB (by omega) (by omega) (by omega);have hst:zU Tryz.prog 42 (.ptr n2 0) (.agg [rA,rB]) h3=some (h3.set n2 (.row [rA,rB])):=yD tn zD0 rfl (by simp) (by show(rA.flat&&(rB.flat&&true))=true;rw[sA.flat,sB.flat];rfl);have e4:HLe (Heap.one n1 (.row [td,od])) (h3.set n2 (.row [rA,rB])):=by rw[wx,zE h12];exact t1
    have hfin:∃n2_1,D.ptr n2 0=D.ptr n2_1 0∧P9 y n1 td od (h3.set n2 (.row [rA,rB])) n2_1:=⟨n2,rfl,hP⟩;have hvb:=zKB sA sB;clear hP sA sB t1 tn
    repeat' first|simp only[go_sem,mu4, *]|apply bc<;>intro hc
   ·obtain⟨n2,hn2⟩:∃n,h1.next=n:=⟨_,rfl⟩;obtain⟨h2,hC,gC,tC,nC⟩:∃q,h1.new n2 (.row [.nilsl, .nilsl])=q∧zI8 h1 q∧q.at' n2=some (.row [.nilsl, .nilsl])∧n2<q.next:=⟨_,rfl,by rw[←hn2];exact zI8.new _ _,zJ _ _ _,by rw[←hn2,zD];omega⟩;have gC1:=gC.1;have eh2:=gC.one (by omega) eh1
    repeat' first|simp only[go_sem,mu4, *]|apply bc<;>intro hc
    refine(clA _).mono ?_;rintro rA h3 cA;have gA:=cA.grow;have lA:=cA.slo;have gA1:=gA.1;have ltA:=lA.lt;have eh3:=gA.one (by omega) eh2;refine And.intro eh3 ?_;have sA:=lA;have sB:=lB.grow (gC.trans gA);have tn:h3.at' n2=some (.row [.nilsl, .nilsl]):=by rw[gA.2 n2 nC];exact tC
    have t1:h3.at' n1=some (.row [td,od]):=by rw[wx] at eh3;exact eh3
    have h12:n1≠n2:=by omega
    have hP:=zb6 t1 h12 sA sB (by omega) (by omega) (by omega);have hst:zU Tryz.prog 42 (.ptr n2 0) (.agg [rA,rB]) h3=some (h3.set n2 (.row [rA,rB])):=yD tn zD0 rfl (by simp) (by show(rA.flat&&(rB.flat&&true))=true;rw[sA.flat,sB.flat];rfl);have e4:HLe (Heap.one n1 (.row [td,od])) (h3.set n2 (.row [rA,rB])):=by rw[wx,zE h12];exact t1
    have hfin:∃n2_1,D.ptr n2 0=D.ptr n2_1 0∧P9 y n1 td od (h3.set n2 (.row [rA,rB])) n2_1:=⟨n2,rfl,hP⟩;have hvb:=zKB sA sB;clear hP sA sB t1 tn
    repeat' first|simp only[go_sem,mu4, *]|apply bc<;>intro hc
  ·obtain⟨n2,hn2⟩:∃n,h.next=n:=⟨_,rfl⟩;obtain⟨h1,hC,gC,tC,nC⟩:∃q,h.new n2 (.row [.nilsl, .nilsl])=q∧zI8 h q∧q.at' n2=some (.row [.nilsl, .nilsl])∧n2<q.next:=⟨_,rfl,by rw[←hn2];exact zI8.new _ _,zJ _ _ _,by rw[←hn2,zD];omega⟩;have gC1:=gC.1;have eh1:=gC.one (by omega) eh
   repeat' first|simp only[go_sem,mu4, *]|apply bc<;>intro hc
   refine And.intro ?_ ?_
   ·repeat' first|simp only[go_sem,mu4, *]|apply bc<;>intro hc
    refine(clA _).mono ?_;rintro rA h2 cA;have gA:=cA.grow;have lA:=cA.slo;have gA1:=gA.1;have ltA:=lA.lt;have eh2:=gA.one (by omega) eh1;refine And.intro eh2 ?_
    repeat' first|simp only[go_sem,mu4, *]|apply bc<;>intro hc
    refine(clB _).mono ?_;rintro rB h3 cB;have gB:=cB.grow;have lB:=cB.slo;have gB1:=gB.1;have ltB:=lB.lt;have eh3:=gB.one (by omega) eh2;refine And.intro eh3 ?_;have sA:=lA.grow gB;have sB:=lB;have tn:h3.at' n2=some (.row [.nilsl, .nilsl]):=by rw[(gA.trans gB).2 n2 nC];exact tC
    have t1:h3.at' n1=some (.row [td,od]):=by rw[wx] at eh3;exact eh3
    have h12:n1≠n2:=by omega
    have hP:=zb6 t1 h12 sA sB (by omega) (by omega) (by omega);have hst:zU Tryz.prog 42 (.ptr n2 0) (.agg [rA,rB]) h3=some (h3.set n2 (.row [rA,rB])):=yD tn zD0 rfl (by simp) (by show(rA.flat&&(rB.flat&&true))=true;rw[sA.flat,sB.flat];rfl);have e4:HLe (Heap.one n1 (.row [td,od])) (h3.set n2 (.row [rA,rB])):=by rw[wx,zE h12];exact t1
    have hfin:∃n2_1,D.ptr n2 0=D.ptr n2_1 0∧P9 y n1 td od (h3.set n2 (.row [rA,rB])) n2_1:=⟨n2,rfl,hP⟩;have hvb:=zKB sA sB;clear hP sA sB t1 tn
    repeat' first|simp only[go_sem,mu4, *]|apply bc<;>intro hc
   ·repeat' first|simp only[go_sem,mu4, *]|apply bc<;>intro hc
    refine(clB _).mono ?_;rintro rB h2 cB;have gB:=cB.grow;have lB:=cB.slo;have gB1:=gB.1;have ltB:=lB.lt;have eh2:=gB.one (by omega) eh1;refine And.intro eh2 ?_
    repeat' first|simp only[go_sem,mu4, *]|apply bc<;>intro hc
    refine(clA _).mono ?_;rintro rA h3 cA;have gA:=cA.grow;have lA:=cA.slo;have gA1:=gA.1;have ltA:=lA.lt;have eh3:=gA.one (by omega) eh2;refine And.intro eh3 ?_;have sA:=lA;have sB:=lB.grow gA;have tn:h3.at' n2=some (.row [.nilsl, .nilsl]):=by rw[(gB.trans gA).2 n2 nC];exact tC
    have t1:h3.at' n1=some (.row [td,od]):=by rw[wx] at eh3;exact eh3
    have h12:n1≠n2:=by omega
    have hP:=zb6 t1 h12 sA sB (by omega) (by omega) (by omega);have hst:zU Tryz.prog 42 (.ptr n2 0) (.agg [rA,rB]) h3=some (h3.set n2 (.row [rA,rB])):=yD tn zD0 rfl (by simp) (by show(rA.flat&&(rB.flat&&true))=true;rw[sA.flat,sB.flat];rfl);have e4:HLe (Heap.one n1 (.row [td,od])) (h3.set n2 (.row [rA,rB])):=by rw[wx,zE h12];exact t1
    have hfin:∃n2_1,D.ptr n2 0=D.ptr n2_1 0∧P9 y n1 td od (h3.set n2 (.row [rA,rB])) n2_1:=⟨n2,rfl,hP⟩;have hvb:=zKB sA sB;clear hP sA sB t1 tn
    repeat' first|simp only[go_sem,mu4, *]|apply bc<;>intro hc
 clear clA clB f3 f4 f5 f10 f11 hGr hGn eh;rintro fr h ⟨n2,f3,f4,f5,f10,f11,f12,tz,oz,a,b,D9,t1,t2,mA,mB⟩;have hL:L9 y n1 n2 td od tz oz a b h:=⟨y.ts,y.own,Gap.start,t1,t2,mA,mB⟩;clear t1 t2 mA mB
 repeat' first|simp only[go_sem,mu4,zAX, *]|apply bc<;>intro hc
 refine zF (fun i fr h=>fr 4= .iptr [ca,cb,ce,cp] 0∧fr 5= .iptr [x] 0∧fr 10= .int .i64 0∧fr 11= .ptr n1 0∧fr 12= .ptr n2 0∧fr 58=op∧fr 59= .int .i64 (ol.length:Int)∧fr 60= .int .i64 (i:Int)∧L9 y n1 n2 td od tz oz a b h) ol.length (by omega) ?_ ?_ ?_
 ·simp only[go_sem,mu4,true_and,and_true,Int.ofNat_zero,f3,f4,f5,f10,f11,f12,hL]
 ·clear f3 f4 f5 f10 f11 f12 hL;rintro i fr h hlt ec ew ⟨f4,f5,f10,f11,f12,f58,f59,f60,hL⟩;have hLL:=hL;obtain⟨T,O,S,t1,t2,mA,mB⟩:=hLL;have a1:=zXO hop hlt;obtain⟨o,ho⟩:∃o,ol[i]=o:=⟨_,rfl⟩;rw[ho] at a1;clear ho hop;have lT:=zbG mA;have lO:=zbH mB;have hTn:T.length≤1048576:=by rw[S.tl];exact ysm.tl
  have hOn:O.length≤1048576:=by rw[S.ol];exact ysm.ol
  have hin:i≤1048576:=by omega
  cases o with
  |false=>
   obtain⟨kk,hkk⟩:∃kk,IntKind.i64.wrap ((i:Int)- (T.length:Int))=kk:=⟨_,rfl⟩;clear S mA mB hTn hOn hin I e1 htd hod htp hcl hxc hc hs hx D9
   repeat' first|simp only[go_sem,mu4, *]|apply bc<;>intro hc
  |true=>
   by_cases iT:i<T.length
   ·have d1:decide ((i:Int)<(T.length:Int))=true:=decide_eq_true (by omega);obtain⟨q1,q2⟩:=mA.is iT;have ix:zS Tryz.prog 39 tz (.int .i64 (i:Int))=some (.ptr a i):=by
     have:=zh (P:=Tryz.prog) (sz:=1) (id:=a) qh zAF (k:= .i64) iT;rw[Nat.mul_one] at this;rw[q1];exact this
    have hst:=za (P:=Tryz.prog) (t:=62) (off:=i) (x:= .nilsl) q2 zAF (by rw[List.length_map];exact iT) rfl rfl;obtain⟨G,hG⟩:∃G,h.set a (.row ((T.map Alt.d).set i .nilsl))=G:=⟨_,rfl⟩;rw[hG] at hst;have u1:G.at' n1=some (.row [td,od]):=by rw[←hG,zE (Ne.symm D9.h2)];exact t1
    have u2:G.at' n2=some (.row [tz,oz]):=by rw[←hG,zE (Ne.symm D9.h3)];exact t2
    have hL2:L9 y n1 n2 td od tz oz a b G:=⟨T.set i zbE,O,S.setT i,u1,u2,by
     rw[List.map_set,List.length_set];exact .inr ⟨by omega,q1,by rw[←hG];exact zC _ _ _⟩,by rw[←hG];exact mB.set (Ne.symm D9.h6)⟩
    obtain⟨kk,hkk⟩:∃kk,(i:Int)- (T.length:Int)=kk:=⟨_,rfl⟩;have ewk:IntKind.i64.wrap ((i:Int)- (T.length:Int))=kk:=by rw[zV (by omega) (by omega)];exact hkk
    have d2:decide (kk≥0)=false:=decide_eq_false (by omega);clear hG hkk S mA mB hTn hOn hin I e1 htd hod htp hcl hxc hc hs hx D9 hL q1 q2 iT hlt
    repeat' first|simp only[go_sem,mu4, *]|apply bc<;>intro hc
   ·have d1:decide ((i:Int)<(T.length:Int))=false:=decide_eq_false (by omega);obtain⟨kk,hkk⟩:∃kk,i-T.length=kk:=⟨_,rfl⟩;have ewk:IntKind.i64.wrap ((i:Int)- (T.length:Int))=(kk:Int):=by rw[zV (by omega) (by omega)];omega
    have d2:decide ((kk:Int)≥0)=true:=decide_eq_true (by omega);by_cases iO:kk<O.length
    ·have d3:decide ((kk:Int)<(O.length:Int))=true:=decide_eq_true (by omega);obtain⟨q1,q2⟩:=mB.is iO;have ix:zS Tryz.prog 40 oz (.int .i64 (kk:Int))=some (.ptr b kk):=by
      have:=zh (P:=Tryz.prog) (sz:=1) (id:=b) yj zAh (k:= .i64) iO;rw[Nat.mul_one] at this;rw[q1];exact this
     have hst:=za (P:=Tryz.prog) (t:=9) (off:=kk) (x:= .str []) q2 zAh (by rw[List.length_map];exact iO) rfl rfl;obtain⟨G,hG⟩:∃G,h.set b (.row ((O.map D.str).set kk (.str [])))=G:=⟨_,rfl⟩;rw[hG] at hst;have u1:G.at' n1=some (.row [td,od]):=by rw[←hG,zE (Ne.symm D9.h4)];exact t1
     have u2:G.at' n2=some (.row [tz,oz]):=by rw[←hG,zE (Ne.symm D9.h5)];exact t2
     have hL2:L9 y n1 n2 td od tz oz a b G:=⟨T,O.set kk [],S.setO kk,u1,u2,by rw[←hG];exact mA.set D9.h6,by
      rw[List.map_set,List.length_set];exact .inr ⟨by omega,q1,by rw[←hG];exact zC _ _ _⟩⟩
     clear hG hkk S mA mB hTn hOn hin I e1 htd hod htp hcl hxc hc hs hx D9 hL q1 q2 iT iO hlt
     repeat' first|simp only[go_sem,mu4, *]|apply bc<;>intro hc
    ·have d3:decide ((kk:Int)<(O.length:Int))=false:=decide_eq_false (by omega);clear hkk S mA mB hTn hOn hin I e1 htd hod htp hcl hxc hc hs hx D9 iT iO hlt
     repeat' first|simp only[go_sem,mu4, *]|apply bc<;>intro hc
 ·clear f3 f4 f5 f10 f11 f12 hL;rintro fr h ec ⟨f4,f5,f10,f11,f12,f58,f59,f60,T,O,S,t1,t2,mA,mB⟩;have e2:=S.err (zGT e1);have CI:∀ {tf of:D},zX 1 (yJ T) tf→zX 1 (yP O) of→CIn c fs ⟨T,O⟩ (.agg [ca,cb,ce,cp]) x (.agg [tf,of]):=fun {tf of} h1 h2=>⟨I.cat,I.sm,I.x,I.len,I.few,I.ok,⟨tf,of,rfl,h1,h2⟩,S.sm ysm⟩;have hve:zF2 c fs ⟨T,O⟩ =if decide (((zXL c fs ⟨T,O⟩).length:Int)>1024)=true then 10 else 0:=by unfold zF2;rw[e2];rfl
  have htb:below 0 td:=by rw[htd];exact zIk (fun x hx=>by obtain⟨a,ha,rfl⟩:=List.mem_map.1 hx;exact(htp a ha).2.2.2) (zYf _)
  have hob:below 0 od:=by rw[hod];exact zIk qL (zYf _)
  have hac:below 0 (.sl 1 (yJ T) .no):=zIk (fun x hx=>by
   obtain⟨a,ha,rfl⟩:=List.mem_map.1 hx;obtain⟨i,hi⟩:=List.mem_iff_getElem?.1 ha;rcases S.ts i a hi with rfl|q
   ·exact⟨rfl,⟨trivial,trivial⟩,rfl⟩
   ·exact(htp a (List.mem_of_getElem? q)).2.2.2) (.inr rfl)
  have hcall:zA Tryz.prog 12 [.agg [ca,cb,ce,cp],x, .agg [tz,oz]] h fun r h'=>h'.at' n1=some (.row [td,od])∧∃l,r= .tuple [l, .int .i64 (zF2 c fs ⟨T,O⟩)]∧(zF2 c fs ⟨T,O⟩ =0→Fin 2 (zXL c fs ⟨T,O⟩) l):=
   zA.ms hcl hxc D9.h6 D9.h2 D9.h4 t1 ⟨htb,hob,trivial⟩ mA mB (zBi T) (zIC O) (List.length_map ..) (zq O) (zIM T).symm (zKA O).symm (zIl O) hac fun tf of h' k1 k2 k3=>(zIg (CI k1 k2) h').mono fun r h2 q=>by
    obtain⟨rfl,l,q1,q2,_⟩:=q;exact⟨k3,l,q1,q2⟩
  cases v1:decide (((zXL c fs ⟨T,O⟩).length:Int)>1024) with
  |true=>
   rw[v1,if_pos rfl] at hve;rw[hve] at hcall;clear hve v1 CI e2 htb hob hac mA mB S I e1 htd hod htp hcl hxc hc hs hx D9
   repeat' first|simp only[go_sem,mu4,zAX, *]|apply bc<;>intro hc
   refine hcall.mono ?_;rintro r h2 ⟨_,l,rfl,_⟩;clear hcall
   repeat' first|simp only[go_sem,mu4,zAX, *]|apply bc<;>intro hc
  |false=>
   rw[v1,if_neg (by simp)] at hve;rw[hve] at hcall;have hn1:(zCq c fs ⟨T,O⟩).length≤1024:=by have:=of_decide_eq_false v1;rw[zIh,zF3] at this;omega
   have hany:(zCq c fs ⟨T,O⟩).any (fun w=> !(zDT c fs y w==0))=false:=by
    rw[List.any_eq_false];intro w hw;rw[(zRq (zGT e1) w).2 (S.vios hw)];decide
   have hcf:=fun {l:D} {h2:Heap} (hl:zX 2 (vcs (zCq c fs ⟨T,O⟩)) l) (hr:h2.at' n1=some (.row [td,od]))=>zDS hl (by omega) (f:=23) (cap:=[.iptr [ca,cb,ce,cp] 0, .iptr [x] 0, .ptr n1 0]) (p:=fun w=> !(zDT c fs y w==0)) (g:=h2) fun w hw=>zRu I (zQg w hw) hr;rw[hany] at hcf;clear hve v1 CI e2 htb hob hac mA mB S e1 htd hod htp hcl hxc hc hs D9 hany hn1
   repeat' first|simp only[go_sem,mu4,zAX, *]|apply bc<;>intro hc
   refine hcall.mono ?_;rintro r h2 ⟨q1,l,rfl,q2⟩;have hls:=(q2 rfl).isSl;rw[zIh] at hls;have hcf:=hcf hls q1;have hwz:IntKind.i64.wrap ((0:Int)+0)=0:=rfl;clear hcall q2 hls I hx
   repeat' first|simp only[go_sem,mu4,zAX, *]|apply bc<;>intro hc|(refine zA.mono hcf ?_;rintro r h ⟨hq,rfl⟩)
end Go.V
