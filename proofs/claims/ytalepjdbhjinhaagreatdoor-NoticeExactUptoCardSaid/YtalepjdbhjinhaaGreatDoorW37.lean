/- Contracts of functions that the law reaches, part 2. No condition. -/
import Derived.Test.YtalepjdbhjinhaaGreatDoorW36
import Derived.Test.YtalepjdbhjinhaaGreatDoorW32
set_option linter.all false
namespace Go.V
open Go.Proofs
set_option maxRecDepth 100000
structure SA where
 M:KM Int
 O:KV
 outs:List (List UInt8)
def zFi (fs:List Fac) (i:Nat):Nat:=((fs.take i).filter fun f=>f.kind==1).length
def zHS (y:Cho) (k:Nat):Alt:=y.ts.getD k (mkA [])
def zTu (y:Cho) (k:Nat):List UInt8:=y.own.getD k []
def zX2 (y:Cho) (fs:List Fac) (i:Nat) (s:SA):SA:=match fs[i]? with
 |none=>s
 |some f=>if(f.kind==1)=true then(if decide (((zHS y (zFi fs i)).ts.length:Int)>0)=true then⟨zFK (i:Int) (zHS y (zFi fs i)).d s.M,s.O,s.outs⟩ else s)
  else if(f.kind==2)=true then(if(s.outs.any fun z=>z==f.out)=true then s else⟨s.M,if(!(zTu y s.outs.length== []))=true then zXL f.out (zTu y s.outs.length) s.O else s.O,s.outs++ [f.out]⟩) else s
def wb (y:Cho) (fs:List Fac):Nat→SA
 |0=>⟨[],[],[]⟩
 |i+1=>zX2 y fs i (wb y fs i)
section
variable {y:Cho} {fs:List Fac}
theorem zMR {i:Nat} (h:i<fs.length):wb y fs (i+1)=if(fs[i].kind==1)=true then(if decide (((zHS y (zFi fs i)).ts.length:Int)>0)=true then⟨zFK (i:Int) (zHS y (zFi fs i)).d (wb y fs i).M,(wb y fs i).O,(wb y fs i).outs⟩ else wb y fs i)
  else if(fs[i].kind==2)=true then(if((wb y fs i).outs.any fun z=>z==fs[i].out)=true then wb y fs i else⟨(wb y fs i).M,if(!(zTu y (wb y fs i).outs.length== []))=true then zXL fs[i].out (zTu y (wb y fs i).outs.length) (wb y fs i).O else(wb y fs i).O,(wb y fs i).outs++ [fs[i].out]⟩) else wb y fs i:=by
 show zX2 y fs i (wb y fs i)=_;unfold zX2;rw[List.getElem?_eq_getElem h]
theorem zLE {i:Nat} (h:i<fs.length):zFi fs (i+1)=zFi fs i+(if(fs[i].kind==1)=true then 1 else 0):=by
 unfold zFi;rw[List.take_succ_eq_append_getElem h,List.filter_append,List.length_append];congr 1;by_cases e:(fs[i].kind==1)=true<;>simp[e]
theorem zRz {i:Nat} :∀k,i+k≤fs.length→zFi fs i≤zFi fs (i+k)
 |0,_=>Nat.le_refl _
 |k+1,h=>by
  have ih:=zRz (i:=i) k (by omega);rw[←Nat.add_assoc,zLE (by omega)];omega
end
abbrev Due:=List UInt8×List UInt8×List UInt8×List UInt8×Int×Int×Int
def qB (x:Due):List D:=[.str x.1, .str x.2.1, .str x.2.2.1, .str x.2.2.2.1, .int .i64 x.2.2.2.2.1, .int .i64 x.2.2.2.2.2.1, .int .i64 x.2.2.2.2.2.2]
def zCS (c:Cat) (p:Fac×Int) (t:Trm):List Int:=(zAp c t.a t.b p.2 p.1.rel).map Cla.duty
def zG4 (comp:List UInt8) (p:Fac×Int) (t:Trm) (n:Int):List Due:=if(!(n==2)||p.1.chg)=true then [(p.1.out,comp,t.a,t.b,p.2,p.1.rel,n)] else []
def zO5 (c:Cat) (comp:List UInt8) (p:Fac×Int) (t:Trm):List Due:=(zCS c p t).flatMap (zG4 comp p t)
def zNt (c:Cat) (comp:List UInt8) (ts:List Trm) (p:Fac×Int):List Due:=ts.flatMap (zO5 c comp p)
def zOr (c:Cat) (fs:List Fac) (y:Cho) (i:Nat):List Due:=match fs[i]? with
 |none=>[]
 |some f=>if(f.kind==1)=true then(ql fs f.comp).flatMap (zNt c f.comp (zHS y (zFi fs i)).ts) else []
def wa (c:Cat) (fs:List Fac) (y:Cho):List Due:=(List.range fs.length).flatMap (zOr c fs y)
def zcu (x:Due):List D:=[.agg (qB x)]
def zNu (x yd d:List D):D:= .fn (.func 92) [] [.iptr x 0, .iptr yd 0, .iptr d 0]
theorem zIM {fs:List Fac} {comp:List UInt8} {p:Fac×Int} (h:p∈ql fs comp):p.1∈fs:=by
 obtain⟨u,hu,h⟩:=List.mem_flatMap.1 h;unfold zAD at h;split at h
 ·obtain⟨s,_,h⟩:=List.mem_flatMap.1 h;unfold zAu at h;split at h
  ·cases List.mem_singleton.1 h;exact hu
  ·cases h
 ·cases h
set_option maxHeartbeats 16000000 in
theorem zX3 {c:Cat} {ca cb ce cp:D} (hc:qt c (.agg [ca,cb,ce,cp])) (sm:c.Sm) {fs:List Fac} {x:D} (hx:zV 12 (zJj fs) x) (hlen:fs.length≤1048576) (hok:∀f∈fs,f.Ok) {y:Cho} {ta oa:D} (ht:zV 1 (yW y.ts) ta) (ysm:y.Sm) (hly:zFi fs fs.length≤y.ts.length)
  {id:Nat} {Y:Nat→(Nat→Prop)→Heap→Prop} (yl:Yld Tryz.prog id (wa c fs y).length (zFL zcu (wa c fs y)) Y fun _ _=>False) {S:Nat→Prop} {w:Heap} (hY:Y 0 S w):
  zA Tryz.prog 92 [.yld id, .iptr [x] 0, .iptr [ta,oa] 0, .iptr [ca,cb,ce,cp] 0] w fun _ h'=>IY Y S w (wa c fs y).length h':=by
 have hll:=zD0 hx;obtain⟨x1,x2,_⟩:=zp hx;have hv4:∀a b c e:D,zW true 4 [a,b,c,e] 0=some (.agg [a,b,c,e]):=fun a b c e=>zB rfl (by omega);have ysl:=ysm.tl;refine zA.of_fn (g:=zQL) mix Tryz.func92 zgH rfl rfl ?_;simp only[Tryz.f92,gJ]
 repeat' first|simp only[go_sem,zI3, *]|apply bc<;>intro hc
 refine zC (fun i fr h'=>fr 1= .iptr [x] 0∧fr 2= .iptr [ta,oa] 0∧fr 3= .iptr [ca,cb,ce,cp] 0∧fr 4= .iptr [.yld id] 0∧fr 5= .int .i64 (zFi fs i:Int)∧fr 16=x∧fr 17= .int .i64 (fs.length:Int)∧fr 18= .int .i64 (i:Int)∧IY Y S w (yF (List.range fs.length) (zOr c fs y) i) h') fs.length (by omega) ?_ ?_ ?_
 ·have h0:IY Y S w (yF (List.range fs.length) (zOr c fs y) 0) w:=by rw[zAV];exact IY.start hY
  have l0:zFi fs 0=0:=rfl;simp only[go_sem,zI3,true_and,and_true,Int.ofNat_zero,h0,l0]
 ·rintro i fr h1 hlt e1 ew ⟨f1,f2,f3,f4,f5,f16,f17,f18,hI⟩;have a1:=zEc hx hlt;have hm:fs[i]∈fs:=List.getElem_mem hlt;have hgi:fs[i]? =some fs[i]:=List.getElem?_eq_getElem hlt;have hgr:(List.range fs.length)[i]? =some i:=by simp[hlt]
  have hw:zW true 12 fs[i].cells 0=some (.agg fs[i].cells):=zB rfl (by omega);have hst:=zH9 (hok _ hm) h1 h1.next;have hsu:=wt (f:=zOr c fs y) hgr;have hls:=zLE hlt;have hle:=zRz (fs:=fs) (i:=i+1) (fs.length- (i+1)) (by omega);rw[show i+1+(fs.length- (i+1))=fs.length by omega] at hle;have hdf:zOr c fs y i=if(fs[i].kind==1)=true then(ql fs fs[i].comp).flatMap (zNt c fs[i].comp (zHS y (zFi fs i)).ts) else []:=by unfold zOr;rw[hgi]
  generalize fs[i]=f at *
  have k0:f.cells[0]? =some (.int .i64 f.kind):=rfl;have k1:f.cells[1]? =some (.str f.comp):=rfl;obtain⟨G,hG,hGn,g1,hE⟩:=qk h1 (.row f.cells);rw[hG] at hst;have hIG:=hI.ext yl hE;cases hk:(f.kind==1) with
  |false=>
   rw[hk,if_neg (by decide)] at hls hdf;have hfin:IY Y S w (yF (List.range fs.length) (zOr c fs y) (i+1)) G:=by rw[hsu,hdf];exact hIG
   have hlz:zFi fs (i+1)=zFi fs i:=hls;clear hsu hls hdf hIG hI hgi hgr hE yl hok hle hly hm ht ysm sm hc
   repeat' first|simp only[go_sem,zI3, *]|apply bc<;>intro hc
  |true=>
   rw[hk,if_pos rfl] at hls hdf;have hkl:zFi fs i<y.ts.length:=by omega
   have a2:=zDE ht hkl;have hal:zHS y (zFi fs i)=y.ts[zFi fs i]:=by unfold zHS;rw[List.getD_eq_getElem?_getD,List.getElem?_eq_getElem hkl];rfl
   have hsA:=ysm.ts _ (List.getElem_mem hkl);rw[hal] at hdf;have ewl:IntKind.i64.wrap ((zFi fs i:Int)+1)=((zFi fs (i+1):Nat):Int):=by rw[zq (by omega) (by omega)];omega
   clear hal;generalize y.ts[zFi fs i]=a at *
   obtain⟨q1,q2,q3⟩:=zp hsA.sl;obtain⟨G2,hG2,hG2n,g2,hE2⟩:∃G2,G.new (h1.next+1) (.row [a.d])=G2∧G2.next=h1.next+2∧G2.at' (h1.next+1)=some (.row [a.d])∧Ext G G2:=by
    have:=qk G (.row [a.d]);rw[hGn] at this;exact this
   have hst2:zX Tryz.prog 168 (.ptr (h1.next+1) 0) a.d (G.new (h1.next+1) (.row [.nilsl]))=some G2:=by
    rw[zT (zM _ _ _) wG (by simp) q1 q3,zA3,←hG2];rfl
   have g3:G2.at' h1.next=some (.row f.cells):=by rw[hE2.2 _ (by omega)];exact g1
   have hcp:=zOq hx f.comp;obtain⟨S1,hY1,c1,c2,c3,back⟩:=hI.cut yl (hE.trans hE2);obtain⟨P1,hP1⟩:∃P,yF (List.range fs.length) (zOr c fs y) i=P:=⟨_,rfl⟩;have hend:∀ {h2:Heap},IY Y S1 G2 (P1+yF (ql fs f.comp) (zNt c f.comp a.ts) (ql fs f.comp).length) h2→IY Y S w (yF (List.range fs.length) (zOr c fs y) (i+1)) h2:=fun q=>by
    have:=back _ _ q;rw[zBS] at this;rw[hsu,hdf,hP1];exact this
   have hel0:∀ {q:Nat} {v:Due},((ql fs f.comp).flatMap (zNt c f.comp a.ts))[q]? =some v→(wa c fs y)[P1+q]? =some v:=fun {q v} hv=>by
    rw[←hP1];exact zOp hgr (by rw[hdf];exact hv)
   rw[hP1] at hY1;clear hsu hls hdf hIG hI hgi hgr hle hly hm ht ysm back hP1 hE hE2 c1 c3
   repeat' first|simp only[go_sem,zI3,zJZ, *]|apply bc<;>intro hc|(refine zA.mono (hcp _) ?_;rintro r h ⟨hq,rfl⟩)
   subst hq
   rename Heap=>G2
   generalize hL:LRec.mk _ _ _ _ _ _ _=L;have hpe:L.pending=none:=by rw[←hL]
   have hrd:L.st= .ready:=by rw[←hL]
   have hYl:Lcl fun k=>Y (P1+yF (ql fs f.comp) (zNt c f.comp a.ts) k):=⟨fun k=>yl.here _,fun k=>yl.loc _⟩;refine zNs (W:=WK h1.next (.row f.cells) (h1.next+1) (.row [a.d]) fun k=>Y (P1+yF (ql fs f.comp) (zNt c f.comp a.ts) k)) (n:=(ql fs f.comp).length) (el:=zFL zX1 (ql fs f.comp)) (S:=fun j=>j=h1.next∨j=h1.next+1∨S1 j) hG2n (WK.lcl hYl) hrd hpe ?_ (fun yl2 hY0=>zMQ hx hlen hok f.comp yl2 hY0) ?_ ?_
   ·exact WK.start (by rw[zAV,Nat.add_zero];exact hY1) (by omega) (by omega) g3 g2 (c2 _ (Nat.le_refl _)) (c2 _ (by omega))
   ·intro k S0 h3 hk3 hid3 hl3 hw3 hn3;obtain⟨⟨u,wy⟩,hp⟩:∃p,(ql fs f.comp)[k]? =some p:=⟨_,List.getElem?_eq_getElem hk3⟩;have hgp:zFL zX1 (ql fs f.comp) k= [.agg u.cells, .int .i64 wy]:=by unfold zFL;rw[hp];rfl
    rw[hgp];have hum:u∈fs:=zIM (List.mem_of_getElem? hp);have hl3':=hl3;rw[←hL] at hl3';have hst7:=zH9 (hok _ hum) h3 h3.next;clear hst hst2 a1 a2 hcp;refine qR.round (g:=zQL) mix hl3' rfl (by kernel_rfl) (by kernel_rfl) (by kernel_rfl) ?_;simp only[go_sem,zI3,hst7];refine⟨by rw[zK (by omega)];exact hl3',?_⟩;generalize hB:LRec.mk .busy _ _ _ _ _ _=B;have hLB:({ B with st:= .ready,pending:=none } :LRec)=L:=by rw[←hB,←hL]
    obtain⟨S2,H,hHe,hHn,hrow,hHi,hbH,hwH,hHH,hw2⟩:=Lp.open hYl hw3 hid3 hn3 (.row u.cells) B;rw[hHe];have nA:¬S2 h1.next:=hw2.2.2.2.1.1;have nU:¬S2 h3.next:=fun e=>Nat.lt_irrefl _ (hYl.here _ _ _ hw2.1 _ e);obtain⟨⟨hA1,hA2⟩,hl1,hl2⟩:=hHH;have hlt3:=hw2.2.1.1;obtain⟨P0,hP0⟩:∃P,P1+yF (ql fs f.comp) (zNt c f.comp a.ts) k=P:=⟨_,rfl⟩;have hel1:∀ {q:Nat} {v:Due},(zNt c f.comp a.ts (u,wy))[q]? =some v→(wa c fs y)[P0+q]? =some v:=fun {q v} hv=>by
     rw[←hP0,Nat.add_assoc];exact hel0 (zOp hp hv)
    have hsP:P1+yF (ql fs f.comp) (zNt c f.comp a.ts) (k+1)=P0+(zNt c f.comp a.ts (u,wy)).length:=by
     rw[←hP0,wt hp,Nat.add_assoc]
    have hI0:IY Y S2 H (P0+yF a.ts (zO5 c f.comp (u,wy)) 0) H:=by rw[zAV,Nat.add_zero,←hP0];exact IY.start hwH
    have hlt:=wC hsA.sl;have hal:=hsA.len;clear hst7 hHe hB hend hel0 hwH hP0 hgp hp hw hw3
    repeat' first|simp only[go_sem,zI3, *]|apply bc<;>intro hc
    refine zC (fun j fr h'=>fr 3= .iptr [ca,cb,ce,cp] 0∧fr 4= .iptr [.yld id] 0∧fr 7= .ptr h1.next 0∧fr 9= .ptr h3.next 0∧fr 10= .int .i64 wy∧fr 38=a.d∧fr 39= .int .i64 (a.ts.length:Int)∧fr 40= .int .i64 (j:Int)∧IY Y S2 H (P0+yF a.ts (zO5 c f.comp (u,wy)) j) h') a.ts.length (by omega) ?_ ?_ ?_
    ·simp only[go_sem,zI3,true_and,and_true,Int.ofNat_zero,f3,f4,hI0]
    ·clear f1 f2 f3 f4 f5 f16 f17 f18 hI0;rintro j fr2 h2 hltj e2 ew2 ⟨f3,f4,f7,f9,f10,f38,f39,f40,hI2⟩;have b1:zQ Tryz.prog 168 a.d (.int .i64 (j:Int))=some (.iptr [.str a.ts[j].a, .str a.ts[j].b] 0):=zCK hsA.sl hltj;have hgj:a.ts[j]? =some a.ts[j]:=List.getElem?_eq_getElem hltj;have hsv:=wt (f:=zO5 c f.comp (u,wy)) hgj;have hel2:∀ {q:Nat} {v:Due},(zO5 c f.comp (u,wy) a.ts[j])[q]? =some v→(wa c fs y)[P0+yF a.ts (zO5 c f.comp (u,wy)) j+q]? =some v:=fun {q v} hv=>by
      rw[Nat.add_assoc];exact hel1 (zOp hgj hv)
     generalize a.ts[j]=z at *
     have hst8:zX Tryz.prog 51 (.ptr h2.next 0) (.agg [.str z.a, .str z.b]) (h2.new h2.next (.row [.str [], .str []]))=some (h2.new h2.next (.row [.str z.a, .str z.b])):=zj wL (by omega) rfl rfl rfl;obtain⟨G3,hG3,hG3n,r1,hE3⟩:=qk h2 (.row [.str z.a, .str z.b]);rw[hG3] at hst8;have hle2:=hI2.le;obtain⟨S3,hY3,d1,d2,d3,back3⟩:=hI2.cut yl hE3;have rA:G3.at' h1.next=some (.row f.cells):=by rw[d3 _ hl1 nA];exact hA1
     have rU:G3.at' h3.next=some (.row u.cells):=by rw[d3 _ (by omega) nU];exact hrow
     have hcl:=fun g=>zRT hc sm z.a z.b wy u.rel g;have hv2:∀a b:D,zW true 2 [a,b] 0=some (.agg [a,b]):=fun a b=>zB rfl (by omega);have u3:u.cells[3]? =some (.int .i64 u.rel):=rfl;have u2:u.cells[2]? =some (.str u.out):=rfl;have u6:u.cells[6]? =some (.bool u.chg):=rfl;obtain⟨P2,hP2⟩:∃P,P0+yF a.ts (zO5 c f.comp (u,wy)) j=P:=⟨_,rfl⟩;have hend2:∀ {h5:Heap},IY Y S3 G3 (P2+(zO5 c f.comp (u,wy) z).length) h5→IY Y S2 H (P0+yF a.ts (zO5 c f.comp (u,wy)) (j+1)) h5:=fun q=>by
      have:=back3 _ _ q;rw[hsv,←Nat.add_assoc,hP2];exact this
     rw[hP2] at hY3 hel2;clear hsv hP2 hI2 back3 hgj
     repeat' first|simp only[go_sem,zI3, *]|apply bc<;>intro hc
     refine(hcl _).mono ?_;rintro r H2 ⟨hq2,cs,hcs,hfine,hkey⟩;subst hq2;have hlc:=zCc hcs;have hcl0:cs.length≤1048576:=by
      have:=congrArg List.length hkey;simp only[List.length_map] at this;have h2:(zAp c z.a z.b wy u.rel).length≤c.cs.length:=by
       unfold zAp;split
       ·simp
       ·exact List.length_filter_le _ _
      have:=sm.cs.1;omega
     have hdu:zCS c (u,wy) z=cs.map Cla.duty:=by
      have:=congrArg (List.map fun k=>k.2.2.2.1) hkey;rw[List.map_map,List.map_map] at this;exact this.symm
     have hI0:IY Y S3 H2 (P2+yF (zCS c (u,wy) z) (zG4 f.comp (u,wy) z) 0) H2:=by rw[zAV,Nat.add_zero];exact IY.start hY3
     clear hkey hcl hst8 hY3
     repeat' first|simp only[go_sem,zI3, *]|apply bc<;>intro hc
     refine zC (fun b fr h'=>fr 3= .iptr [ca,cb,ce,cp] 0∧fr 4= .iptr [.yld id] 0∧fr 7= .ptr h1.next 0∧fr 9= .ptr h3.next 0∧fr 10= .int .i64 wy∧fr 12= .ptr h2.next 0∧fr 38=a.d∧fr 39= .int .i64 (a.ts.length:Int)∧fr 40= .int .i64 (j:Int)∧fr 49=r∧fr 50= .int .i64 (cs.length:Int)∧fr 51= .int .i64 (b:Int)∧IY Y S3 H2 (P2+yF (zCS c (u,wy) z) (zG4 f.comp (u,wy) z) b) h') cs.length (by omega) ?_ ?_ ?_
     ·simp only[go_sem,zI3,true_and,and_true,Int.ofNat_zero,f3,f4,f7,f9,f10,f38,f39,f40,hI0]
     ·clear f3 f4 f7 f9 f10 f38 f39 f40 hI0 hend2;rintro b fr4 h4 hltb e4 ew4 ⟨f3,f4,f7,f9,f10,f12,f38,f39,f40,f49,f50,f51,hI4⟩;have b2:=zDA hcs hltb;have hyf:=hfine _ (List.getElem_mem hltb);have hgb:(zCS c (u,wy) z)[b]? =some cs[b].duty:=by
       rw[hdu,List.getElem?_map,List.getElem?_eq_getElem hltb];rfl
      have hsw:=wt (f:=zG4 f.comp (u,wy) z) hgb;have hel3:∀ {v:Due},zG4 f.comp (u,wy) z cs[b].duty= [v]→(wa c fs y)[P2+yF (zCS c (u,wy) z) (zG4 f.comp (u,wy) z) b]? =some v:=fun {v} hv=>hel2 (by
       have:=zOp (f:=zG4 f.comp (u,wy) z) (q:=0) hgb (by rw[hv];rfl)
       rwa [Nat.add_zero] at this)
      generalize cs[b]=e at *
      have hst9:zX Tryz.prog 143 (.ptr h4.next 0) (.agg e.cells) (h4.new h4.next (.row [.str [], .int .i64 0, .int .i64 0, .int .i64 0, .nilsl]))=some (h4.new h4.next (.row e.cells)):=zj zCC (by omega) rfl rfl (by show(true&&(true&&(true&&(true&&(e.d.flat&&true)))))=true;rw[zA4 hyf.1.isSl];rfl);have hvy:zW true 5 e.cells 0=some (.agg e.cells):=zB rfl (by omega);have ky:e.cells[3]? =some (.int .i64 e.duty):=rfl;obtain⟨G4,hG4,hG4n,s1,hE4⟩:=qk h4 (.row e.cells);rw[hG4] at hst9
      obtain⟨G5,hG5,hG5n,s2,hE5⟩:∃G5,G4.new (h4.next+1) (.row [.str u.out, .str f.comp, .str z.a, .str z.b, .int .i64 wy, .int .i64 u.rel, .int .i64 e.duty])=G5∧G5.next=h4.next+2∧G5.at' (h4.next+1)=some (.row [.str u.out, .str f.comp, .str z.a, .str z.b, .int .i64 wy, .int .i64 u.rel, .int .i64 e.duty])∧Ext G4 G5:=by
       have:=qk G4 (.row [.str u.out, .str f.comp, .str z.a, .str z.b, .int .i64 wy, .int .i64 u.rel, .int .i64 e.duty]);rw[hG4n] at this;exact this
      have le4:=hI4.le;have rA4:G4.at' h1.next=some (.row f.cells):=by rw[hE4.2 _ (by omega),hI4.at (by omega) (d1 _ hl1 nA)];exact rA
      have rU4:G4.at' h3.next=some (.row u.cells):=by rw[hE4.2 _ (by omega),hI4.at (by omega) (d1 _ (by omega) nU)];exact rU
      have rT4:G4.at' h2.next=some (.row [.str z.a, .str z.b]):=by rw[hE4.2 _ (by omega),hI4.at (by omega) (d2 _ (Nat.le_refl _))];exact r1
      have s15:G5.at' h4.next=some (.row e.cells):=by rw[hE5.2 _ (by omega)];exact s1
      have rU5:G5.at' h3.next=some (.row u.cells):=by rw[hE5.2 _ (by omega)];exact rU4
      have hvb:yc Tryz.prog 53 [(0, .str u.out),(1, .str f.comp),(2, .agg [.str z.a, .str z.b]),(3, .int .i64 wy),(4, .int .i64 u.rel),(5, .int .i64 e.duty)]=some (.agg [.str u.out, .str f.comp, .str z.a, .str z.b, .int .i64 wy, .int .i64 u.rel, .int .i64 e.duty]):=by simp[yc,zOP,zIx,wO,yu,D.notTuple,D.cells]
      have hstD:zX Tryz.prog 53 (.ptr (h4.next+1) 0) (.agg [.str u.out, .str f.comp, .str z.a, .str z.b, .int .i64 wy, .int .i64 u.rel, .int .i64 e.duty]) (G4.new (h4.next+1) (.row [.str [], .str [], .str [], .str [], .int .i64 0, .int .i64 0, .int .i64 0]))=some G5:=by
       rw[zj zCB (by omega) rfl rfl rfl,hG5]
      have hvD:zW true 7 [.str u.out, .str f.comp, .str z.a, .str z.b, .int .i64 wy, .int .i64 u.rel, .int .i64 e.duty] 0=some (.agg [.str u.out, .str f.comp, .str z.a, .str z.b, .int .i64 wy, .int .i64 u.rel, .int .i64 e.duty]):=zB rfl (by omega);have hI5:=hI4.ext yl (hE4.trans hE5)
      have hyes:zG4 f.comp (u,wy) z e.duty= [(u.out,f.comp,z.a,z.b,wy,u.rel,e.duty)]→(wa c fs y)[P2+yF (zCS c (u,wy) z) (zG4 f.comp (u,wy) z) b]? =some (u.out,f.comp,z.a,z.b,wy,u.rel,e.duty)∧∀ {h6:Heap},IY Y S3 H2 (P2+yF (zCS c (u,wy) z) (zG4 f.comp (u,wy) z) b+1) h6→IY Y S3 H2 (P2+yF (zCS c (u,wy) z) (zG4 f.comp (u,wy) z) (b+1)) h6:=fun hv=>⟨hel3 hv,fun q=>by
       rw[hsw,hv];exact q⟩
      have hno:zG4 f.comp (u,wy) z e.duty= []→IY Y S3 H2 (P2+yF (zCS c (u,wy) z) (zG4 f.comp (u,wy) z) (b+1)) G5:=fun hv=>by
       rw[hsw,hv];exact hI5
      have hgo:=fun {v:Due} (hv:(wa c fs y)[P2+yF (zCS c (u,wy) z) (zG4 f.comp (u,wy) z) b]? =some v)=>hI5.go yl hv;clear hsw hel3 hgb hel2 hel1 hI4 hI5 hE4 hE5 hG5 hdu hfine hcs hyf d1 d2 d3 yl hHi hbH hw2 hok hA1 hA2 rA rU hrow r1;cases hd2:(e.duty==2) with
      |false=>
       have hv:zG4 f.comp (u,wy) z e.duty= [(u.out,f.comp,z.a,z.b,wy,u.rel,e.duty)]:=by unfold zG4;rw[hd2];rfl
       have hgo:=hgo (hyes hv).1;have hfin4:=fun {h6:Heap} =>(hyes hv).2 (h6:=h6);clear hyes hno hv
       repeat' first|simp only[go_sem,zI3, *]|apply bc<;>intro hc
       refine hgo.mono ?_;rintro r5 h6 ⟨rfl,hI6⟩;have hfin:=hfin4 hI6;clear hgo hfin4 hI6
       repeat' first|simp only[go_sem,zI3, *]|apply bc<;>intro hc
      |true=>
       cases hch:u.chg with
       |true=>
        have hv:zG4 f.comp (u,wy) z e.duty= [(u.out,f.comp,z.a,z.b,wy,u.rel,e.duty)]:=by unfold zG4;rw[hd2,hch];rfl
        have hgo:=hgo (hyes hv).1;have hfin4:=fun {h6:Heap} =>(hyes hv).2 (h6:=h6);clear hyes hno hv
        repeat' first|simp only[go_sem,zI3, *]|apply bc<;>intro hc
        refine hgo.mono ?_;rintro r5 h6 ⟨rfl,hI6⟩;have hfin:=hfin4 hI6;clear hgo hfin4 hI6
        repeat' first|simp only[go_sem,zI3, *]|apply bc<;>intro hc
       |false=>
        have hfin:=hno (by unfold zG4;rw[hd2,hch];rfl);clear hgo hyes hno
        repeat' first|simp only[go_sem,zI3, *]|apply bc<;>intro hc
     ·clear f3 f4 f7 f9 f10 f38 f39 f40 hI0;rintro fr4 h5 e4 ⟨f3,f4,f7,f9,f10,f12,f38,f39,f40,f49,f50,f51,hI5⟩;have hfin:=hend2 (by
       rw[show(zO5 c f.comp (u,wy) z).length=yF (zCS c (u,wy) z) (zG4 f.comp (u,wy) z) cs.length from(by rw[show cs.length=(zCS c (u,wy) z).length by rw[hdu,List.length_map]];exact(zBS _ _).symm)]
       exact hI5)
      clear hend2 hI5 hdu
      repeat' first|simp only[go_sem,zI3, *]|apply bc<;>intro hc
    ·clear f1 f2 f3 f4 f5 f16 f17 f18 hI0 hel1;rintro fr2 h5 e2 ⟨f3,f4,f7,f9,f10,f38,f39,f40,S5,hs5,hb5,hw5⟩;have hw6:Y (P1+yF (ql fs f.comp) (zNt c f.comp a.ts) (k+1)) S5 h5:=by
      rw[hsP,show(zNt c f.comp a.ts (u,wy)).length=yF a.ts (zO5 c f.comp (u,wy)) a.ts.length from(zBS _ _).symm];exact hw5
     have hfin:∀fr,zEu (LpK (h1.next+2) L (WK h1.next (.row f.cells) (h1.next+1) (.row [a.d]) fun k=>Y (P1+yF (ql fs f.comp) (zNt c f.comp a.ts) k)) k S0 h3) (h1.next+2) .normal fr h5:=fun fr=>Lp.call hYl hLB hid3 hn3 hw2 hHi hbH hs5 hb5 hw6;clear hs5 hb5 hw5 hw6 hsP
     repeat' first|simp only[go_sem,zI3, *]|apply bc<;>intro hc
   ·intro S' h5 hs hb hw5;obtain⟨S5,hs5,hb5,hw6⟩:=WK.stop g3 g2 (fun j hj=>by rw[hG2n];exact hs j hj) hb hw5;have hfin:=hend ⟨S5,hs5,hb5,hw6⟩;clear hend hs hb hw5 hs5 hb5 hw6 hel0 hL yl
    repeat' first|simp only[go_sem,zI3, *]|apply bc<;>intro hc
 ·rintro fr h2 e1 ⟨f1,f2,f3,f4,f5,f16,f17,f18,hI⟩;have hfin:IY Y S w (wa c fs y).length h2:=by
   rw[show(wa c fs y).length=yF (List.range fs.length) (zOr c fs y) fs.length from(by unfold wa;rw[←zBS,List.length_range])];exact hI
  repeat' first|simp only[go_sem,zI3, *]|apply bc<;>intro hc
end Go.V
