/- Contracts of functions that the law reaches, part 2. No condition. -/
import Derived.Test.YtalepjdbhjinhaaGreatDoorW36
import Derived.Test.YtalepjdbhjinhaaGreatDoorW32
set_option linter.all false
namespace Go.V
open Go.Proofs
set_option maxRecDepth 100000
structure SA where
 M:KM Int
 O:KV
 outs:List (List UInt8)
def zGl (fs:List Fac) (i:Nat):Nat:=((fs.take i).filter fun f=>f.kind==1).length
def zIY (y:Cho) (k:Nat):Alt:=y.ts.getD k (mkA [])
def zV8 (y:Cho) (k:Nat):List UInt8:=y.own.getD k []
def zaM (y:Cho) (fs:List Fac) (i:Nat) (s:SA):SA:=match fs[i]? with
 |none=>s
 |some f=>if(f.kind==1)=true then(if decide (((zIY y (zGl fs i)).ts.length:Int)>0)=true then⟨zGK (i:Int) (zIY y (zGl fs i)).d s.M,s.O,s.outs⟩ else s)
  else if(f.kind==2)=true then(if(s.outs.any fun z=>z==f.out)=true then s else⟨s.M,if(!(zV8 y s.outs.length== []))=true then zDm f.out (zV8 y s.outs.length) s.O else s.O,s.outs++ [f.out]⟩) else s
def zAC (y:Cho) (fs:List Fac):Nat→SA
 |0=>⟨[],[],[]⟩
 |i+1=>zaM y fs i (zAC y fs i)
section
variable {y:Cho} {fs:List Fac}
theorem zNv {i:Nat} (h:i<fs.length):zAC y fs (i+1)=if(fs[i].kind==1)=true then(if decide (((zIY y (zGl fs i)).ts.length:Int)>0)=true then⟨zGK (i:Int) (zIY y (zGl fs i)).d (zAC y fs i).M,(zAC y fs i).O,(zAC y fs i).outs⟩ else zAC y fs i)
  else if(fs[i].kind==2)=true then(if((zAC y fs i).outs.any fun z=>z==fs[i].out)=true then zAC y fs i else⟨(zAC y fs i).M,if(!(zV8 y (zAC y fs i).outs.length== []))=true then zDm fs[i].out (zV8 y (zAC y fs i).outs.length) (zAC y fs i).O else(zAC y fs i).O,(zAC y fs i).outs++ [fs[i].out]⟩) else zAC y fs i:=by
 show zaM y fs i (zAC y fs i)=_;unfold zaM;rw[List.getElem?_eq_getElem h]
theorem zMa {i:Nat} (h:i<fs.length):zGl fs (i+1)=zGl fs i+(if(fs[i].kind==1)=true then 1 else 0):=by
 unfold zGl;rw[List.take_succ_eq_append_getElem h,List.filter_append,List.length_append];congr 1;by_cases e:(fs[i].kind==1)=true<;>simp[e]
theorem zTv {i:Nat} :∀k,i+k≤fs.length→zGl fs i≤zGl fs (i+k)
 |0,_=>Nat.le_refl _
 |k+1,h=>by
  have ih:=zTv (i:=i) k (by omega);rw[←Nat.add_assoc,zMa (by omega)];omega
end
abbrev Due:=List UInt8×List UInt8×List UInt8×List UInt8×Int×Int×Int
def qz (x:Due):List D:=[.str x.1, .str x.2.1, .str x.2.2.1, .str x.2.2.2.1, .int .i64 x.2.2.2.2.1, .int .i64 x.2.2.2.2.2.1, .int .i64 x.2.2.2.2.2.2]
def zC3 (c:Cat) (p:Fac×Int) (t:Trm):List Int:=(zBL c t.a t.b p.2 p.1.rel).map Cla.duty
def zH4 (comp:List UInt8) (p:Fac×Int) (t:Trm) (n:Int):List Due:=if(!(n==2)||p.1.chg)=true then [(p.1.out,comp,t.a,t.b,p.2,p.1.rel,n)] else []
def zQl (c:Cat) (comp:List UInt8) (p:Fac×Int) (t:Trm):List Due:=(zC3 c p t).flatMap (zH4 comp p t)
def zPT (c:Cat) (comp:List UInt8) (ts:List Trm) (p:Fac×Int):List Due:=ts.flatMap (zQl c comp p)
def zQX (c:Cat) (fs:List Fac) (y:Cho) (i:Nat):List Due:=match fs[i]? with
 |none=>[]
 |some f=>if(f.kind==1)=true then(wK fs f.comp).flatMap (zPT c f.comp (zIY y (zGl fs i)).ts) else []
def zAA (c:Cat) (fs:List Fac) (y:Cho):List Due:=(List.range fs.length).flatMap (zQX c fs y)
def zfC (x:Due):List D:=[.agg (qz x)]
def zPU (x yd d:List D):D:= .fn (.func 92) [] [.iptr x 0, .iptr yd 0, .iptr d 0]
theorem zJW {fs:List Fac} {comp:List UInt8} {p:Fac×Int} (h:p∈wK fs comp):p.1∈fs:=by
 obtain⟨u,hu,h⟩:=List.mem_flatMap.1 h;unfold zAj at h;split at h
 ·obtain⟨s,_,h⟩:=List.mem_flatMap.1 h;unfold zBQ at h;split at h
  ·cases List.mem_singleton.1 h;exact hu
  ·cases h
 ·cases h
set_option maxHeartbeats 16000000 in
theorem zaN {c:Cat} {ca cb ce cp:D} (hc:wR c (.agg [ca,cb,ce,cp])) (sm:c.Sm) {fs:List Fac} {x:D} (hx:zX 12 (zK1 fs) x) (hlen:fs.length≤1048576) (hok:∀f∈fs,f.Ok) {y:Cho} {ta oa:D} (ht:zX 1 (yp y.ts) ta) (ysm:y.Sm) (hly:zGl fs fs.length≤y.ts.length)
  {id:Nat} {Y:Nat→(Nat→Prop)→Heap→Prop} (yl:Yld Tryz.prog id (zAA c fs y).length (zGL zfC (zAA c fs y)) Y fun _ _=>False) {S:Nat→Prop} {w:Heap} (hY:Y 0 S w):
  zA Tryz.prog 92 [.yld id, .iptr [x] 0, .iptr [ta,oa] 0, .iptr [ca,cb,ce,cp] 0] w fun _ h'=>IY Y S w (zAA c fs y).length h':=by
 have hll:=zEn hx;obtain⟨x1,x2,_⟩:=zY hx;have hv4:∀a b c e:D,ze true 4 [a,b,c,e] 0=some (.agg [a,b,c,e]):=fun a b c e=>zB rfl (by omega);have ysl:=ysm.tl;refine zA.of_fn (g:=zR1) mix Tryz.func92 zif rfl rfl ?_;simp only[Tryz.f92,gJ]
 repeat' first|simp only[go_sem,zKJ, *]|apply bc<;>intro hc
 refine zD (fun i fr h'=>fr 1= .iptr [x] 0∧fr 2= .iptr [ta,oa] 0∧fr 3= .iptr [ca,cb,ce,cp] 0∧fr 4= .iptr [.yld id] 0∧fr 5= .int .i64 (zGl fs i:Int)∧fr 16=x∧fr 17= .int .i64 (fs.length:Int)∧fr 18= .int .i64 (i:Int)∧IY Y S w (yS (List.range fs.length) (zQX c fs y) i) h') fs.length (by omega) ?_ ?_ ?_
 ·have h0:IY Y S w (yS (List.range fs.length) (zQX c fs y) 0) w:=by rw[zA0];exact IY.start hY
  have l0:zGl fs 0=0:=rfl;simp only[go_sem,zKJ,true_and,and_true,Int.ofNat_zero,h0,l0]
 ·rintro i fr h1 hlt e1 ew ⟨f1,f2,f3,f4,f5,f16,f17,f18,hI⟩;have a1:=zFV hx hlt;have hm:fs[i]∈fs:=List.getElem_mem hlt;have hgi:fs[i]? =some fs[i]:=List.getElem?_eq_getElem hlt;have hgr:(List.range fs.length)[i]? =some i:=by simp[hlt]
  have hw:ze true 12 fs[i].cells 0=some (.agg fs[i].cells):=zB rfl (by omega);have hst:=zJJ (hok _ hm) h1 h1.next;have hsu:=zAR (f:=zQX c fs y) hgr;have hls:=zMa hlt;have hle:=zTv (fs:=fs) (i:=i+1) (fs.length- (i+1)) (by omega);rw[show i+1+(fs.length- (i+1))=fs.length by omega] at hle;have hdf:zQX c fs y i=if(fs[i].kind==1)=true then(wK fs fs[i].comp).flatMap (zPT c fs[i].comp (zIY y (zGl fs i)).ts) else []:=by unfold zQX;rw[hgi]
  generalize fs[i]=f at *
  have k0:f.cells[0]? =some (.int .i64 f.kind):=rfl;have k1:f.cells[1]? =some (.str f.comp):=rfl;obtain⟨G,hG,hGn,g1,hE⟩:=qx h1 (.row f.cells);rw[hG] at hst;have hIG:=hI.ext yl hE;cases hk:(f.kind==1) with
  |false=>
   rw[hk,if_neg (by decide)] at hls hdf;have hfin:IY Y S w (yS (List.range fs.length) (zQX c fs y) (i+1)) G:=by rw[hsu,hdf];exact hIG
   have hlz:zGl fs (i+1)=zGl fs i:=hls;clear hsu hls hdf hIG hI hgi hgr hE yl hok hle hly hm ht ysm sm hc
   repeat' first|simp only[go_sem,zKJ, *]|apply bc<;>intro hc
  |true=>
   rw[hk,if_pos rfl] at hls hdf;have hkl:zGl fs i<y.ts.length:=by omega
   have a2:=zDv ht hkl;have hal:zIY y (zGl fs i)=y.ts[zGl fs i]:=by unfold zIY;rw[List.getD_eq_getElem?_getD,List.getElem?_eq_getElem hkl];rfl
   have hsA:=ysm.ts _ (List.getElem_mem hkl);rw[hal] at hdf;have ewl:IntKind.i64.wrap ((zGl fs i:Int)+1)=((zGl fs (i+1):Nat):Int):=by rw[zx (by omega) (by omega)];omega
   clear hal;generalize y.ts[zGl fs i]=a at *
   obtain⟨q1,q2,q3⟩:=zY hsA.sl;obtain⟨G2,hG2,hG2n,g2,hE2⟩:∃G2,G.new (h1.next+1) (.row [a.d])=G2∧G2.next=h1.next+2∧G2.at' (h1.next+1)=some (.row [a.d])∧Ext G G2:=by
    have:=qx G (.row [a.d]);rw[hGn] at this;exact this
   have hst2:zW Tryz.prog 168 (.ptr (h1.next+1) 0) a.d (G.new (h1.next+1) (.row [.nilsl]))=some G2:=by
    rw[zh (zQ _ _ _) we (by simp) q1 q3,zFI,←hG2];rfl
   have g3:G2.at' h1.next=some (.row f.cells):=by rw[hE2.2 _ (by omega)];exact g1
   have hcp:=zQW hx f.comp;obtain⟨S1,hY1,c1,c2,c3,back⟩:=hI.cut yl (hE.trans hE2);obtain⟨P1,hP1⟩:∃P,yS (List.range fs.length) (zQX c fs y) i=P:=⟨_,rfl⟩;have hend:∀ {h2:Heap},IY Y S1 G2 (P1+yS (wK fs f.comp) (zPT c f.comp a.ts) (wK fs f.comp).length) h2→IY Y S w (yS (List.range fs.length) (zQX c fs y) (i+1)) h2:=fun q=>by
    have:=back _ _ q;rw[zB1] at this;rw[hsu,hdf,hP1];exact this
   have hel0:∀ {q:Nat} {v:Due},((wK fs f.comp).flatMap (zPT c f.comp a.ts))[q]? =some v→(zAA c fs y)[P1+q]? =some v:=fun {q v} hv=>by
    rw[←hP1];exact zQV hgr (by rw[hdf];exact hv)
   rw[hP1] at hY1;clear hsu hls hdf hIG hI hgi hgr hle hly hm ht ysm back hP1 hE hE2 c1 c3
   repeat' first|simp only[go_sem,zKJ,zKr, *]|apply bc<;>intro hc|(refine zA.mono (hcp _) ?_;rintro r h ⟨hq,rfl⟩)
   subst hq
   rename Heap=>G2
   generalize hL:LRec.mk _ _ _ _ _ _ _=L;have hpe:L.pending=none:=by rw[←hL]
   have hrd:L.st= .ready:=by rw[←hL]
   have hYl:Lcl fun k=>Y (P1+yS (wK fs f.comp) (zPT c f.comp a.ts) k):=⟨fun k=>yl.here _,fun k=>yl.loc _⟩;refine zPS (W:=WK h1.next (.row f.cells) (h1.next+1) (.row [a.d]) fun k=>Y (P1+yS (wK fs f.comp) (zPT c f.comp a.ts) k)) (n:=(wK fs f.comp).length) (el:=zGL zaL (wK fs f.comp)) (S:=fun j=>j=h1.next∨j=h1.next+1∨S1 j) hG2n (WK.lcl hYl) hrd hpe ?_ (fun yl2 hY0=>zNu hx hlen hok f.comp yl2 hY0) ?_ ?_
   ·exact WK.start (by rw[zA0,Nat.add_zero];exact hY1) (by omega) (by omega) g3 g2 (c2 _ (Nat.le_refl _)) (c2 _ (by omega))
   ·intro k S0 h3 hk3 hid3 hl3 hw3 hn3;obtain⟨⟨u,wy⟩,hp⟩:∃p,(wK fs f.comp)[k]? =some p:=⟨_,List.getElem?_eq_getElem hk3⟩;have hgp:zGL zaL (wK fs f.comp) k= [.agg u.cells, .int .i64 wy]:=by unfold zGL;rw[hp];rfl
    rw[hgp];have hum:u∈fs:=zJW (List.mem_of_getElem? hp);have hl3':=hl3;rw[←hL] at hl3';have hst7:=zJJ (hok _ hum) h3 h3.next;clear hst hst2 a1 a2 hcp;refine qp.round (g:=zR1) mix hl3' rfl (by kernel_rfl) (by kernel_rfl) (by kernel_rfl) ?_;simp only[go_sem,zKJ,hst7];refine⟨by rw[zM (by omega)];exact hl3',?_⟩;generalize hB:LRec.mk .busy _ _ _ _ _ _=B;have hLB:({ B with st:= .ready,pending:=none } :LRec)=L:=by rw[←hB,←hL]
    obtain⟨S2,H,hHe,hHn,hrow,hHi,hbH,hwH,hHH,hw2⟩:=Lp.open hYl hw3 hid3 hn3 (.row u.cells) B;rw[hHe];have nA:¬S2 h1.next:=hw2.2.2.2.1.1;have nU:¬S2 h3.next:=fun e=>Nat.lt_irrefl _ (hYl.here _ _ _ hw2.1 _ e);obtain⟨⟨hA1,hA2⟩,hl1,hl2⟩:=hHH;have hlt3:=hw2.2.1.1;obtain⟨P0,hP0⟩:∃P,P1+yS (wK fs f.comp) (zPT c f.comp a.ts) k=P:=⟨_,rfl⟩;have hel1:∀ {q:Nat} {v:Due},(zPT c f.comp a.ts (u,wy))[q]? =some v→(zAA c fs y)[P0+q]? =some v:=fun {q v} hv=>by
     rw[←hP0,Nat.add_assoc];exact hel0 (zQV hp hv)
    have hsP:P1+yS (wK fs f.comp) (zPT c f.comp a.ts) (k+1)=P0+(zPT c f.comp a.ts (u,wy)).length:=by
     rw[←hP0,zAR hp,Nat.add_assoc]
    have hI0:IY Y S2 H (P0+yS a.ts (zQl c f.comp (u,wy)) 0) H:=by rw[zA0,Nat.add_zero,←hP0];exact IY.start hwH
    have hlt:=wb hsA.sl;have hal:=hsA.len;clear hst7 hHe hB hend hel0 hwH hP0 hgp hp hw hw3
    repeat' first|simp only[go_sem,zKJ, *]|apply bc<;>intro hc
    refine zD (fun j fr h'=>fr 3= .iptr [ca,cb,ce,cp] 0∧fr 4= .iptr [.yld id] 0∧fr 7= .ptr h1.next 0∧fr 9= .ptr h3.next 0∧fr 10= .int .i64 wy∧fr 38=a.d∧fr 39= .int .i64 (a.ts.length:Int)∧fr 40= .int .i64 (j:Int)∧IY Y S2 H (P0+yS a.ts (zQl c f.comp (u,wy)) j) h') a.ts.length (by omega) ?_ ?_ ?_
    ·simp only[go_sem,zKJ,true_and,and_true,Int.ofNat_zero,f3,f4,hI0]
    ·clear f1 f2 f3 f4 f5 f16 f17 f18 hI0;rintro j fr2 h2 hltj e2 ew2 ⟨f3,f4,f7,f9,f10,f38,f39,f40,hI2⟩;have b1:zR Tryz.prog 168 a.d (.int .i64 (j:Int))=some (.iptr [.str a.ts[j].a, .str a.ts[j].b] 0):=zCv hsA.sl hltj;have hgj:a.ts[j]? =some a.ts[j]:=List.getElem?_eq_getElem hltj;have hsv:=zAR (f:=zQl c f.comp (u,wy)) hgj;have hel2:∀ {q:Nat} {v:Due},(zQl c f.comp (u,wy) a.ts[j])[q]? =some v→(zAA c fs y)[P0+yS a.ts (zQl c f.comp (u,wy)) j+q]? =some v:=fun {q v} hv=>by
      rw[Nat.add_assoc];exact hel1 (zQV hgj hv)
     generalize a.ts[j]=z at *
     have hst8:zW Tryz.prog 51 (.ptr h2.next 0) (.agg [.str z.a, .str z.b]) (h2.new h2.next (.row [.str [], .str []]))=some (h2.new h2.next (.row [.str z.a, .str z.b])):=zg wi (by omega) rfl rfl rfl;obtain⟨G3,hG3,hG3n,r1,hE3⟩:=qx h2 (.row [.str z.a, .str z.b]);rw[hG3] at hst8;have hle2:=hI2.le;obtain⟨S3,hY3,d1,d2,d3,back3⟩:=hI2.cut yl hE3;have rA:G3.at' h1.next=some (.row f.cells):=by rw[d3 _ hl1 nA];exact hA1
     have rU:G3.at' h3.next=some (.row u.cells):=by rw[d3 _ (by omega) nU];exact hrow
     have hcl:=fun g=>zTP hc sm z.a z.b wy u.rel g;have hv2:∀a b:D,ze true 2 [a,b] 0=some (.agg [a,b]):=fun a b=>zB rfl (by omega);have u3:u.cells[3]? =some (.int .i64 u.rel):=rfl;have u2:u.cells[2]? =some (.str u.out):=rfl;have u6:u.cells[6]? =some (.bool u.chg):=rfl;obtain⟨P2,hP2⟩:∃P,P0+yS a.ts (zQl c f.comp (u,wy)) j=P:=⟨_,rfl⟩;have hend2:∀ {h5:Heap},IY Y S3 G3 (P2+(zQl c f.comp (u,wy) z).length) h5→IY Y S2 H (P0+yS a.ts (zQl c f.comp (u,wy)) (j+1)) h5:=fun q=>by
      have:=back3 _ _ q;rw[hsv,←Nat.add_assoc,hP2];exact this
     rw[hP2] at hY3 hel2;clear hsv hP2 hI2 back3 hgj
     repeat' first|simp only[go_sem,zKJ, *]|apply bc<;>intro hc
     refine(hcl _).mono ?_;rintro r H2 ⟨hq2,cs,hcs,hfine,hkey⟩;subst hq2;have hlc:=zDF hcs;have hcl0:cs.length≤1048576:=by
      have:=congrArg List.length hkey;simp only[List.length_map] at this;have h2:(zBL c z.a z.b wy u.rel).length≤c.cs.length:=by
       unfold zBL;split
       ·simp
       ·exact List.length_filter_le _ _
      have:=sm.cs.1;omega
     have hdu:zC3 c (u,wy) z=cs.map Cla.duty:=by
      have:=congrArg (List.map fun k=>k.2.2.2.1) hkey;rw[List.map_map,List.map_map] at this;exact this.symm
     have hI0:IY Y S3 H2 (P2+yS (zC3 c (u,wy) z) (zH4 f.comp (u,wy) z) 0) H2:=by rw[zA0,Nat.add_zero];exact IY.start hY3
     clear hkey hcl hst8 hY3
     repeat' first|simp only[go_sem,zKJ, *]|apply bc<;>intro hc
     refine zD (fun b fr h'=>fr 3= .iptr [ca,cb,ce,cp] 0∧fr 4= .iptr [.yld id] 0∧fr 7= .ptr h1.next 0∧fr 9= .ptr h3.next 0∧fr 10= .int .i64 wy∧fr 12= .ptr h2.next 0∧fr 38=a.d∧fr 39= .int .i64 (a.ts.length:Int)∧fr 40= .int .i64 (j:Int)∧fr 49=r∧fr 50= .int .i64 (cs.length:Int)∧fr 51= .int .i64 (b:Int)∧IY Y S3 H2 (P2+yS (zC3 c (u,wy) z) (zH4 f.comp (u,wy) z) b) h') cs.length (by omega) ?_ ?_ ?_
     ·simp only[go_sem,zKJ,true_and,and_true,Int.ofNat_zero,f3,f4,f7,f9,f10,f38,f39,f40,hI0]
     ·clear f3 f4 f7 f9 f10 f38 f39 f40 hI0 hend2;rintro b fr4 h4 hltb e4 ew4 ⟨f3,f4,f7,f9,f10,f12,f38,f39,f40,f49,f50,f51,hI4⟩;have b2:=zDr hcs hltb;have hyf:=hfine _ (List.getElem_mem hltb);have hgb:(zC3 c (u,wy) z)[b]? =some cs[b].duty:=by
       rw[hdu,List.getElem?_map,List.getElem?_eq_getElem hltb];rfl
      have hsw:=zAR (f:=zH4 f.comp (u,wy) z) hgb;have hel3:∀ {v:Due},zH4 f.comp (u,wy) z cs[b].duty= [v]→(zAA c fs y)[P2+yS (zC3 c (u,wy) z) (zH4 f.comp (u,wy) z) b]? =some v:=fun {v} hv=>hel2 (by
       have:=zQV (f:=zH4 f.comp (u,wy) z) (q:=0) hgb (by rw[hv];rfl)
       rwa [Nat.add_zero] at this)
      generalize cs[b]=e at *
      have hst9:zW Tryz.prog 143 (.ptr h4.next 0) (.agg e.cells) (h4.new h4.next (.row [.str [], .int .i64 0, .int .i64 0, .int .i64 0, .nilsl]))=some (h4.new h4.next (.row e.cells)):=zg zCi (by omega) rfl rfl (by show(true&&(true&&(true&&(true&&(e.d.flat&&true)))))=true;rw[zBd hyf.1.isSl];rfl);have hvy:ze true 5 e.cells 0=some (.agg e.cells):=zB rfl (by omega);have ky:e.cells[3]? =some (.int .i64 e.duty):=rfl;obtain⟨G4,hG4,hG4n,s1,hE4⟩:=qx h4 (.row e.cells);rw[hG4] at hst9
      obtain⟨G5,hG5,hG5n,s2,hE5⟩:∃G5,G4.new (h4.next+1) (.row [.str u.out, .str f.comp, .str z.a, .str z.b, .int .i64 wy, .int .i64 u.rel, .int .i64 e.duty])=G5∧G5.next=h4.next+2∧G5.at' (h4.next+1)=some (.row [.str u.out, .str f.comp, .str z.a, .str z.b, .int .i64 wy, .int .i64 u.rel, .int .i64 e.duty])∧Ext G4 G5:=by
       have:=qx G4 (.row [.str u.out, .str f.comp, .str z.a, .str z.b, .int .i64 wy, .int .i64 u.rel, .int .i64 e.duty]);rw[hG4n] at this;exact this
      have le4:=hI4.le;have rA4:G4.at' h1.next=some (.row f.cells):=by rw[hE4.2 _ (by omega),hI4.at (by omega) (d1 _ hl1 nA)];exact rA
      have rU4:G4.at' h3.next=some (.row u.cells):=by rw[hE4.2 _ (by omega),hI4.at (by omega) (d1 _ (by omega) nU)];exact rU
      have rT4:G4.at' h2.next=some (.row [.str z.a, .str z.b]):=by rw[hE4.2 _ (by omega),hI4.at (by omega) (d2 _ (Nat.le_refl _))];exact r1
      have s15:G5.at' h4.next=some (.row e.cells):=by rw[hE5.2 _ (by omega)];exact s1
      have rU5:G5.at' h3.next=some (.row u.cells):=by rw[hE5.2 _ (by omega)];exact rU4
      have hvb:yn Tryz.prog 53 [(0, .str u.out),(1, .str f.comp),(2, .agg [.str z.a, .str z.b]),(3, .int .i64 wy),(4, .int .i64 u.rel),(5, .int .i64 e.duty)]=some (.agg [.str u.out, .str f.comp, .str z.a, .str z.b, .int .i64 wy, .int .i64 u.rel, .int .i64 e.duty]):=by simp[yn,zPx,zGX,wl,y8,D.notTuple,D.cells]
      have hstD:zW Tryz.prog 53 (.ptr (h4.next+1) 0) (.agg [.str u.out, .str f.comp, .str z.a, .str z.b, .int .i64 wy, .int .i64 u.rel, .int .i64 e.duty]) (G4.new (h4.next+1) (.row [.str [], .str [], .str [], .str [], .int .i64 0, .int .i64 0, .int .i64 0]))=some G5:=by
       rw[zg zBT (by omega) rfl rfl rfl,hG5]
      have hvD:ze true 7 [.str u.out, .str f.comp, .str z.a, .str z.b, .int .i64 wy, .int .i64 u.rel, .int .i64 e.duty] 0=some (.agg [.str u.out, .str f.comp, .str z.a, .str z.b, .int .i64 wy, .int .i64 u.rel, .int .i64 e.duty]):=zB rfl (by omega);have hI5:=hI4.ext yl (hE4.trans hE5)
      have hyes:zH4 f.comp (u,wy) z e.duty= [(u.out,f.comp,z.a,z.b,wy,u.rel,e.duty)]→(zAA c fs y)[P2+yS (zC3 c (u,wy) z) (zH4 f.comp (u,wy) z) b]? =some (u.out,f.comp,z.a,z.b,wy,u.rel,e.duty)∧∀ {h6:Heap},IY Y S3 H2 (P2+yS (zC3 c (u,wy) z) (zH4 f.comp (u,wy) z) b+1) h6→IY Y S3 H2 (P2+yS (zC3 c (u,wy) z) (zH4 f.comp (u,wy) z) (b+1)) h6:=fun hv=>⟨hel3 hv,fun q=>by
       rw[hsw,hv];exact q⟩
      have hno:zH4 f.comp (u,wy) z e.duty= []→IY Y S3 H2 (P2+yS (zC3 c (u,wy) z) (zH4 f.comp (u,wy) z) (b+1)) G5:=fun hv=>by
       rw[hsw,hv];exact hI5
      have hgo:=fun {v:Due} (hv:(zAA c fs y)[P2+yS (zC3 c (u,wy) z) (zH4 f.comp (u,wy) z) b]? =some v)=>hI5.go yl hv;clear hsw hel3 hgb hel2 hel1 hI4 hI5 hE4 hE5 hG5 hdu hfine hcs hyf d1 d2 d3 yl hHi hbH hw2 hok hA1 hA2 rA rU hrow r1;cases hd2:(e.duty==2) with
      |false=>
       have hv:zH4 f.comp (u,wy) z e.duty= [(u.out,f.comp,z.a,z.b,wy,u.rel,e.duty)]:=by unfold zH4;rw[hd2];rfl
       have hgo:=hgo (hyes hv).1;have hfin4:=fun {h6:Heap} =>(hyes hv).2 (h6:=h6);clear hyes hno hv
       repeat' first|simp only[go_sem,zKJ, *]|apply bc<;>intro hc
       refine hgo.mono ?_;rintro r5 h6 ⟨rfl,hI6⟩;have hfin:=hfin4 hI6;clear hgo hfin4 hI6
       repeat' first|simp only[go_sem,zKJ, *]|apply bc<;>intro hc
      |true=>
       cases hch:u.chg with
       |true=>
        have hv:zH4 f.comp (u,wy) z e.duty= [(u.out,f.comp,z.a,z.b,wy,u.rel,e.duty)]:=by unfold zH4;rw[hd2,hch];rfl
        have hgo:=hgo (hyes hv).1;have hfin4:=fun {h6:Heap} =>(hyes hv).2 (h6:=h6);clear hyes hno hv
        repeat' first|simp only[go_sem,zKJ, *]|apply bc<;>intro hc
        refine hgo.mono ?_;rintro r5 h6 ⟨rfl,hI6⟩;have hfin:=hfin4 hI6;clear hgo hfin4 hI6
        repeat' first|simp only[go_sem,zKJ, *]|apply bc<;>intro hc
       |false=>
        have hfin:=hno (by unfold zH4;rw[hd2,hch];rfl);clear hgo hyes hno
        repeat' first|simp only[go_sem,zKJ, *]|apply bc<;>intro hc
     ·clear f3 f4 f7 f9 f10 f38 f39 f40 hI0;rintro fr4 h5 e4 ⟨f3,f4,f7,f9,f10,f12,f38,f39,f40,f49,f50,f51,hI5⟩;have hfin:=hend2 (by
       rw[show(zQl c f.comp (u,wy) z).length=yS (zC3 c (u,wy) z) (zH4 f.comp (u,wy) z) cs.length from(by rw[show cs.length=(zC3 c (u,wy) z).length by rw[hdu,List.length_map]];exact(zB1 _ _).symm)]
       exact hI5)
      clear hend2 hI5 hdu
      repeat' first|simp only[go_sem,zKJ, *]|apply bc<;>intro hc
    ·clear f1 f2 f3 f4 f5 f16 f17 f18 hI0 hel1;rintro fr2 h5 e2 ⟨f3,f4,f7,f9,f10,f38,f39,f40,S5,hs5,hb5,hw5⟩;have hw6:Y (P1+yS (wK fs f.comp) (zPT c f.comp a.ts) (k+1)) S5 h5:=by
      rw[hsP,show(zPT c f.comp a.ts (u,wy)).length=yS a.ts (zQl c f.comp (u,wy)) a.ts.length from(zB1 _ _).symm];exact hw5
     have hfin:∀fr,zFq (LpK (h1.next+2) L (WK h1.next (.row f.cells) (h1.next+1) (.row [a.d]) fun k=>Y (P1+yS (wK fs f.comp) (zPT c f.comp a.ts) k)) k S0 h3) (h1.next+2) .normal fr h5:=fun fr=>Lp.call hYl hLB hid3 hn3 hw2 hHi hbH hs5 hb5 hw6;clear hs5 hb5 hw5 hw6 hsP
     repeat' first|simp only[go_sem,zKJ, *]|apply bc<;>intro hc
   ·intro S' h5 hs hb hw5;obtain⟨S5,hs5,hb5,hw6⟩:=WK.stop g3 g2 (fun j hj=>by rw[hG2n];exact hs j hj) hb hw5;have hfin:=hend ⟨S5,hs5,hb5,hw6⟩;clear hend hs hb hw5 hs5 hb5 hw6 hel0 hL yl
    repeat' first|simp only[go_sem,zKJ, *]|apply bc<;>intro hc
 ·rintro fr h2 e1 ⟨f1,f2,f3,f4,f5,f16,f17,f18,hI⟩;have hfin:IY Y S w (zAA c fs y).length h2:=by
   rw[show(zAA c fs y).length=yS (List.range fs.length) (zQX c fs y) fs.length from(by unfold zAA;rw[←zB1,List.length_range])];exact hI
  repeat' first|simp only[go_sem,zKJ, *]|apply bc<;>intro hc
end Go.V
