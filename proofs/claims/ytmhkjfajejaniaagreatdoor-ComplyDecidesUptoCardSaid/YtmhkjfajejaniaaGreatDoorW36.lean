/- A machine of abstract values for programs of the model, further rules, part 2. No condition. -/
import Derived.Test.YtmhkjfajejaniaaGreatDoorW35
import Derived.Test.YtmhkjfajejaniaaGreatDoorW30
set_option linter.all false
namespace Go.V
def WL (l:List (Nat×Obj)) (W:Nat→(Nat→Prop)→Heap→Prop) (k:Nat) (S:Nat→Prop) (h:Heap):Prop:=
 ∃S1,W k S1 h∧(∀p∈l,p.1<h.next∧h.at' p.1=some p.2∧¬S1 p.1)∧∀i,S i↔((∃p∈l,i=p.1)∨S1 i)
section
variable {l:List (Nat×Obj)} {W:Nat→(Nat→Prop)→Heap→Prop} {id k:Nat} {L B:LRec} {h h3 H h5:Heap} {S S0 S1 S5 S':Nat→Prop} {fr:Frm}
theorem WL.lcl (hW:Lcl W):Lcl (WL l W):=by
 refine⟨fun k S h y i hi=> ?_,fun k S h h' y hn hk=> ?_⟩
 ·obtain⟨S1,a1,a2,a3⟩:=y;rcases(a3 i).1 hi with⟨p,hp,rfl⟩ |q
  ·exact(a2 p hp).1
  ·exact hW.here _ _ _ a1 i q
 ·obtain⟨S1,a1,a2,a3⟩:=y;refine⟨S1,hW.loc _ _ _ _ a1 hn fun i hi=>hk i ((a3 i).2 (.inr hi)),fun p hp=> ?_,a3⟩;obtain⟨b1,b2,b3⟩:=a2 p hp;exact⟨by omega,by rw[hk p.1 ((a3 _).2 (.inl ⟨p,hp,rfl⟩))];exact b2,b3⟩
theorem WL.start (hw:W k S h) (h1:∀p∈l,p.1<h.next∧h.at' p.1=some p.2∧¬S p.1):WL l W k (fun i=>(∃p∈l,i=p.1)∨S i) h:=
 ⟨S,hw,h1,fun _=>Iff.rfl⟩
theorem WL.stop {h':Heap} (h1:∀p∈l,h.at' p.1=some p.2) (hs:∀i,S' i→((∃p∈l,i=p.1)∨S i)∨h.next≤i) (hb:But (fun i=>(∃p∈l,i=p.1)∨S i) h h') (hw:WL l W k S' h'):
  ∃S1,(∀i,S1 i→S i∨h.next≤i)∧But S h h'∧W k S1 h':=by
 obtain⟨S1,a1,a2,a3⟩:=hw;refine⟨S1,fun i hi=> ?_,⟨hb.1,fun i hi hn=> ?_⟩,a1⟩
 ·rcases hs i ((a3 i).2 (.inr hi)) with(⟨p,hp,rfl⟩ |q)|q
  ·exact absurd hi (a2 p hp).2.2
  ·exact .inl q
  ·exact .inr q
 ·by_cases q:∃p∈l,i=p.1
  ·obtain⟨p,hp,rfl⟩:=q;rw[(a2 p hp).2.1,h1 p hp]
  ·exact hb.2 i hi fun e=>e.elim q hn
theorem WL.st (hw:WL l W k S h):∀p∈l,p.1<h.next∧h.at' p.1=some p.2:=by
 obtain⟨S1,_,b,_⟩:=hw;exact fun p hp=>⟨(b p hp).1,(b p hp).2.1⟩
theorem Lp.callL (hW:Lcl W) (hLB:({ B with st:= .ready,pending:=none } :LRec)=L) (h3i:id<h3.next) (hn3:¬S0 id) (hw3:W k S1 h3∧(∀p∈l,p.1<h3.next∧h3.at' p.1=some p.2∧¬S1 p.1)∧∀i,S0 i↔((∃p∈l,i=p.1)∨S1 i))
  (hHi:H.at' id=some (.loop B)) (hbH:But (fun i=>i=id) h3 H) (hs5:∀j,S5 j→S1 j∨H.next≤j) (hb5:But S1 H h5) (hw:W (k+1) S5 h5):
  zAG (LpK id L (WL l W) k S0 h3) id .normal fr h5:=by
 obtain⟨_,a2,hS0⟩:=hw3;have hb0:=hbH.1;have hb50:=hb5.1;have i3:¬S1 id:=fun e=>hn3 ((hS0 _).2 (.inr e));refine Lp.fin (WL.lcl hW) hLB h3i hn3 (S':=fun i=>(∃p∈l,i=p.1)∨S5 i) ?_ (fun i hi=> ?_) ⟨by omega,fun i hi hn=> ?_⟩ ⟨S5,hw,fun p hp=> ?_,fun i=>Iff.rfl⟩
 ·rw[hb5.2 _ (by omega) i3];exact hHi
 ·rcases hi with⟨p,hp,rfl⟩ |hi
  ·exact .inl ((hS0 _).2 (.inl ⟨p,hp,rfl⟩))
  ·exact(hs5 i hi).imp (fun q=>(hS0 _).2 (.inr q)) fun q=>by omega
 ·rw[hb5.2 i (by omega) fun e=>hn (.inr ((hS0 _).2 (.inr e))),hbH.2 i hi fun e=>hn (.inl e)]
 ·obtain⟨b1,b2,b3⟩:=a2 p hp;have i1:p.1≠id:=fun e=>hn3 (by rw[←e];exact(hS0 _).2 (.inl ⟨p,hp,rfl⟩));refine⟨by omega,by rw[hb5.2 _ (by omega) b3,hbH.2 _ b1 i1];exact b2,fun e=> ?_⟩;rcases hs5 _ e with q|q
  ·exact b3 q
  ·omega
theorem Lp.openL (hW:Lcl W) (hw3:WL l W k S0 h3) (hid:id<h3.next) (hn3:¬S0 id) (o:Obj) (B:LRec):
  ∃S1 H,(h3.new h3.next o).set id (.loop B)=H∧H.next=h3.next+1∧H.at' h3.next=some o∧H.at' id=some (.loop B)∧But (fun j=>j=id) h3 H∧W k S1 H∧(∀p∈l,p.1<h3.next∧H.at' p.1=some p.2)∧
   (W k S1 h3∧(∀p∈l,p.1<h3.next∧h3.at' p.1=some p.2∧¬S1 p.1)∧∀i,S0 i↔((∃p∈l,i=p.1)∨S1 i)):=by
 obtain⟨S1,a1,a2,hS0⟩:=hw3;have hnx:((h3.new h3.next o).set id (.loop B)).next=h3.next+1:=by rw[zt,zD]
 have hb:But (fun j=>j=id) h3 ((h3.new h3.next o).set id (.loop B)):=⟨by omega,fun j hj hn=>by rw[zE hn,zG (by omega)]⟩;refine⟨S1,_,rfl,hnx,by rw[zE (by omega),zJ],zC _ _ _,hb,Lcl.round hW a1 (fun i hi=>(hS0 _).2 (.inr hi)) hn3 hb,fun p hp=> ?_,a1,a2,hS0⟩;obtain⟨b1,b2,b3⟩:=a2 p hp;exact⟨b1,by rw[hb.2 _ b1 fun e=>hn3 (by rw[←e];exact(hS0 _).2 (.inl ⟨p,hp,rfl⟩))];exact b2⟩
theorem Lp.openL0 (hW:Lcl W) (hw3:WL l W k S0 h3) (hid:id<h3.next) (hn3:¬S0 id) (B:LRec):
  ∃S1 H,h3.set id (.loop B)=H∧H.next=h3.next∧H.at' id=some (.loop B)∧But (fun j=>j=id) h3 H∧W k S1 H∧(∀p∈l,p.1<h3.next∧H.at' p.1=some p.2)∧
   (W k S1 h3∧(∀p∈l,p.1<h3.next∧h3.at' p.1=some p.2∧¬S1 p.1)∧∀i,S0 i↔((∃p∈l,i=p.1)∨S1 i)):=by
 obtain⟨S1,a1,a2,hS0⟩:=hw3;have hnx:(h3.set id (.loop B)).next=h3.next:=zt _ _ _;have hb:But (fun j=>j=id) h3 (h3.set id (.loop B)):=⟨by omega,fun j hj hn=>zE hn⟩;refine⟨S1,_,rfl,hnx,zC _ _ _,hb,Lcl.round hW a1 (fun i hi=>(hS0 _).2 (.inr hi)) hn3 hb,fun p hp=> ?_,a1,a2,hS0⟩;obtain⟨b1,b2,b3⟩:=a2 p hp;exact⟨b1,by rw[hb.2 _ b1 fun e=>hn3 (by rw[←e];exact(hS0 _).2 (.inl ⟨p,hp,rfl⟩))];exact b2⟩
end
open Go.Proofs
set_option maxRecDepth 100000
theorem zan {fs:List Fac} {sc:List D} {x:D} (hsc:sc[4]? =some x) (hx:zX 12 (zIH fs) x) {t:Tri} (hu:t.1<fs.length) (g:Fac) {id:Nat} {h:Heap} (hi:h.at' id=some (.row (zBv t))):
  zA Tryz.prog 205 [.agg g.cells, .iptr [.iptr sc 0] 0, .ptr id 0] h fun r h'=>h'=h∧r= .bool (g.comp==wI fs t.1):=by
 have k1:fs[t.1].cells[1]? =some (.str fs[t.1].comp):=rfl;have k2:g.cells[1]? =some (.str g.comp):=rfl;have e1:(zBv t)[0]? =some (.int .i64 (t.1:Int)):=rfl;have ha:=qf hx hu;have ho:wI fs t.1=fs[t.1].comp:=by simp[wI,hu]
 refine zA.of_fn (g:=zS0) mix Tryz.func205 zhI rfl rfl ?_;simp only[Tryz.f205,gJ]
 repeat' first|simp only[go_sem,zc7, *]|apply bc<;>intro hc
 refine zz Heap.emp [(2, .no,false),(0, .no,false),(1, .no,false),(3, .no,false),(4, .no,false),(5, .no,false),(6, .no,false),(7, .no,false),(8, .no,false),(9, .no,false),(10, .no,false),(11, .no,false),(12, .no,false)] (by kernel_rfl) (by kernel_rfl) (fun i ob e=>by cases e) ?_
 repeat' first|simp only[go_sem,zc7,zW, *]|apply bc<;>intro hc
def zJ4 (fs:List Fac) (i:Nat):Int:=match fs[i]? with
 |some f=>f.duty
 |none=>0
def zXD (fs:List Fac) (i:Nat):Bool:=match fs[i]? with
 |some f=>f.chg
 |none=>false
abbrev zES (fs:List Fac) (i:Nat):List Nat:=fIx 4 (fun g=>g.comp==wI fs i) fs
def zET (c:Cat) (fs:List Fac) (al:Nat→Option Alt) (t:Tri) (k:Nat):List (List Int):=
 if((!(zJ4 fs k==2)||zXD fs t.2.1)&&zOq c (zIX al t.1) (zER fs t.2.2) (zBW fs t.2.1) (zJ4 fs k) (fun _=>true))=true then [[(t.1:Int),(t.2.1:Int),(t.2.2:Int),(k:Int)]] else []
def zDQ (c:Cat) (fs:List Fac) (al:Nat→Option Alt) (t:Tri):List (List Int):=(zES fs t.1).flatMap (zET c fs al t)
theorem zNI (c:Cat) (fs:List Fac) (al:Nat→Option Alt) (t:Tri) (k:Nat):(zET c fs al t k).length≤1:=by unfold zET;split<;>simp
theorem zIZ (c:Cat) {fs:List Fac} (hn:fs.length≤16) (al:Nat→Option Alt) (t:Tri):(zDQ c fs al t).length≤16:=by
 have h1:=qG (m:=1) (l:=zES fs t.1) fun k _=>zNI c fs al t k;have h2:(zES fs t.1).length≤fs.length:=ye _ fs 0;unfold zDQ;omega
set_option maxHeartbeats 4000000 in
theorem zfL {c:Cat} {fs:List Fac} {al:Nat→Option Alt} {M:KM Int} {O:KV} {sc:List D} {m1 m2:Nat} (hs:Stt c fs al M O sc m1 m2) (hn:fs.length≤16)
  {ff:FuncId} {cap:List D} {Y:List (List Int)→(Nat→Prop)→Heap→Prop} (y:Fnd2 Tryz.prog 5 ff cap Y) {S:Nat→Prop} {w:Heap} (hY:Y [] S w) (hH:StH M O m1 m2 w) (n1:¬S m1) (n2:¬S m2):
  zA Tryz.prog 157 [.iptr sc 0, .fn (.func ff) [] cap] w fun _ h'=>∃S',(∀i,S' i→S i∨w.next≤i)∧But S w h'∧Y ((zo fs al).flatMap (zDQ c fs al)) S' h':=by
 have hs0:=hs;obtain⟨⟨ca,cb,ce,cp,x,rfl,hc,hx,_⟩,sm,hlen,hok,hget,halt⟩:=hs;have hct:=fun g=>zFN [ca,cb,ce,cp,x, .map m1, .map m2] g;refine zA.of_fn (g:=zJe) mix Tryz.func157 zdY rfl rfl ?_;simp only[Tryz.f157,gJ]
 repeat' first|simp only[go_sem,zHn,zEP, *]|apply bc<;>intro hc|(refine zA.mono (hct _) ?_;rintro r h ⟨hq,rfl⟩)
 subst hq;generalize hL:LRec.mk _ _ _ _ _ _ _=L;have hpe:L.pending=none:=by rw[←hL]
 have hrd:L.st= .ready:=by rw[←hL]
 have hYl:=y.lcl fun k=>yK (zo fs al) (zDQ c fs al) k;have h4:=zAa (al:=al) hn;refine we (W:=WK m1 (.map (kmD (D.int .i64) M)) m2 (.map (kvD O)) fun k=>Y (yK (zo fs al) (zDQ c fs al) k)) (n:=(zo fs al).length) (el:=elT (zo fs al)) (S:=fun j=>j=m1∨j=m2∨S j) rfl (WK.lcl hYl) hrd hpe ?_ (fun yl hY0=>zCD hs0 yl (fun k S h ⟨_,_,S0,hk,_⟩=>hk.st) hY0) ?_ ?_
 ·exact WK.start hY hH.2.1 hH.2.2 hH.1.1 hH.1.2 n1 n2
 ·intro k S0 h3 hk hid3 hl3 hw3 hn3;obtain⟨t,ht⟩:∃t,(zo fs al)[k]? =some t:=⟨_,List.getElem?_eq_getElem hk⟩;have hgt:(zo fs al).getD k (0,0,0)=t:=by rw[List.getD_eq_getElem?_getD,ht];rfl
  simp only[elT,hgt];obtain⟨p1,p2,p3,a,hal⟩:=zDP (List.mem_of_getElem? ht);have hl3':=hl3;rw[←hL] at hl3';have hst:=zNH t;refine yi.round (g:=zJe) mix hl3' rfl (by kernel_rfl) (by kernel_rfl) (by kernel_rfl) ?_;simp only[go_sem,zHn,hst];refine⟨by rw[zG (by omega)];exact hl3',?_⟩;generalize hB:LRec.mk .busy _ _ _ _ _ _=B;have hLB:({ B with st:= .ready,pending:=none } :LRec)=L:=by rw[←hB,←hL]
  obtain⟨S1,H,hHe,hHn,hrow,hHi,hbH,hwH,hHH,hw⟩:=Lp.open hYl hw3 hid3 hn3 (.row (zBv t)) B;rw[hHe];clear hst hHe hB;have hv3:zR true 3 (zBv t) 0=some (.agg (zBv t)):=zB rfl (by omega);have e1:(zBv t)[0]? =some (.int .i64 (t.1:Int)):=rfl;have e2:(zBv t)[1]? =some (.int .i64 (t.2.1:Int)):=rfl;have e3:(zBv t)[2]? =some (.int .i64 (t.2.2:Int)):=rfl;have hts:zIX al t.1=a.ts:=by simp[zIX,hal]
  have hS13:∀j,S1 j→j<h3.next:=fun j hj=>y.here _ _ _ hw.1 j hj;have hcf:=fun g=>zFy [ca,cb,ce,cp,x, .map m1, .map m2] 4 (hf:= .fn (.func 205) [] [.iptr [.iptr [ca,cb,ce,cp,x, .map m1, .map m2] 0] 0, .ptr h3.next 0]) ⟨_,_,_,rfl⟩ g;refine(hcf _).mono ?_;rintro r H2 ⟨hq,rfl⟩;subst hq;simp only[go_sem,zHn,zDO,hHn];generalize hL2:LRec.mk .ready _ _ _ _ _ _=L2;have hpe2:L2.pending=none:=by rw[←hL2]
  have hrd2:L2.st= .ready:=by rw[←hL2]
  have hYl2:=y.lcl fun k2=>yK (zo fs al) (zDQ c fs al) k++yK (zES fs t.1) (zET c fs al t) k2;have hm1:¬S1 m1∧¬S1 m2:=hw.2.2.2.1;obtain⟨l,hl⟩:∃l:List (Nat×Obj),l= [(m1, .map (kmD (D.int .i64) M)),(m2, .map (kvD O)),(h3.next, .row (zBv t))]:=⟨_,rfl⟩;have hst0:∀p∈l,p.1<H2.next∧H2.at' p.1=some p.2∧¬S1 p.1:=by
   rw[hl];intro p hp;simp only[List.mem_cons,List.not_mem_nil,or_false] at hp;rcases hp with rfl|rfl|rfl
   ·exact⟨hHH.2.1,hHH.1.1,hm1.1⟩
   ·exact⟨hHH.2.2,hHH.1.2,hm1.2⟩
   ·exact⟨by rw[hHn];omega,hrow,fun e=>Nat.lt_irrefl _ (hS13 _ e)⟩
  have hget3:∀ {h:Heap},(∀p∈l,p.1<h.next∧h.at' p.1=some p.2)→StH M O m1 m2 h∧h3.next<h.next∧h.at' h3.next=some (.row (zBv t)):=by
   rw[hl];intro h hp;have q1:=hp (m1, .map (kmD (D.int .i64) M)) (by simp);have q2:=hp (m2, .map (kvD O)) (by simp);have q3:=hp (h3.next, .row (zBv t)) (by simp);exact⟨⟨⟨q1.2,q2.2⟩,q1.1,q2.1⟩,q3⟩
  clear hl;refine⟨⟨_,hHi⟩,we (W:=WL l fun k2=>Y (yK (zo fs al) (zDQ c fs al) k++yK (zES fs t.1) (zET c fs al t) k2)) (n:=(zES fs t.1).length) (el:=elI (zES fs t.1)) (S:=fun j=>(∃p∈l,j=p.1)∨S1 j) hHn (WL.lcl hYl2) hrd2 hpe2 ?_ (fun yl hY0=>zDi (sc:=[ca,cb,ce,cp,x, .map m1, .map m2]) rfl hx (by omega) hs0.ok yl (R:=fun j=>j=h3.next) ?_ (fun g hg h2 hr=> ?_) hY0) ?_ ?_⟩
  ·exact WL.start (by rw[show yK (zES fs t.1) (zET c fs al t) 0= [] from rfl,List.append_nil];exact hwH) hst0
  ·rintro j rfl;refine⟨by rw[zm _ (by omega)];omega, .inr ?_⟩;rintro k S2 h2 ⟨_,_,S0,hk,_⟩;rw[(hget3 hk.st).2.2,zG (by omega),hrow]
  ·exact(zan (sc:=[ca,cb,ce,cp,x, .map m1, .map m2]) rfl hx p1 g (by rw[hr _ rfl,zG (by omega),hrow])).mono fun r h3 e=>e
  ·intro k2 S3 h5 hk2 hid4 hl4 hw4 hn4;obtain⟨v,hv⟩:∃v,(zES fs t.1)[k2]? =some v:=⟨_,List.getElem?_eq_getElem hk2⟩;have hgv:(zES fs t.1).getD k2 0=v:=by rw[List.getD_eq_getElem?_getD,hv];rfl
   have hvl:v<fs.length:=by
    have:=(wo _ fs 0 v (List.mem_of_getElem? hv)).2;omega
   simp only[elI,hgv];have hl4':=hl4;rw[←hL2] at hl4';refine yi.round (g:=zJe) mix hl4' rfl (by kernel_rfl) (by kernel_rfl) (by kernel_rfl) ?_;simp only[go_sem,zHn];refine⟨hl4',?_⟩;generalize hB2:LRec.mk .busy _ _ _ _ _ _=B2;have hLB2:({ B2 with st:= .ready,pending:=none } :LRec)=L2:=by rw[←hB2,←hL2]
   obtain⟨S4,H4,hHe4,hHn4,hHi4,hbH4,hwH4,hHH4,hw5⟩:=Lp.openL0 hYl2 hw4 hid4 hn4 B2;rw[hHe4];obtain⟨g1,g2,g3⟩:=hget3 (h:=H4) fun p hp=>⟨by rw[hHn4];exact(hHH4 p hp).1,(hHH4 p hp).2⟩
   have hfin:∀ {fr:Frm} {G h7:Heap} {S5:Nat→Prop},G.at' (h3.next+1)=some (.loop B2)→But (fun j=>j=h3.next+1) h5 G→(∀j,S5 j→S4 j∨G.next≤j)→But S4 G h7→Y (yK (zo fs al) (zDQ c fs al) k++yK (zES fs t.1) (zET c fs al t) (k2+1)) S5 h7→zAG (LpK (h3.next+1) L2 (WL l fun k2=>Y (yK (zo fs al) (zDQ c fs al) k++yK (zES fs t.1) (zET c fs al t) k2)) k2 S3 h5) (h3.next+1) .normal fr h7:=fun a1 a2 a3 a4 a5=>Lp.callL hYl2 hLB2 hid4 hn4 hw5 a1 a2 a3 a4 a5;rw[qr hv] at hfin;have b1:=qf hx hvl;have b2:=qf hx p2;have k5:fs[v].cells[5]? =some (.int .i64 fs[v].duty):=rfl
   have k6:fs[t.2.1].cells[6]? =some (.bool fs[t.2.1].chg):=rfl;have hd:zJ4 fs v=fs[v].duty:=by simp[zJ4,hvl]
   have hcg:zXD fs t.2.1=fs[t.2.1].chg:=by simp[zXD,p2]
   have hkv:zET c fs al t v=if((!(fs[v].duty==2)||fs[t.2.1].chg)&&zOq c a.ts (zER fs t.2.2) (zBW fs t.2.1) fs[v].duty (fun _=>true))=true then [[(t.1:Int),(t.2.1:Int),(t.2.2:Int),(v:Int)]] else []:=by unfold zET;rw[hd,hcg,hts]
   have hch:=zal hs0 p1 p2 p3 hal fs[v].duty (q:=fun _=>true) (R:=fun _=>False) (f:=202) (cap:=[]) g1 (fun i hi=>hi.elim) (fun y hy h2 _=>zfK y h2);rw[hkv] at hfin;have hul:(yK (zo fs al) (zDQ c fs al) k++yK (zES fs t.1) (zET c fs al t) k2).length<16777216:=by
    have q1:=zCg (V:=zDQ c fs al) (l:=zo fs al) (m:=16) (fun t _=>zIZ c hn al t) k;have q2:=zCg (V:=zET c fs al t) (l:=zES fs t.1) (m:=1) (fun k _=>zNI c fs al t k) k2;have q3:(zES fs t.1).length≤fs.length:=ye _ fs 0;rw[List.length_append];omega
   have hgo:=fun S h hy=>y.go _ S h [(t.1:Int),(t.2.1:Int),(t.2.2:Int),(v:Int)] .full hy hul (by simp) (by simp) (by
    intro n hn;simp only[List.mem_cons,List.not_mem_nil,or_false] at hn;rcases hn with rfl|rfl|rfl|rfl<;>exact zRf (by omega))
   simp only[List.nil_append,List.cons_append] at hgo;have hb4:=bs4 (t.1:Int) (t.2.1:Int) (t.2.2:Int) (v:Int);clear hd hcg hkv hul;generalize fs[v]=fv at *
   generalize fs[t.2.1]=fu at *
   clear hL hLB hL2 hLB2 hs0 hY hH hw3 hl3' hl3 ht hct hcf hget hok hget3 hst0 hl4 hl4' hw4 hw5 hHH4 hHe4 hv hwH hHH hbH
   repeat' first|simp only[go_sem,zHn,zW, *]|apply bc<;>intro hc
   refine zQ (by kernel_rfl) ?_;cases h2:(fv.duty==2)<;>cases hcg:fu.chg
   case true.false=>
    rw[h2,hcg,if_neg (by simp),List.append_nil] at hfin;have hfn:=fun fr=>hfin (fr:=fr) hHi4 hbH4 (fun j hj=> .inl hj) (But.refl S4 H4) hwH4;clear hfin hgo hch
    repeat' first|simp only[go_sem,zHn,zW, *]|apply bc<;>intro hc
   all_goals
    rw[h2,hcg] at hfin
    repeat' first|simp only[go_sem,zHn,zW, *]|apply bc<;>intro hc
    refine hch.mono ?_;rintro r H5 ⟨hE5,rfl⟩;have hrow5:=(hE5.2 _ g2).trans g3;have hbH5:=hbH4.ext1 hE5;have hHi5:=(hE5.2 _ (by rw[hHn4];exact hid4)).trans hHi4;have hwH5:=y.ext hwH4 hE5;cases hb:zOq c a.ts (zER fs t.2.2) (zBW fs t.2.1) fv.duty (fun _=>true) with
    |false=>
     rw[hb,if_neg (by decide),List.append_nil] at hfin;have hfn:=fun fr=>hfin (fr:=fr) hHi5 hbH5 (fun j hj=> .inl hj) (But.refl S4 H5) hwH5;clear hfin hgo hch
     repeat' first|simp only[go_sem,zHn, *]|apply bc<;>intro hc
    |true=>
     rw[hb,if_pos (by decide)] at hfin;simp only[go_sem,zHn,hrow5,e1,e2,e3,hb4];refine(hgo _ _ hwH5).mono ?_;rintro r h7 ⟨S5,hs5,hb5,hw5⟩;rw[List.append_assoc] at hw5;exact hfin hHi5 hbH5 hs5 hb5 hw5
  ·intro S' h5 hs hb hw5;obtain⟨S5,hs5,hb5,hw6⟩:=WL.stop (fun p hp=>(hst0 p hp).2.1) (fun j hj=>by rw[hHn];exact hs j hj) hb hw5;rw[zAD] at hw6;have hw7:Y (yK (zo fs al) (zDQ c fs al) (k+1)) S5 h5:=by rw[qr ht];exact hw6
   have hfin:∀fr,zAG (LpK h.next L (WK m1 (.map (kmD (D.int .i64) M)) m2 (.map (kvD O)) fun k=>Y (yK (zo fs al) (zDQ c fs al) k)) k S0 h3) h.next .normal fr h5:=fun fr=>Lp.call hYl hLB hid3 hn3 hw hHi hbH hs5 hb5 hw7;simp only[go_sem,zHn];exact hfin _
 ·intro S2 h5 hs hb hw;obtain⟨S5,hs5,hb5,hw5⟩:=WK.stop hH.1.1 hH.1.2 hs hb hw;rw[zAD] at hw5;simp only[go_sem,zHn];exact⟨S5,hs5,hb5,hw5⟩
def zfM (c:Cat) (b:List Trm) (x:Trm):Bool:=b.any fun y=>zD3 c x.a y.a
def zao (c:Cat) (a b:List Trm):Bool:=a.any (zfM c b)
set_option maxHeartbeats 4000000 in
theorem zUu {c:Cat} {ca cb ce cp:D} {rest:List D} (hc:qX c (.agg [ca,cb,ce,cp])) (sm:c.Sm) {a b:Alt} (ha:a.Ok) (hb:b.Ok) (g:Heap):
  zA Tryz.prog 206 [.iptr (ca::cb::ce::cp::rest) 0,a.d,b.d] g fun r h'=>Ext g h'∧r= .bool (zao c a.ts b.ts):=by
 have hla:=qy ha.sl;have hlb:=qy hb.sl;have hal:=ha.len;have hbl:=hb.len;obtain⟨q1,q2,_⟩:=zK ha.sl;obtain⟨q3,q4,_⟩:=zK hb.sl;have hE:Ext g g:=Ext.refl g;have hv4:zR true 4 (ca::cb::ce::cp::rest) 0=some (.agg [ca,cb,ce,cp]):=by simp[zR]
 refine zA.of_fn (g:=zPa) mix Tryz.func206 zdN rfl rfl ?_;simp only[Tryz.f206,gJ]
 repeat' first|simp only[go_sem,zIx, *]|apply bc<;>intro hc
 refine zF (fun i fr h'=>fr 0= .iptr (ca::cb::ce::cp::rest) 0∧fr 2=b.d∧fr 11=a.d∧fr 12= .int .i64 (a.ts.length:Int)∧fr 13= .int .i64 (i:Int)∧Ext g h'∧∀j (hj:j<a.ts.length),j<i→zfM c b.ts a.ts[j]=false) a.ts.length (by omega) ?_ ?_ ?_
 ·simp only[go_sem,zIx,true_and,and_true,Int.ofNat_zero];exact⟨hE,fun j hj h0=>by omega⟩
 ·rintro i fr h1 hlt e1 ew ⟨f0,f2,f11,f12,f13,hE1,hj⟩;have a1:=zCd ha.sl hlt;have hzt:=fun e=>zH5 (p:=zfM c b.ts) hlt e;have hzn:=fun e=>yk (p:=zfM c b.ts) hlt hj e;generalize a.ts[i]=z at *
  have hst:zU Tryz.prog 79 (.ptr h1.next 0) (.agg z.cells) (h1.new h1.next (.row [.str [], .str []]))=some (h1.new h1.next (.row z.cells)):=zj wG (by omega) rfl rfl rfl;have hv2:zR true 2 z.cells 0=some (.agg z.cells):=zB rfl (by omega);obtain⟨H,hH,hrow,hEH,hnx⟩:∃H,h1.new h1.next (.row z.cells)=H∧H.at' h1.next=some (.row z.cells)∧Ext g H∧h1.next<H.next:=⟨_,rfl,zJ _ _ _,hE1.new hE1.1 _,by rw[zD];omega⟩;rw[hH] at hst;clear hj hE hE1 hH
  repeat' first|simp only[go_sem,zIx, *]|apply bc<;>intro hc
  obtain⟨n1,hn1⟩:∃n,h1.next=n:=⟨_,rfl⟩;rw[hn1] at hrow hnx⊢;refine zF (fun j fr h'=>fr 0= .iptr (ca::cb::ce::cp::rest) 0∧fr 2=b.d∧fr 11=a.d∧fr 12= .int .i64 (a.ts.length:Int)∧fr 13= .int .i64 (i:Int)∧fr 8= .ptr n1 0∧fr 17=b.d∧fr 18= .int .i64 (b.ts.length:Int)∧fr 19= .int .i64 (j:Int)∧h'.at' n1=some (.row z.cells)∧n1<h'.next∧Ext g h'∧∀k (hk:k<b.ts.length),k<j→zD3 c z.a b.ts[k].a=false) b.ts.length (by omega) ?_ ?_ ?_
  ·simp only[go_sem,zIx,true_and,and_true,Int.ofNat_zero];exact⟨f0,f2,f11,f12,f13,hrow,hnx,hEH,fun j hj h0=>by omega⟩
  ·clear f0 f2 f11 f12 f13 hrow hEH hst hnx hn1;rintro j fr2 h2 hltj e2 ew2 ⟨f0,f2,f11,f12,f13,f8,f17,f18,f19,hrow,hnx,hE3,hj⟩;have b1:=zCd hb.sl hltj;have hyt:zD3 c z.a b.ts[j].a=true→zfM c b.ts z=true:=fun e=>zH5 (p:=fun y:Trm=>zD3 c z.a y.a) hltj e;have hyn:=fun e=>yk (p:=fun y:Trm=>zD3 c z.a y.a) hltj hj e;generalize b.ts[j]=y at *
   have hst2:zU Tryz.prog 79 (.ptr h2.next 0) (.agg y.cells) (h2.new h2.next (.row [.str [], .str []]))=some (h2.new h2.next (.row y.cells)):=zj wG (by omega) rfl rfl rfl;have hvy:zR true 2 y.cells 0=some (.agg y.cells):=zB rfl (by omega);have kz:z.cells[0]? =some (.str z.a):=rfl;have ky:y.cells[0]? =some (.str y.a):=rfl;obtain⟨H3,hH3,hrow3,hrz,hE4,hnx3⟩:∃H,h2.new h2.next (.row y.cells)=H∧H.at' h2.next=some (.row y.cells)∧H.at' n1=some (.row z.cells)∧Ext g H∧n1<H.next:=⟨_,rfl,zJ _ _ _,by rw[zG (by omega)];exact hrow,hE3.new hE3.1 _,by rw[zD];omega⟩;rw[hH3] at hst2
   have hci:=zI3 hc sm z.a y.a H3;clear hj hH3 hE3 a1 hrow hnx;cases hd:zD3 c z.a y.a with
   |false=>
    rw[hd] at hci;have hn2:=hyn hd;clear hyt hyn hd
    repeat' first|simp only[go_sem,zIx, *]|apply bc<;>intro hc
    refine zQ (by kernel_rfl) ?_
    repeat' first|simp only[go_sem,zIx,zW, *]|apply bc<;>intro hc|(refine zA.mono hci ?_;rintro r h ⟨hq,rfl⟩)
    subst hq;exact hn2
   |true=>
    rw[hd] at hci;have hn2:zao c a.ts b.ts=true:=hzt (hyt hd);clear hyt hyn hd hzt hzn
    repeat' first|simp only[go_sem,zIx, *]|apply bc<;>intro hc
    refine zQ (by kernel_rfl) ?_
    repeat' first|simp only[go_sem,zIx,zW, *]|apply bc<;>intro hc|(refine zA.mono hci ?_;rintro r h ⟨rfl,rfl⟩)
  ·clear f0 f2 f11 f12 f13 hrow hEH hst hnx hn1;rintro fr2 h2 e2 ⟨f0,f2,f11,f12,f13,f8,f17,f18,f19,hrow,hnx,hE3,hj⟩;have hn2:=hzn (zD2 (p:=fun y:Trm=>zD3 c z.a y.a) (fun i hi _=>hj i hi hi));clear hj hzn hzt hrow a1
   repeat' first|simp only[go_sem,zIx, *]|apply bc<;>intro hc
   exact hn2
 ·rintro fr h1 e1 ⟨f0,f2,f11,f12,f13,hE1,hj⟩;have hno:zao c a.ts b.ts=false:=zD2 fun i hi _=>hj i hi hi;clear hj hE
  repeat' first|simp only[go_sem,zIx, *]|apply bc<;>intro hc
def zRg (fs:List Fac) (t r:Tri):Bool:=decide ((r.1:Int)<(t.1:Int))|| !((r.2.2:Int)==(t.2.2:Int))|| !(zBW fs r.2.1==0)||((wI fs t.1==wI fs r.1)&& !((r.2.1:Int)==(t.2.1:Int)))
def zAu (c:Cat) (fs:List Fac) (al:Nat→Option Alt) (t r:Tri):List (List Int):=
 if(!(zRg fs t r)&&zao c (zIX al t.1) (zIX al r.1))=true then [[(t.1:Int),(r.1:Int),(t.2.1:Int),(r.2.1:Int),(t.2.2:Int)]] else []
def wR (c:Cat) (fs:List Fac) (al:Nat→Option Alt) (t:Tri):List (List Int):=if(zBW fs t.2.1==0)=true then(zo fs al).flatMap (zAu c fs al t) else []
theorem zJ5 (c:Cat) (fs:List Fac) (al:Nat→Option Alt) (t r:Tri):(zAu c fs al t r).length≤1:=by unfold zAu;split<;>simp
theorem zFz (c:Cat) {fs:List Fac} (hn:fs.length≤16) (al:Nat→Option Alt) (t:Tri):(wR c fs al t).length≤4096:=by
 unfold wR;split
 ·have h1:=qG (m:=1) (l:=zo fs al) fun r _=>zJ5 c fs al t r;have h2:=zAa (al:=al) hn;omega
 ·simp
set_option maxHeartbeats 8000000 in
theorem zap {c:Cat} {fs:List Fac} {al:Nat→Option Alt} {M:KM Int} {O:KV} {sc:List D} {m1 m2:Nat} (hs:Stt c fs al M O sc m1 m2) (hn:fs.length≤16)
  {ff:FuncId} {cap:List D} {Y:List (List Int)→(Nat→Prop)→Heap→Prop} (y:Fnd2 Tryz.prog 5 ff cap Y) {S:Nat→Prop} {w:Heap} (hY:Y [] S w) (hH:StH M O m1 m2 w) (n1:¬S m1) (n2:¬S m2):
  zA Tryz.prog 158 [.iptr sc 0, .fn (.func ff) [] cap] w fun _ h'=>∃S',(∀i,S' i→S i∨w.next≤i)∧But S w h'∧Y ((zo fs al).flatMap (wR c fs al)) S' h':=by
 have hs0:=hs;obtain⟨⟨ca,cb,ce,cp,x,rfl,hc,hx,_⟩,sm,hlen,hok,hget,halt⟩:=hs;have hct:=fun g=>zFN [ca,cb,ce,cp,x, .map m1, .map m2] g;refine zA.of_fn (g:=zJf) mix Tryz.func158 zdr rfl rfl ?_;simp only[Tryz.f158,gJ]
 repeat' first|simp only[go_sem,zE0,zEP, *]|apply bc<;>intro hc|(refine zA.mono (hct _) ?_;rintro r h ⟨hq,rfl⟩)
 subst hq
 rename Heap=>w
 generalize hL:LRec.mk _ _ _ _ _ _ _=L;have hpe:L.pending=none:=by rw[←hL]
 have hrd:L.st= .ready:=by rw[←hL]
 have hYl:=y.lcl fun k=>yK (zo fs al) (wR c fs al) k;have h4:=zAa (al:=al) hn;refine we (W:=WK m1 (.map (kmD (D.int .i64) M)) m2 (.map (kvD O)) fun k=>Y (yK (zo fs al) (wR c fs al) k)) (n:=(zo fs al).length) (el:=elT (zo fs al)) (S:=fun j=>j=m1∨j=m2∨S j) rfl (WK.lcl hYl) hrd hpe ?_ (fun yl hY0=>zCD hs0 yl (fun k S h ⟨_,_,S0,hk,_⟩=>hk.st) hY0) ?_ ?_
 ·exact WK.start hY hH.2.1 hH.2.2 hH.1.1 hH.1.2 n1 n2
 ·intro k S0 h3 hk hid3 hl3 hw3 hn3;obtain⟨t,ht⟩:∃t,(zo fs al)[k]? =some t:=⟨_,List.getElem?_eq_getElem hk⟩;have hgt:(zo fs al).getD k (0,0,0)=t:=by rw[List.getD_eq_getElem?_getD,ht];rfl
  simp only[elT,hgt];obtain⟨p1,p2,p3,a,hal⟩:=zDP (List.mem_of_getElem? ht);have hl3':=hl3;rw[←hL] at hl3';have hst:=zNH t;refine yi.round (g:=zJf) mix hl3' rfl (by kernel_rfl) (by kernel_rfl) (by kernel_rfl) ?_;simp only[go_sem,zE0,hst];refine⟨by rw[zG (by omega)];exact hl3',?_⟩;generalize hB:LRec.mk .busy _ _ _ _ _ _=B;have hLB:({ B with st:= .ready,pending:=none } :LRec)=L:=by rw[←hB,←hL]
  obtain⟨S1,H,hHe,hHn,hrow,hHi,hbH,hwH,hHH,hw⟩:=Lp.open hYl hw3 hid3 hn3 (.row (zBv t)) B;rw[hHe];clear hst hHe hB;have hv3:zR true 3 (zBv t) 0=some (.agg (zBv t)):=zB rfl (by omega);have e1:(zBv t)[0]? =some (.int .i64 (t.1:Int)):=rfl;have e2:(zBv t)[1]? =some (.int .i64 (t.2.1:Int)):=rfl;have e3:(zBv t)[2]? =some (.int .i64 (t.2.2:Int)):=rfl;have hts:zIX al t.1=a.ts:=by simp[zIX,hal]
  have hS13:∀j,S1 j→j<h3.next:=fun j hj=>y.here _ _ _ hw.1 j hj;have a2:=qf hx p2;have hrl:zBW fs t.2.1=fs[t.2.1].rel:=by simp[zBW,p2]
  have k3:fs[t.2.1].cells[3]? =some (.int .i64 fs[t.2.1].rel):=rfl;have hfo:∀ {fr:Frm} {G h7:Heap} {S5:Nat→Prop},G.at' w.next=some (.loop B)→But (fun j=>j=w.next) h3 G→(∀j,S5 j→S1 j∨G.next≤j)→But S1 G h7→Y (yK (zo fs al) (wR c fs al) (k+1)) S5 h7→zAG (LpK w.next L (WK m1 (.map (kmD (D.int .i64) M)) m2 (.map (kvD O)) fun k=>Y (yK (zo fs al) (wR c fs al) k)) k S0 h3) w.next .normal fr h7:=fun a1 a2 a3 a4 a5=>Lp.call hYl hLB hid3 hn3 hw a1 a2 a3 a4 a5;rw[qr ht] at hfo;refine zQ (by kernel_rfl) ?_;rw[←hrl] at k3;clear hrl;cases hre:(zBW fs t.2.1==0) with
  |false=>
   have hv:wR c fs al t= []:=by unfold wR;rw[hre];rfl
   rw[hv,List.append_nil] at hfo;have hfn:=fun fr=>hfo (fr:=fr) hHi hbH (fun j hj=> .inl hj) (But.refl S1 H) hwH;clear hL hLB hs0 hY hH hw3 hl3' hl3 ht hct hfo
   repeat' first|simp only[go_sem,zE0,zW, *]|apply bc<;>intro hc
  |true=>
   have hv:wR c fs al t=(zo fs al).flatMap (zAu c fs al t):=by unfold wR;rw[hre];rfl
   rw[hv] at hfo
   repeat' first|simp only[go_sem,zE0,zW,zEP, *]|apply bc<;>intro hc|(refine zA.mono (hct _) ?_;rintro r h ⟨hq,rfl⟩)
   subst hq
   rename Heap=>H
   generalize hL2:LRec.mk .ready _ _ _ _ _ _=L2;have hpe2:L2.pending=none:=by rw[←hL2]
   have hrd2:L2.st= .ready:=by rw[←hL2]
   have hYl2:=y.lcl fun k2=>yK (zo fs al) (wR c fs al) k++yK (zo fs al) (zAu c fs al t) k2;have hm1:¬S1 m1∧¬S1 m2:=hw.2.2.2.1;obtain⟨l,hl⟩:∃l:List (Nat×Obj),l= [(m1, .map (kmD (D.int .i64) M)),(m2, .map (kvD O)),(h3.next, .row (zBv t))]:=⟨_,rfl⟩;have hst0:∀p∈l,p.1<H.next∧H.at' p.1=some p.2∧¬S1 p.1:=by
    rw[hl];intro p hp;simp only[List.mem_cons,List.not_mem_nil,or_false] at hp;rcases hp with rfl|rfl|rfl
    ·exact⟨hHH.2.1,hHH.1.1,hm1.1⟩
    ·exact⟨hHH.2.2,hHH.1.2,hm1.2⟩
    ·exact⟨by rw[hHn];omega,hrow,fun e=>Nat.lt_irrefl _ (hS13 _ e)⟩
   have hget3:∀ {h:Heap},(∀p∈l,p.1<h.next∧h.at' p.1=some p.2)→StH M O m1 m2 h∧h3.next<h.next∧h.at' h3.next=some (.row (zBv t)):=by
    rw[hl];intro h hp;have q1:=hp (m1, .map (kmD (D.int .i64) M)) (by simp);have q2:=hp (m2, .map (kvD O)) (by simp);have q3:=hp (h3.next, .row (zBv t)) (by simp);exact⟨⟨⟨q1.2,q2.2⟩,q1.1,q2.1⟩,q3⟩
   clear hl;refine⟨⟨_,hHi⟩,we (W:=WL l fun k2=>Y (yK (zo fs al) (wR c fs al) k++yK (zo fs al) (zAu c fs al t) k2)) (n:=(zo fs al).length) (el:=elT (zo fs al)) (S:=fun j=>(∃p∈l,j=p.1)∨S1 j) hHn (WL.lcl hYl2) hrd2 hpe2 ?_ (fun yl hY0=>zCD hs0 yl (fun k S h ⟨_,_,S0,hk,_⟩=>(hget3 hk.st).1) hY0) ?_ ?_⟩
   ·exact WL.start (by rw[show yK (zo fs al) (zAu c fs al t) 0= [] from rfl,List.append_nil];exact hwH) hst0
   ·intro k2 S3 h5 hk2 hid4 hl4 hw4 hn4;obtain⟨r,hr⟩:∃r,(zo fs al)[k2]? =some r:=⟨_,List.getElem?_eq_getElem hk2⟩;have hgr:(zo fs al).getD k2 (0,0,0)=r:=by rw[List.getD_eq_getElem?_getD,hr];rfl
    obtain⟨r1,r2,r3,b,hbl⟩:=zDP (List.mem_of_getElem? hr);simp only[elT,hgr];have hl4':=hl4;rw[←hL2] at hl4';have hst:=zNH r;refine yi.round (g:=zJf) mix hl4' rfl (by kernel_rfl) (by kernel_rfl) (by kernel_rfl) ?_;simp only[go_sem,zE0,hst];refine⟨by rw[zG (by omega)];exact hl4',?_⟩;generalize hB2:LRec.mk .busy _ _ _ _ _ _=B2;have hLB2:({ B2 with st:= .ready,pending:=none } :LRec)=L2:=by rw[←hB2,←hL2]
    obtain⟨S4,H4,hHe4,hHn4,hrow4,hHi4,hbH4,hwH4,hHH4,hw5⟩:=Lp.openL hYl2 hw4 hid4 hn4 (.row (zBv r)) B2;rw[hHe4];clear hHe4 hB2 hst;obtain⟨g1,g2,g3⟩:=hget3 (h:=H4) fun p hp=>⟨by have:=(hHH4 p hp).1;omega,(hHH4 p hp).2⟩
    have hfin:∀ {fr:Frm} {G h7:Heap} {S5:Nat→Prop},G.at' (h3.next+1)=some (.loop B2)→But (fun j=>j=h3.next+1) h5 G→(∀j,S5 j→S4 j∨G.next≤j)→But S4 G h7→Y (yK (zo fs al) (wR c fs al) k++yK (zo fs al) (zAu c fs al t) (k2+1)) S5 h7→zAG (LpK (h3.next+1) L2 (WL l fun k2=>Y (yK (zo fs al) (wR c fs al) k++yK (zo fs al) (zAu c fs al t) k2)) k2 S3 h5) (h3.next+1) .normal fr h7:=fun a1 a2 a3 a4 a5=>Lp.callL hYl2 hLB2 hid4 hn4 hw5 a1 a2 a3 a4 a5;rw[qr hr] at hfin;have b1:=qf hx p1;have b2:=qf hx r1;have b3:=qf hx r2;have o1:(zBv r)[0]? =some (.int .i64 (r.1:Int)):=rfl
    have o2:(zBv r)[1]? =some (.int .i64 (r.2.1:Int)):=rfl;have o3:(zBv r)[2]? =some (.int .i64 (r.2.2:Int)):=rfl;have w1:wI fs t.1=fs[t.1].comp:=by simp[wI,p1]
    have w2:wI fs r.1=fs[r.1].comp:=by simp[wI,r1]
    have w3:zBW fs r.2.1=fs[r.2.1].rel:=by simp[zBW,r2]
    have k5:fs[t.1].cells[1]? =some (.str fs[t.1].comp):=rfl;have k6:fs[r.1].cells[1]? =some (.str fs[r.1].comp):=rfl;have k7:fs[r.2.1].cells[3]? =some (.int .i64 fs[r.2.1].rel):=rfl;rw[←w1] at k5;rw[←w2] at k6;rw[←w3] at k7;clear w1 w2 w3;have hul:(yK (zo fs al) (wR c fs al) k++yK (zo fs al) (zAu c fs al t) k2).length<16777216:=by
     have q1:(yK (zo fs al) (wR c fs al) k).length≤k*4096:=by
      have:=qG (m:=4096) (l:=(zo fs al).take k) fun t _=>zFz c hn al t;rw[List.length_take] at this;exact Nat.le_trans this (Nat.mul_le_mul_right _ (Nat.min_le_left _ _))
     have q2:(yK (zo fs al) (zAu c fs al t) k2).length≤k2*1:=by
      have:=qG (m:=1) (l:=(zo fs al).take k2) fun r _=>zJ5 c fs al t r;rw[List.length_take] at this;exact Nat.le_trans this (Nat.mul_le_mul_right _ (Nat.min_le_left _ _))
     rw[List.length_append];omega
    have hgo:=fun S h hy=>y.go _ S h [(t.1:Int),(r.1:Int),(t.2.1:Int),(r.2.1:Int),(t.2.2:Int)] .full hy hul (by simp) (by simp) (by
     intro n hn;simp only[List.mem_cons,List.not_mem_nil,or_false] at hn;rcases hn with rfl|rfl|rfl|rfl|rfl<;>exact zRf (by omega))
    simp only[List.nil_append,List.cons_append] at hgo;have hb5:=bs5 (t.1:Int) (r.1:Int) (t.2.1:Int) (r.2.1:Int) (t.2.2:Int);have hlk1:=zLS hs0 g1.1.1 p1 false;rw[hal] at hlk1;replace hlk1:yS Tryz.prog 148 (.map m1) (.int .i64 (t.1:Int)) false H4=some a.d:=hlk1;have hlk2:=zLS hs0 g1.1.1 r1 false;rw[hbl] at hlk2;replace hlk2:yS Tryz.prog 148 (.map m1) (.int .i64 (r.1:Int)) false H4=some b.d:=hlk2;have hts2:zIX al r.1=b.ts:=by simp[zIX,hbl]
    have hav:zAu c fs al t r=if(!(zRg fs t r)&&zao c a.ts b.ts)=true then [[(t.1:Int),(r.1:Int),(t.2.1:Int),(r.2.1:Int),(t.2.2:Int)]] else []:=by unfold zAu;rw[hts,hts2]
    rw[hav] at hfin;have hco:=zUu (rest:=[x, .map m1, .map m2]) hc sm (hs0.alt _ _ hal) (hs0.alt _ _ hbl) H4;obtain⟨q1,q2,_⟩:=zK (hs0.alt _ _ hal).sl;obtain⟨q3,q4,_⟩:=zK (hs0.alt _ _ hbl).sl;have h35:h3.next<h5.next:=by omega
    clear hL hLB hL2 hLB2 hs0 hY hH hw3 hl3' hl3 ht hct hget hok hget3 hst0 hl4 hl4' hw4 hw5 hHH4 hwH hHH hfo hv hav hul;generalize h3.next=n3 at *
    generalize h5.next=n5 at *
    refine zz Heap.emp [(0, .no,false),(9, .no,false),(1, .no,false),(2, .no,false),(3, .no,false),(4, .no,false),(5, .no,false),(6, .no,false),(7, .no,false),(8, .no,false),(10, .no,false),(11, .no,false),(12, .no,false),(13, .no,false),(14, .no,false),(15, .no,false),(16, .no,false),(17, .no,false),(18, .no,false),(19, .no,false)] (by kernel_rfl) (by kernel_rfl) (fun i ob e=>by cases e) ?_
    repeat' first|simp only[go_sem,zE0,zW, *]|apply bc<;>intro hc
    refine zBr (fun fr' h'=>fr' 75= .bool (zRg fs t r)∧fr' 2= .iptr [.iptr [ca,cb,ce,cp,x, .map m1, .map m2] 0] 0∧fr' 3= .iptr [.fn (.func ff) [] cap] 0∧fr' 4= .ptr n3 0∧fr' 5= .ptr n5 0∧h'=H4) ?_ ?_
    ·refine zQ (by kernel_rfl) ?_;unfold zRg;clear hfin hgo hco
     repeat' first|simp only[go_sem,zE0,zW, *]|apply bc<;>intro hc
    rintro fr' G ⟨f75,f2,f3,f4,f5,rfl⟩;clear b1 b2 b3 k5 k6 k7 a2 k3;cases hsk:zRg fs t r with
    |true=>
     rw[hsk,if_neg (by simp),List.append_nil] at hfin;rw[hsk] at f75;have hfn:=fun fr=>hfin (fr:=fr) hHi4 hbH4 (fun j hj=> .inl hj) (But.refl S4 G) hwH4;clear hfin hgo hco
     repeat' first|simp only[go_sem,zE0, *]|apply bc<;>intro hc
    |false=>
     rw[hsk] at hfin f75
     repeat' first|simp only[go_sem,zE0, *]|apply bc<;>intro hc
     refine zz Heap.emp [(0, .no,false),(1, .no,false),(8, .no,false),(2, .no,false),(3, .no,false),(4, .no,false),(5, .no,false),(6, .no,false),(7, .no,false),(9, .no,false),(10, .no,false),(11, .no,false),(12, .no,false),(13, .no,false),(14, .no,false),(15, .no,false)] (by kernel_rfl) (by kernel_rfl) (fun i ob e=>by cases e) ?_
     repeat' first|simp only[go_sem,zE0,zW, *]|apply bc<;>intro hc
     refine hco.mono ?_;rintro r' H5 ⟨hE5,rfl⟩;have hrow5:=(hE5.2 _ g2).trans g3;have hrow6:=(hE5.2 _ (by omega)).trans hrow4;have hbH5:=hbH4.ext1 hE5;have hHi5:=(hE5.2 _ (by omega)).trans hHi4;have hwH5:=y.ext hwH4 hE5;cases hb:zao c a.ts b.ts with
     |false=>
      rw[hb,if_neg (by decide),List.append_nil] at hfin;have hfn:=fun fr=>hfin (fr:=fr) hHi5 hbH5 (fun j hj=> .inl hj) (But.refl S4 H5) hwH5;clear hfin hgo hco
      repeat' first|simp only[go_sem,zE0, *]|apply bc<;>intro hc
     |true=>
      rw[hb,if_pos (by decide)] at hfin;simp only[go_sem,zE0,f2,f3,f4,f5,hrow5,hrow6,e1,e2,e3,o1,o2,o3,hb5];refine(hgo _ _ hwH5).mono ?_;rintro r h7 ⟨S5,hs5,hb5,hw5⟩;rw[List.append_assoc] at hw5;exact hfin hHi5 hbH5 hs5 hb5 hw5
   ·intro S' h5 hs hb hw5;obtain⟨S5,hs5,hb5,hw6⟩:=WL.stop (fun p hp=>(hst0 p hp).2.1) (fun j hj=>by rw[hHn];exact hs j hj) hb hw5;rw[zAD] at hw6;have hfn:=fun fr=>hfo (fr:=fr) hHi hbH hs5 hb5 hw6;simp only[go_sem,zE0];exact hfn _
 ·intro S2 h5 hs hb hw;obtain⟨S5,hs5,hb5,hw5⟩:=WK.stop hH.1.1 hH.1.2 hs hb hw;rw[zAD] at hw5;simp only[go_sem,zE0];exact⟨S5,hs5,hb5,hw5⟩
theorem zaq (g:Fac) (h:Heap):zA Tryz.prog 207 [.agg g.cells] h fun r h'=>h'=h∧r= .bool true:=by
 refine zA.of_fn (g:=zPi) mix Tryz.func207 zdd rfl rfl ?_;simp only[Tryz.f207,gJ]
 repeat' first|simp only[go_sem,zhn, *]|apply bc<;>intro hc
theorem zar (g:Fac) (h:Heap):zA Tryz.prog 209 [.agg g.cells] h fun r h'=>h'=h∧r= .bool true:=by
 refine zA.of_fn (g:=zTe) mix Tryz.func209 ziH rfl rfl ?_;simp only[Tryz.f209,gJ]
 repeat' first|simp only[go_sem,ziG, *]|apply bc<;>intro hc
theorem zas {fs:List Fac} {sc:List D} {x:D} (hsc:sc[4]? =some x) (hx:zX 12 (zIH fs) x) {u:Nat} (hu:u<fs.length) (g:Fac) {id:Nat} {h:Heap} (hi:h.at' id=some (.row [.int .i64 (u:Int)])):
  zA Tryz.prog 208 [.agg g.cells, .iptr [.iptr sc 0] 0, .ptr id 0] h fun r h'=>h'=h∧r= .bool (g.out==wP fs u):=by
 have k1:fs[u].cells[2]? =some (.str fs[u].out):=rfl;have k2:g.cells[2]? =some (.str g.out):=rfl;have ha:=qf hx hu;have ho:wP fs u=fs[u].out:=by simp[wP,hu]
 refine zA.of_fn (g:=zPr) mix Tryz.func208 zdw rfl rfl ?_;simp only[Tryz.f208,gJ]
 repeat' first|simp only[go_sem,zdv, *]|apply bc<;>intro hc
 refine zz Heap.emp [(2, .no,false),(6, .no,false),(0, .no,false),(1, .no,false),(3, .no,false),(4, .no,false),(5, .no,false),(7, .no,false),(8, .no,false),(9, .no,false),(10, .no,false),(11, .no,false)] (by kernel_rfl) (by kernel_rfl) (fun i ob e=>by cases e) ?_
 repeat' first|simp only[go_sem,zdv,zW, *]|apply bc<;>intro hc
def zQb (fs:List Fac) (i:Nat):List (List UInt8):=match fs[i]? with
 |some f=>f.list
 |none=>[]
abbrev zDr (fs:List Fac):List Nat:=fIx 3 (fun _=>true) fs
abbrev zIa (fs:List Fac):List Nat:=fIx 2 (fun _=>true) fs
def zIb (i h:Nat):List (List Int):=[[(i:Int),(h:Int)]]
def zBx (fs:List Fac) (O:KV) (i:Nat):List (List Int):=match ww (wP fs i) O with
 |none=>[]
 |some own=>if((zQb fs i).any fun s=>s==own)=true then [] else(zBw fs i).flatMap (zIb i)
theorem zIc {fs:List Fac} (hn:fs.length≤16) (O:KV) (i:Nat):(zBx fs O i).length≤16:=by
 unfold zBx;split
 ·simp
 ·split
  ·simp
  ·have h1:=qG (m:=1) (l:=zBw fs i) fun h _=>(show(zIb i h).length≤1 from Nat.le_refl _)
   have h2:(zBw fs i).length≤fs.length:=ye _ fs 0;omega
set_option maxHeartbeats 8000000 in
theorem zfN {c:Cat} {fs:List Fac} {al:Nat→Option Alt} {M:KM Int} {O:KV} {sc:List D} {m1 m2:Nat} (hs:Stt c fs al M O sc m1 m2) (hn:fs.length≤16)
  {ff:FuncId} {cap:List D} {Y:List (List Int)→(Nat→Prop)→Heap→Prop} (y:Fnd2 Tryz.prog 5 ff cap Y) {S:Nat→Prop} {w:Heap} (hY:Y [] S w) (hH:StH M O m1 m2 w) (n1:¬S m1) (n2:¬S m2):
  zA Tryz.prog 159 [.iptr sc 0, .fn (.func ff) [] cap] w fun _ h'=>∃S',(∀i,S' i→S i∨w.next≤i)∧But S w h'∧Y ((zDr fs).flatMap (zBx fs O)) S' h':=by
 have hs0:=hs;obtain⟨⟨ca,cb,ce,cp,x,rfl,hc,hx,_⟩,sm,hlen,hok,hget,halt⟩:=hs;have hcf0:=fun g=>zFy [ca,cb,ce,cp,x, .map m1, .map m2] 3 (hf:= .fn (.func 207) [] []) ⟨_,_,_,rfl⟩ g;refine zA.of_fn (g:=zJg) mix Tryz.func159 zeA rfl rfl ?_;simp only[Tryz.f159,gJ]
 repeat' first|simp only[go_sem,zFi,zDO, *]|apply bc<;>intro hc|(refine zA.mono (hcf0 _) ?_;rintro r h ⟨hq,rfl⟩)
 subst hq
 rename Heap=>w
 generalize hL:LRec.mk _ _ _ _ _ _ _=L;have hpe:L.pending=none:=by rw[←hL]
 have hrd:L.st= .ready:=by rw[←hL]
 have hYl:=y.lcl fun k=>yK (zDr fs) (zBx fs O) k;refine we (W:=WK m1 (.map (kmD (D.int .i64) M)) m2 (.map (kvD O)) fun k=>Y (yK (zDr fs) (zBx fs O) k)) (n:=(zDr fs).length) (el:=elI (zDr fs)) (S:=fun j=>j=m1∨j=m2∨S j) rfl (WK.lcl hYl) hrd hpe ?_ (fun yl hY0=>zDi (sc:=[ca,cb,ce,cp,x, .map m1, .map m2]) rfl hx (by omega) hs0.ok yl (R:=fun j=>False) (fun _ h=>h.elim) (fun g hg h2 hr=>zaq g h2) hY0) ?_ ?_
 ·exact WK.start hY hH.2.1 hH.2.2 hH.1.1 hH.1.2 n1 n2
 ·intro k S0 h3 hk hid3 hl3 hw3 hn3;obtain⟨t,ht⟩:∃t,(zDr fs)[k]? =some t:=⟨_,List.getElem?_eq_getElem hk⟩;have hgt:(zDr fs).getD k 0=t:=by rw[List.getD_eq_getElem?_getD,ht];rfl
  have p1:t<fs.length:=by
   have:=(wo _ fs 0 t (List.mem_of_getElem? ht)).2;omega
  simp only[elI,hgt];have hl3':=hl3;rw[←hL] at hl3';have hst7:zU Tryz.prog 3 (.ptr h3.next 0) (.int .i64 (t:Int)) (h3.new h3.next (.row [.int .i64 0]))=some (h3.new h3.next (.row [.int .i64 (t:Int)])):=by
   rw[za (zJ _ _ _) wL (by simp) rfl rfl,zEG];rfl
  refine yi.round (g:=zJg) mix hl3' rfl (by kernel_rfl) (by kernel_rfl) (by kernel_rfl) ?_;simp only[go_sem,zFi,hst7];refine⟨by rw[zG (by omega)];exact hl3',?_⟩;generalize hB:LRec.mk .busy _ _ _ _ _ _=B;have hLB:({ B with st:= .ready,pending:=none } :LRec)=L:=by rw[←hB,←hL]
  obtain⟨S1,H,hHe,hHn,hrow,hHi,hbH,hwH,hHH,hw⟩:=Lp.open hYl hw3 hid3 hn3 (.row [.int .i64 (t:Int)]) B;rw[hHe];clear hst7 hHe hB;have hS13:∀j,S1 j→j<h3.next:=fun j hj=>y.here _ _ _ hw.1 j hj;have b1:=qf hx p1;have hot:wP fs t=fs[t].out:=by simp[wP,p1]
  have hli:zQb fs t=fs[t].list:=by simp[zQb,p1]
  have hfo:∀ {fr:Frm} {G h7:Heap} {S5:Nat→Prop},G.at' w.next=some (.loop B)→But (fun j=>j=w.next) h3 G→(∀j,S5 j→S1 j∨G.next≤j)→But S1 G h7→Y (yK (zDr fs) (zBx fs O) (k+1)) S5 h7→zAG (LpK w.next L (WK m1 (.map (kmD (D.int .i64) M)) m2 (.map (kvD O)) fun k=>Y (yK (zDr fs) (zBx fs O) k)) k S0 h3) w.next .normal fr h7:=fun a1 a2 a3 a4 a5=>Lp.call hYl hLB hid3 hn3 hw a1 a2 a3 a4 a5;rw[qr ht] at hfo;have k1:fs[t].cells[2]? =some (.str fs[t].out):=rfl;have k2:fs[t].cells[8]? =some (.int .i64 0)∨True:= .inr trivial;have k8:fs[t].cells[11]? =some fs[t].d:=rfl;have okf:=hok _ (List.getElem_mem p1)
  have hcs:=zCS okf.list okf.ll;obtain⟨q1,q2,_⟩:=zK okf.list;have hlk:=zUo hHH.1.2 (wP fs t) true;have hmt:zBx fs O t=match ww (wP fs t) O with
   |none=>[]
   |some own=>if(fs[t].list.any fun s=>s==own)=true then [] else(zBw fs t).flatMap (zIb t):=by unfold zBx;rw[hli]
  rw[←hot] at k1;clear hot hli k2;generalize fs[t]=f at *
  refine zz Heap.emp [(0, .no,false),(4, .no,false),(8, .no,false),(1, .no,false),(2, .no,false),(3, .no,false),(5, .no,false),(6, .no,false),(7, .no,false),(9, .no,false),(10, .no,false),(11, .no,false),(12, .no,false),(13, .no,false),(14, .no,false),(15, .no,false),(16, .no,false),(17, .no,false)] (by kernel_rfl) (by kernel_rfl) (fun i ob e=>by cases e) ?_;have hquiet:zBx fs O t= []→∀fr,zAG (LpK w.next L (WK m1 (.map (kmD (D.int .i64) M)) m2 (.map (kvD O)) fun k=>Y (yK (zDr fs) (zBx fs O) k)) k S0 h3) w.next .normal fr H:=fun e fr=>by
   rw[e,List.append_nil] at hfo;exact hfo hHi hbH (fun j hj=> .inl hj) (But.refl S1 H) hwH
  cases hov:ww (wP fs t) O with
  |none=>
   rw[hov] at hlk hmt;replace hlk:yS Tryz.prog 149 (.map m2) (.str (wP fs t)) true H=some (.tuple [.str [], .bool false]):=hlk;have hfn:=hquiet hmt;clear hL hLB hs0 hY hH hw3 hl3' hl3 ht hcf0 hfo hquiet hmt hov hwH hHH
   repeat' first|simp only[go_sem,zFi,zW, *]|apply bc<;>intro hc
   refine zz Heap.emp [(0, .no,false),(1, .no,false),(2, .no,false),(3, .no,false),(7, .no,false),(4, .no,false),(5, .no,false),(6, .no,false),(8, .no,false),(9, .no,false),(10, .no,false),(11, .no,false),(12, .no,false),(13, .no,false)] (by kernel_rfl) (by kernel_rfl) (fun i ob e=>by cases e) ?_
   repeat' first|simp only[go_sem,zFi,zW, *]|apply bc<;>intro hc
  |some own=>
   rw[hov] at hlk hmt;replace hlk:yS Tryz.prog 149 (.map m2) (.str (wP fs t)) true H=some (.tuple [.str own, .bool true]):=hlk;cases hin:f.list.any fun s=>s==own with
   |true=>
    have hfn:=hquiet (by rw[hmt];simp only[hin,if_true]);clear hL hLB hs0 hY hH hw3 hl3' hl3 ht hcf0 hfo hquiet hmt hov hwH hHH;have hc0:=hcs own H;rw[hin] at hc0
    repeat' first|simp only[go_sem,zFi,zW, *]|apply bc<;>intro hc
    refine zz Heap.emp [(0, .no,false),(1, .no,false),(2, .no,false),(3, .no,false),(7, .no,false),(4, .no,false),(5, .no,false),(6, .no,false),(8, .no,false),(9, .no,false),(10, .no,false),(11, .no,false),(12, .no,false),(13, .no,false)] (by kernel_rfl) (by kernel_rfl) (fun i ob e=>by cases e) ?_
    repeat' first|simp only[go_sem,zFi,zW, *]|apply bc<;>intro hc|(refine zA.mono hc0 ?_;rintro r h ⟨hq,rfl⟩)
   |false=>
    have hmt2:zBx fs O t=(zBw fs t).flatMap (zIb t):=by rw[hmt];simp only[hin,Bool.false_eq_true,if_false]
    rw[hmt2] at hfo;have hc0:=hcs own H;rw[hin] at hc0;clear hquiet hmt hmt2 hov hcs hin;have hcf:=fun g=>zFy [ca,cb,ce,cp,x, .map m1, .map m2] 2 (hf:= .fn (.func 208) [] [.iptr [.iptr [ca,cb,ce,cp,x, .map m1, .map m2] 0] 0, .ptr h3.next 0]) ⟨_,_,_,rfl⟩ g
    repeat' first|simp only[go_sem,zFi,zW, *]|apply bc<;>intro hc
    refine zz Heap.emp [(0, .no,false),(1, .no,false),(2, .no,false),(3, .no,false),(7, .no,false),(4, .no,false),(5, .no,false),(6, .no,false),(8, .no,false),(9, .no,false),(10, .no,false),(11, .no,false),(12, .no,false),(13, .no,false)] (by kernel_rfl) (by kernel_rfl) (fun i ob e=>by cases e) ?_
    repeat' first|simp only[go_sem,zFi,zW, *]|apply bc<;>intro hc|(refine zA.mono hc0 ?_;rintro r h ⟨hq,rfl⟩)
    subst hq
    rename Heap=>H
    repeat' first|simp only[go_sem,zFi,zDO, *]|apply bc<;>intro hc|(refine zA.mono (hcf _) ?_;rintro r h ⟨hq,rfl⟩)
    subst hq
    rename Heap=>H
    generalize hL2:LRec.mk .ready _ _ _ _ _ _=L2;have hpe2:L2.pending=none:=by rw[←hL2]
    have hrd2:L2.st= .ready:=by rw[←hL2]
    have hYl2:=y.lcl fun k2=>yK (zDr fs) (zBx fs O) k++yK (zBw fs t) (zIb t) k2;obtain⟨l,hl⟩:∃l:List (Nat×Obj),l= [(h3.next, .row [.int .i64 (t:Int)])]:=⟨_,rfl⟩;have hst0:∀p∈l,p.1<H.next∧H.at' p.1=some p.2∧¬S1 p.1:=by
     rw[hl];intro p hp;cases List.mem_singleton.1 hp;exact⟨by rw[hHn];omega,hrow,fun e=>Nat.lt_irrefl _ (hS13 _ e)⟩
    have hget3:∀ {h:Heap},(∀p∈l,p.1<h.next∧h.at' p.1=some p.2)→h3.next<h.next∧h.at' h3.next=some (.row [.int .i64 (t:Int)]):=by
     rw[hl];exact fun hp=>hp (h3.next, .row [.int .i64 (t:Int)]) (by simp)
    clear hl;refine⟨⟨_,hHi⟩,we (W:=WL l fun k2=>Y (yK (zDr fs) (zBx fs O) k++yK (zBw fs t) (zIb t) k2)) (n:=(zBw fs t).length) (el:=elI (zBw fs t)) (S:=fun j=>(∃p∈l,j=p.1)∨S1 j) hHn (WL.lcl hYl2) hrd2 hpe2 ?_ (fun yl hY0=>zDi (sc:=[ca,cb,ce,cp,x, .map m1, .map m2]) rfl hx (by omega) hs0.ok yl (R:=fun j=>j=h3.next) ?_ (fun g hg h2 hr=> ?_) hY0) ?_ ?_⟩
    ·exact WL.start (by rw[show yK (zBw fs t) (zIb t) 0= [] from rfl,List.append_nil];exact hwH) hst0
    ·rintro j rfl;refine⟨by rw[zm _ (by omega)];omega, .inr ?_⟩;rintro k S2 h2 ⟨_,_,S0,hk,_⟩;rw[(hget3 hk.st).2,zG (by omega),hrow]
    ·exact(zas (sc:=[ca,cb,ce,cp,x, .map m1, .map m2]) rfl hx p1 g (by rw[hr _ rfl,zG (by omega),hrow])).mono fun r h3 e=>e
    ·intro k2 S3 h5 hk2 hid4 hl4 hw4 hn4;obtain⟨v,hv⟩:∃v,(zBw fs t)[k2]? =some v:=⟨_,List.getElem?_eq_getElem hk2⟩;have hgv:(zBw fs t).getD k2 0=v:=by rw[List.getD_eq_getElem?_getD,hv];rfl
     have hvl:v<fs.length:=by
      have:=(wo _ fs 0 v (List.mem_of_getElem? hv)).2;omega
     simp only[elI,hgv];have hl4':=hl4;rw[←hL2] at hl4';refine yi.round (g:=zJg) mix hl4' rfl (by kernel_rfl) (by kernel_rfl) (by kernel_rfl) ?_;simp only[go_sem,zFi];refine⟨hl4',?_⟩;generalize hB2:LRec.mk .busy _ _ _ _ _ _=B2;have hLB2:({ B2 with st:= .ready,pending:=none } :LRec)=L2:=by rw[←hB2,←hL2]
     obtain⟨S4,H4,hHe4,hHn4,hHi4,hbH4,hwH4,hHH4,hw5⟩:=Lp.openL0 hYl2 hw4 hid4 hn4 B2;rw[hHe4];obtain⟨g2,g3⟩:=hget3 (h:=H4) fun p hp=>⟨by rw[hHn4];exact(hHH4 p hp).1,(hHH4 p hp).2⟩;have hul:(yK (zDr fs) (zBx fs O) k++yK (zBw fs t) (zIb t) k2).length<16777216:=by
      have q1:=zCg (V:=zBx fs O) (l:=zDr fs) (m:=16) (fun t _=>zIc hn O t) k;have q2:=zCg (V:=zIb t) (l:=zBw fs t) (m:=1) (fun k _=>Nat.le_refl _) k2;have q3:(zBw fs t).length≤fs.length:=ye _ fs 0;have q4:(zDr fs).length≤fs.length:=ye _ fs 0;rw[List.length_append];omega
     have hgo:=y.go _ S4 H4 [(t:Int),(v:Int)] .full hwH4 hul (by simp) (by simp) (by
      intro n hn;simp only[List.mem_cons,List.not_mem_nil,or_false] at hn;rcases hn with rfl|rfl<;>exact zRf (by omega))
     simp only[List.nil_append,List.cons_append] at hgo;have hb2:=bs2 (t:Int) (v:Int);simp only[go_sem,zFi,hb2,g3];refine hgo.mono ?_;rintro r h7 ⟨S5,hs5,hb5,hw6⟩;rw[List.append_assoc] at hw6;refine Lp.callL hYl2 hLB2 hid4 hn4 hw5 hHi4 hbH4 hs5 hb5 ?_;rw[qr hv];exact hw6
    ·intro S' h5 hs hb hw5;obtain⟨S5,hs5,hb5,hw6⟩:=WL.stop (fun p hp=>(hst0 p hp).2.1) (fun j hj=>by rw[hHn];exact hs j hj) hb hw5;rw[zAD] at hw6;have hfn:=fun fr=>hfo (fr:=fr) hHi hbH hs5 hb5 hw6;simp only[go_sem,zFi];exact hfn _
 ·intro S2 h5 hs hb hw;obtain⟨S5,hs5,hb5,hw5⟩:=WK.stop hH.1.1 hH.1.2 hs hb hw;rw[zAD] at hw5;simp only[go_sem,zFi];exact⟨S5,hs5,hb5,hw5⟩
def zNJ (h:Nat):List (List Int):=[[(h:Int)]]
def zF0 (c:Cat) (fs:List Fac):List (List Int):=if decide ((c.ls.length:Int)>0)=true then [] else(zIa fs).flatMap zNJ
set_option maxHeartbeats 8000000 in
theorem zfO {c:Cat} {fs:List Fac} {al:Nat→Option Alt} {M:KM Int} {O:KV} {sc:List D} {m1 m2:Nat} (hs:Stt c fs al M O sc m1 m2) (hn:fs.length≤16)
  {ff:FuncId} {cap:List D} {Y:List (List Int)→(Nat→Prop)→Heap→Prop} (y:Fnd2 Tryz.prog 5 ff cap Y) {S:Nat→Prop} {w:Heap} (hY:Y [] S w) (hH:StH M O m1 m2 w) (n1:¬S m1) (n2:¬S m2):
  zA Tryz.prog 160 [.iptr sc 0, .fn (.func ff) [] cap] w fun _ h'=>∃S',(∀i,S' i→S i∨w.next≤i)∧But S w h'∧Y (zF0 c fs) S' h':=by
 have hs0:=hs;obtain⟨⟨ca,cb,ce,cp,x,rfl,hc,hx,hca⟩,sm,hlen,hok,hget,halt⟩:=hs;have hll:=wd hca;have hcf0:=fun g=>zFy [ca,cb,ce,cp,x, .map m1, .map m2] 2 (hf:= .fn (.func 209) [] []) ⟨_,_,_,rfl⟩ g;refine zA.of_fn (g:=zMR) mix Tryz.func160 zeQ rfl rfl ?_;simp only[Tryz.f160,gJ];cases hd:decide ((c.ls.length:Int)>0) with
 |true=>
  have hn0:zF0 c fs= []:=by unfold zF0;rw[hd];rfl
  have hfn:∃S',(∀i,S' i→S i∨w.next≤i)∧But S w w∧Y (zF0 c fs) S' w:=⟨S,fun i hi=> .inl hi,But.refl S w,by rw[hn0];exact hY⟩;clear hn0 hcf0
  repeat' first|simp only[go_sem,zTn,zW, *]|apply bc<;>intro hc
 |false=>
  have hn0:zF0 c fs=(zIa fs).flatMap zNJ:=by unfold zF0;rw[hd];rfl
  rw[hn0];clear hn0
  repeat' first|simp only[go_sem,zTn,zW,zDO, *]|apply bc<;>intro hc|(refine zA.mono (hcf0 _) ?_;rintro r h ⟨hq,rfl⟩)
  subst hq
  rename Heap=>w
  generalize hL:LRec.mk _ _ _ _ _ _ _=L;have hpe:L.pending=none:=by rw[←hL]
  have hrd:L.st= .ready:=by rw[←hL]
  have hYl:=y.lcl fun k=>yK (zIa fs) zNJ k;obtain⟨l,hl⟩:∃l:List (Nat×Obj),l= []:=⟨_,rfl⟩;have hst0:∀p∈l,p.1<w.next∧w.at' p.1=some p.2∧¬S p.1:=by rw[hl];intro p hp;cases hp
  clear hl;refine we (W:=WL l fun k=>Y (yK (zIa fs) zNJ k)) (n:=(zIa fs).length) (el:=elI (zIa fs)) (S:=fun j=>(∃p∈l,j=p.1)∨S j) rfl (WL.lcl hYl) hrd hpe (WL.start hY hst0) (fun yl hY0=>zDi (sc:=[ca,cb,ce,cp,x, .map m1, .map m2]) rfl hx (by omega) hs0.ok yl (R:=fun j=>False) (fun _ h=>h.elim) (fun g hg h2 hr=>zar g h2) hY0) ?_ ?_
  ·intro k S0 h3 hk hid3 hl3 hw3 hn3;obtain⟨t,ht⟩:∃t,(zIa fs)[k]? =some t:=⟨_,List.getElem?_eq_getElem hk⟩;have hgt:(zIa fs).getD k 0=t:=by rw[List.getD_eq_getElem?_getD,ht];rfl
   have p1:t<fs.length:=by
    have:=(wo _ fs 0 t (List.mem_of_getElem? ht)).2;omega
   simp only[elI,hgt];have hl3':=hl3;rw[←hL] at hl3';refine yi.round (g:=zMR) mix hl3' rfl (by kernel_rfl) (by kernel_rfl) (by kernel_rfl) ?_;simp only[go_sem,zTn];refine⟨hl3',?_⟩;generalize hB:LRec.mk .busy _ _ _ _ _ _=B;have hLB:({ B with st:= .ready,pending:=none } :LRec)=L:=by rw[←hB,←hL]
   obtain⟨S1,H,hHe,hHn,hHi,hbH,hwH,hHH,hw⟩:=Lp.openL0 hYl hw3 hid3 hn3 B;rw[hHe];have hul:(yK (zIa fs) zNJ k).length<16777216:=by
    have q2:=zCg (V:=zNJ) (l:=zIa fs) (m:=1) (fun k _=>Nat.le_refl _) k;have q3:(zIa fs).length≤fs.length:=ye _ fs 0;omega
   have hgo:=y.go _ S1 H [(t:Int)] .full hwH hul (by simp) (by simp) (by
    intro n hn;cases List.mem_singleton.1 hn;exact zRf (by omega))
   simp only[List.nil_append,List.cons_append] at hgo;have hb1:=bs1 (t:Int);simp only[go_sem,zTn,hb1];refine hgo.mono ?_;rintro r h7 ⟨S5,hs5,hb5,hw6⟩;refine Lp.callL hYl hLB hid3 hn3 hw hHi hbH hs5 hb5 ?_;rw[qr ht];exact hw6
  ·intro S2 h5 hs hb hw;obtain⟨S5,hs5,hb5,hw5⟩:=WL.stop (fun p hp=>(hst0 p hp).2.1) hs hb hw;rw[zAD] at hw5;simp only[go_sem,zTn];exact⟨S5,hs5,hb5,hw5⟩
end Go.V
