/- A machine of abstract values for programs of the model, further rules, part 5. No condition. -/
import Derived.Test.YtmhkjfajejaniaaGreatDoorW32
import Derived.Test.YtmhkjfajejaniaaGreatDoorW39
import Derived.Test.YtmhkjfajejaniaaGreatDoorW38
import Derived.Test.YtmhkjfajejaniaaGreatDoorW30
import Derived.Test.YtmhkjfajejaniaaGreatDoorW31
import Derived.Test.YtmhkjfajejaniaaGreatDoorW21
import Derived.Test.YtmhkjfajejaniaaGreatDoorW34
set_option linter.all false
namespace Go.V
structure Ows (h0 h:Heap) (L:List (Nat×List (List D) ×D)):Prop where
 ext:Ext h0 h
 own:∀p∈L,wQ h p.1 p.2.1 p.2.2∧∀i,zAB p.2.2 i→h0.next≤i
 dis:L.Pairwise fun p q=>∀i,zAB p.2.2 i→¬zAB q.2.2 i
section
variable {h0 h h':Heap} {L L':List (Nat×List (List D) ×D)}
theorem Ows.perm (ho:Ows h0 h L) (hp:L.Perm L'):Ows h0 h L':=
 ⟨ho.ext,fun p q=>ho.own p (hp.mem_iff.2 q),(hp.pairwise_iff fun {p q} hpq i h1 h2=>hpq i h2 h1).1 ho.dis⟩
theorem Ows.upd (ho:Ows h0 h L) (he:Ext h0 h') (hn:h.next≤h'.next) (hk:∀i,h.at' i=some .tok→h'.at' i=h.at' i):Ows h0 h' L:=
 ⟨he,fun p q=>⟨(ho.own p q).1.loc hn fun i hi=>hk i ((ho.own p q).1.tok hi).2,(ho.own p q).2⟩,ho.dis⟩
theorem Ows.set (ho:Ows h0 h L) {id:Nat} {o o':Obj} (hid:h0.next≤id) (hi:h.at' id=some o) (hne:o≠ .tok):Ows h0 (h.set id o') L:=
 ho.upd (ho.ext.set hid _) (Nat.le_refl _) fun i ht=>zE fun e=>by subst e;rw[hi] at ht;exact hne (Option.some.inj ht)
theorem Ows.new (ho:Ows h0 h L) (o:Obj):Ows h0 (h.new h.next o) L:=
 ⟨ho.ext.new ho.ext.1 _,fun p q=>⟨(ho.own p q).1.loc (qY _ _ _) fun i hi=>zD fun e=>by
  subst e;have:=((ho.own p q).1.tok hi).1;exact absurd this (Nat.lt_irrefl _),(ho.own p q).2⟩,ho.dis⟩
theorem Ows.sl (ho:Ows h0 h L) {sz:Nat} {xs:List (List D)} {d:D} (hp:(sz,xs,d)∈L):wQ h sz xs d:=(ho.own _ hp).1
theorem Ows.flat (ho:Ows h0 h L) {sz:Nat} {xs:List (List D)} {d:D} (hp:(sz,xs,d)∈L):d.flat=true∧d.cells= [d]∧d.notTuple=true:=by
 rcases ho.sl hp with⟨rfl,_⟩ | ⟨t,rfl,_⟩ <;>exact⟨rfl,rfl,rfl⟩
theorem Ows.appK {P:Program} {sz:Nat} {xs ys:List (List D)} {d:D} {tk:Tk} {t e:TypeId} {K:D→Heap→Prop} {w:HidR K} (ho:Ows h0 h ((sz,xs,d)::L)) (he:qL P t=some e) (hz:zGi P e=true) (hs:szT P e=sz) (hp:0<sz) (hys:∀y∈ys,y.length=sz) (hy0:ys≠[])
  (hb:(xs.length+ys.length)*yR P e≤lim) (hl:xs.length+ys.length≤lim) (hK:∀d' h',Ows h0 h' ((sz,xs++ys,d')::L)→h.next≤h'.next→(∀i,i<h.next→h.at' i≠some .tok→h'.at' i=h.at' i)→K d' h'):zYR (yD P false h.next t d (.sl sz ys tk) h) K w:=by
 have hd:=ho.own (sz,xs,d) (by simp);obtain⟨w2,w3⟩:=List.pairwise_cons.1 ho.dis;refine hd.1.app2 he hz hs hp hys hy0 hb hl fun d' h' o n keep tkn c f=>hK d' h' ⟨⟨Nat.le_trans ho.ext.1 n,fun i hi=> ?_⟩,fun p q=> ?_,?_⟩ n fun i hi hne=>keep i hi fun e=>hne (hd.1.tok e).2
 ·rw[keep i (Nat.lt_of_lt_of_le hi ho.ext.1) (fun q=>by have:=hd.2 i q;omega)];exact ho.ext.2 i hi
 ·rcases List.mem_cons.1 q with rfl|q
  ·exact⟨o,fun i hi=>Nat.le_trans ho.ext.1 (tkn i hi)⟩
  ·obtain⟨a1,a2⟩:=ho.own p (List.mem_cons_of_mem _ q);exact⟨a1.loc n fun i hi=>keep i (a1.tok hi).1 fun z=>w2 p q i z hi,a2⟩
 ·refine List.pairwise_cons.2 ⟨fun p q i hi hj=> ?_,w3⟩;have:=tkn i hi;have:=((ho.own p (List.mem_cons_of_mem _ q)).1.tok hj).1;omega
end
section
variable {α:Type} {a b c d:α}
theorem zfc: [a,b,c,d].Perm [b,a,c,d]:=List.perm_middle (l₁:=[a]) (l₂:=[c,d])
theorem zfd: [a,b,c,d].Perm [c,a,b,d]:=List.perm_middle (l₁:=[a,b]) (l₂:=[d])
theorem zfe: [a,b,c,d].Perm [d,a,b,c]:=List.perm_middle (l₁:=[a,b,c]) (l₂:=[])
end
set_option maxRecDepth 100000
def Ik (K:Nat→Bool) (i:Nat):List Nat:=(List.range i).filter K
section
variable {fs:List Fac} {y:Cho} {K:Nat→Bool} {i:Nat}
theorem zVB (h:K i=true):Ik K (i+1)=Ik K i++ [i]:=by
 unfold Ik;rw[List.range_succ,List.filter_append,List.filter_cons_of_pos h];rfl
theorem zi8 (h:K i=false):Ik K (i+1)=Ik K i:=by
 unfold Ik;rw[List.range_succ,List.filter_append,List.filter_cons_of_neg (by rw[h];decide),List.filter_nil,List.append_nil]
theorem zVC (h:i≤fs.length):InI fs (Ik K i):=
 ⟨fun x hx=>by have:=List.mem_range.1 (List.mem_filter.1 hx).1;omega,(List.pairwise_lt_range).sublist List.filter_sublist⟩
theorem zYe:(Ik K i).length≤i:=by unfold Ik;have:=List.length_filter_le K (List.range i);rwa [List.length_range] at this
theorem zVD (hi:i<fs.length) (h:K i=true):zK fs (Ik K (i+1))=zK fs (Ik K i)++ [fs[i]]:=by rw[zVB h,zKH,zRt hi]
theorem zff (h:K i=true) (hk:yX fs i=1):qK y fs (Ik K (i+1))=qK y fs (Ik K i)++ [zBM y (zAJ fs i)]:=by
 unfold qK;rw[zVB h,List.filter_append,List.map_append,List.filter_cons_of_pos (by simpa using hk)];rfl
theorem zfg (h:K i=true) (hk:yX fs i≠1):qK y fs (Ik K (i+1))=qK y fs (Ik K i):=by
 unfold qK;rw[zVB h,List.filter_append,List.map_append,List.filter_cons_of_neg (by simpa using hk)];simp
theorem zfh (hi:i<fs.length) (h:K i=true) (hk:yX fs i=2) (hn:((zU (zK fs (Ik K i)) []).any fun z=>z==fs[i].out)=false):zU (zK fs (Ik K (i+1))) []=zU (zK fs (Ik K i)) []++ [fs[i].out]:=by
 rw[qm hi] at hk;rw[zVD hi h,zAI];simp only[zU];rw[if_neg (by rw[hk];decide),if_pos (by rw[hk];decide),if_neg (by rw[hn];decide)]
theorem zfi (hi:i<fs.length) (h:K i=true) (hn:yX fs i=2→((zU (zK fs (Ik K i)) []).any fun z=>z==fs[i].out)=true):zU (zK fs (Ik K (i+1))) []=zU (zK fs (Ik K i)) []:=by
 rw[qm hi] at hn;rw[zVD hi h,zAI];simp only[zU];split
 ·rfl
 ·split
  ·rename_i q;rw[if_pos (hn (by simpa using q))]
  ·rfl
theorem zfj (outs names:List (List UInt8)) (o:List UInt8):zD5 y outs (names++ [o])=zD5 y outs names++ [zBN y (outs.findIdx fun z=>z==o)]:=by
 unfold zD5;rw[List.map_append];rfl
theorem zgl (hi:i≤fs.length):(zK fs (Ik K i)).length≤i∧(qK y fs (Ik K i)).length≤i∧(zU (zK fs (Ik K i)) []).length≤i∧∀outs,(zD5 y outs (zU (zK fs (Ik K i)) [])).length≤i:=by
 have h1:=zYe (K:=K) (i:=i);have h2:=wX (zVC (K:=K) hi).lt;have h3:(zU (zK fs (Ik K i)) []).length≤i:=by
  have:=zDu (y:=⟨[],[]⟩) (fs:=zK fs (Ik K i)) _ (Nat.le_refl _);rw[zAm _ (Nat.le_refl _),List.take_length] at this;omega
 refine⟨by omega,?_,h3,fun outs=>by unfold zD5;rw[List.length_map];exact h3⟩;unfold qK;rw[List.length_map];exact Nat.le_trans (List.length_filter_le _ _) h1
theorem zYf {outs:List (List UInt8)} {o:List UInt8} (h:o∈outs):(match outs.findIdx? (· ==o) with|some i=>(i:Int)|none=> -1)=((outs.findIdx fun z=>z==o:Nat):Int)∧(outs.findIdx fun z=>z==o)<outs.length:=by
 have hlt:outs.findIdx (fun z=>z==o)<outs.length:=List.findIdx_lt_length.2 ⟨o,h,by simp⟩
 have:outs.findIdx? (· ==o)=some (outs.findIdx fun z=>z==o):=by
  rw[List.findIdx?_eq_some_iff_findIdx_eq];exact⟨hlt,rfl⟩
 rw[this];exact⟨rfl,hlt⟩
end
open Go.Proofs
theorem zVE {c:Cat} {fs:List Fac} (h:(zAG c fs==0)=true) (hm:((zLa c fs:Int)==0)=false) (n:Nat):zC0 c fs ((n%zLa c fs:Nat):Int)=0:=by
 have hp:0<zLa c fs:=by
  have:(zLa c fs:Int)≠0:=by simpa using hm
  omega
 have hlt:=Nat.mod_lt n hp;unfold zC0;rw[h];simp only[Bool.not_true,Bool.false_eq_true,if_false];rw[if_neg];simp only[Bool.or_eq_true,decide_eq_true_eq,not_or];omega
theorem zbF {n m:Nat} (hm:((m:Int)==0)=false):wZ .rem .i64 .i64 (n:Int) (m:Int)=some (.int .i64 ((n%m:Nat):Int)):=by
 have b0:¬(m:Int)=0:=by simpa using hm
 have b1:(n:Int).tmod (m:Int)=((n%m:Nat):Int):=by rw[Int.tmod_eq_emod_of_nonneg (by omega)];rfl
 simp only[wZ,zLn,if_true];rw[if_neg b0,b1]
theorem zVF {sz:Nat} {xs:List (List D)} :za sz xs (nd sz xs):=by
 cases xs with
 |nil=>exact .inl ⟨rfl,rfl⟩
 |cons x xs=>exact za.mk .no
theorem zbG {c:Cat} {fs:List Fac} {k:Int} (hl:fs.length≤65536) (hk:zC0 c fs k=0):(zHM c fs k.toNat).Sm:=by
 obtain⟨vl1,vl2⟩:=zDs (c:=c) (l:=fs);have hT:(zHM c fs k.toNat).ts.length=(zG c fs).1.length:=by simp[zHM,zW3,yt]
 have hO:(zHM c fs k.toNat).own.length=(zG c fs).2.1.length:=by simp[zHM,zW4,zA0]
 refine⟨by omega,by omega,fun a ha=> ?_⟩;obtain⟨t,ht,rfl⟩:=List.mem_map.1 ha;refine⟨za.mk .no,?_⟩;show t.length≤1048576;unfold zW3 yt at ht;obtain⟨i,hi,rfl⟩:=List.mem_map.1 ht;have hi:=List.mem_range.1 hi;rw[List.getD_eq_getElem?_getD (l:=(zG c fs).1),List.getElem?_eq_getElem hi,Option.getD_some];have hv:=(zBt (c:=c) (l:=fs) _ (List.getElem_mem hi)).2;rw[List.getD_eq_getElem?_getD];cases hg:((zG c fs).1[i])[(zEh (zD0 c (zG c fs).1 (zG c fs).2.1) k.toNat).1.getD i 0]? with
 |none=>simp
 |some z=>
  have:=(hv.ts z (List.mem_of_getElem? hg)).2;simp only[Option.getD_some];omega
theorem zbH {c:Cat} {fs:List Fac} {d x td od:D} (hc:qg c d) (hs:c.Sm) (hx:za 12 (zCz fs) x) (hF:zgj fs) (hok:∀f∈fs,f.Ok) {k:Int} (hk:zC0 c fs k=0) (h1:za 1 (yK ((zW3 c fs k.toNat).map mkA)) td) (h2:za 1 (yI (zW4 c fs k.toNat)) od):CIn c fs (zHM c fs k.toNat) d x (.agg [td,od]):=
 ⟨hc,hs,hx,by have:=hF.1.2;omega,hF.1.1,hok,⟨td,od,rfl,h1,h2⟩,zbG (by have:=hF.1.2;omega) hk⟩
theorem zNc {c:Cat} {fs:List Fac} (h:(zG c fs).2.2=0):(zG c fs).2.1=zU fs []:=by
 unfold zG at h⊢;by_cases q:(!((yw c fs).2==0))=true
 ·rw[if_pos q] at h
  have:(yw c fs).2≠0:=by simpa using q
  exact absurd h this
 ·rw[if_neg q] at h⊢;exact(zCR h).2
theorem zYg {c:Cat} {fs:List Fac} {y:Cho} (W:Whole c fs y) {k:Nat} (h:k<fs.length) (hk:yX fs k=1):zBM y (zAJ fs k)∈y.ts:=by
 have h2:zAJ fs k<y.ts.length:=by rw[W.tl];exact(List.getElem?_eq_some_iff.1 (zQl h hk)).1
 unfold zBM;rw[List.getD_eq_getElem?_getD,List.getElem?_eq_getElem h2];exact List.getElem_mem h2
theorem zbI {c:Cat} {fs:List Fac} {y:Cho} (W:Whole c fs y) (hs:y.Sm) {K:Nat→Bool} :(zIr y fs (Ik K fs.length)).Sm:=by
 obtain⟨l1,l2,l3,l4⟩:=zgl (fs:=fs) (y:=y) (K:=K) (Nat.le_refl fs.length);have:=W.len;have h1:(qK y fs (Ik K fs.length)).length≤1048576:=by omega
 have h2:(zD5 y (zU fs []) (zU (zK fs (Ik K fs.length)) [])).length≤1048576:=by have:=l4 (zU fs []);omega
 refine⟨h1,h2,fun a ha=> ?_⟩;obtain⟨k,hk,rfl⟩:=List.mem_map.1 ha;obtain⟨h1,h2⟩:=List.mem_filter.1 hk;exact hs.ts _ (zYg W ((zVC (K:=K) (Nat.le_refl _)).lt k h1) (by simpa using h2))
theorem zXL {c:Cat} {fs:List Fac} {y:Cho} {d sd td wd:D} (hc:qg c d) (hs:c.Sm) (h16:fs.length≤16) (hok:∀f∈fs,f.Ok) (W:Whole c fs y) (ysm:y.Sm) {K:Nat→Bool} (h1:za 12 (zCz (zK fs (Ik K fs.length))) sd) (h2:za 1 (yK (qK y fs (Ik K fs.length))) td) (h3:za 1 (yI (zD5 y (zU fs []) (zU (zK fs (Ik K fs.length)) []))) wd):CIn c (zK fs (Ik K fs.length)) (zIr y fs (Ik K fs.length)) d sd (.agg [td,wd]):=by
 have hl:=(zgl (fs:=fs) (y:=y) (K:=K) (Nat.le_refl fs.length)).1;exact⟨hc,hs,h1,by omega, .inl (by omega),fun f hf=>hok f (zAn hf),⟨td,wd,rfl,h2,h3⟩,zbI W ysm⟩
theorem zbJ (f:Fac) (nid:Nat) (h:Heap):zM Tryz.prog false nid 29 1 [(0, .agg f.cells)] h=some (.sl 12 [f.cells] .full,h):=yf zDn zVo zGT rfl rfl (by omega) (by omega) rfl rfl
def PSt (g:Heap) (fs:List Fac) (y:Cho) (K:Nat→Bool) (n9 n11 i:Nat) (sd nm:D) (h:Heap):Prop:=
 ∃zt zo,Ows g h [(12,zCz (zK fs (Ik K i)),sd),(1,yI (zU (zK fs (Ik K i)) []),nm),(1,yK (qK y fs (Ik K i)),zt),(1,yI (zD5 y (zU fs []) (zU (zK fs (Ik K i)) [])),zo)]∧h.at' n11=some (.row [zt,zo])∧h.at' n9=some (.row [.nilsl, .nilsl])∧n9<h.next∧n11<h.next
structure PIn (fs:List Fac) (y:Cho) (x ta oa od:D):Prop where
 x:za 12 (zCz fs) x
 len:fs.length≤65536
 ok:∀f∈fs,f.Ok
 pl:∀f∈fs,yS f.cells
 ta:za 1 (yK y.ts) ta
 oa:za 1 (yI y.own) oa
 od:za 1 (yI (zU fs [])) od
 tl:y.ts.length=(zEj fs).length
 ol:y.own.length=(zU fs []).length
 tp:∀a∈y.ts,a.d.cells= [a.d]∧a.d.notTuple=true∧a.d.flat=true∧yS [a.d]
set_option maxHeartbeats 8000000 in
theorem zfk {fs:List Fac} {y:Cho} {x ta oa od:D} (I:PIn fs y x ta oa od) {f:FuncId} {cap:List D} {K:Nat→Bool} {g:Heap} (hp:∀i:Nat,i<fs.length→∀h,Ext g h→zA Tryz.prog f ([]++ [.int .i64 (i:Int)]++cap) h fun r h'=>h'=h∧r= .bool (K i)):
  zA Tryz.prog 25 [x, .agg [ta,oa],od, .fn (.func f) [] cap] g fun r h'=>h'=g∧∃sd td wd,r= .tuple [sd, .agg [td,wd]]∧Fin 12 (zCz (zK fs (Ik K fs.length))) sd∧Fin 1 (yK (qK y fs (Ik K fs.length))) td∧Fin 1 (yI (zD5 y (zU fs []) (zU (zK fs (Ik K fs.length)) []))) wd:=by
 refine zA.pure (by kernel_rfl) fun hok=>zA.strip ?_;refine zA.post fun Q hQ=> ?_;have hx:=I.x;have hlx:=zAq hx;have hlen:=I.len;have hv2:∀a b:D,zS true 2 [a,b] 0=some (.agg [a,b]):=fun a b=>zB rfl (by omega);have h12:=zIS;refine zA.of_fn (g:=zZv) mix Tryz.func25 zlF rfl rfl ?_;simp only[Tryz.f25,gJ]
 obtain⟨G,hG,q1,q2,q3,q4,qE⟩:∃G,(g.new g.next (.row [.nilsl, .nilsl])).new (g.new g.next (.row [.nilsl, .nilsl])).next (.row [.nilsl, .nilsl])=G∧G.at' g.next=some (.row [.nilsl, .nilsl])∧G.at' (g.new g.next (.row [.nilsl, .nilsl])).next=some (.row [.nilsl, .nilsl])∧g.next<(g.new g.next (.row [.nilsl, .nilsl])).next∧(g.new g.next (.row [.nilsl, .nilsl])).next<G.next∧Ext g G:=by
  have e2:∀ (h:Heap) (o:Obj),h.next<(h.new h.next o).next:=fun h o=>by rw[zF];omega
  have e1:g.next<(g.new g.next (.row [.nilsl, .nilsl])).next:=e2 g _;refine⟨_,rfl,by rw[zD (Nat.ne_of_lt e1)];exact zJ _ _ _,zJ _ _ _,e1,e2 _ _,((Ext.refl g).new (Nat.le_refl _) _).new (Nat.le_of_lt e1) _⟩
 have hQ2:∀sd nm h,PSt g fs y K g.next (g.new g.next (.row [.nilsl, .nilsl])).next fs.length sd nm h→∃zt zo,h.at' (g.new g.next (.row [.nilsl, .nilsl])).next=some (.row [zt,zo])∧h.at' g.next=some (.row [.nilsl, .nilsl])∧zt.flat=true∧zo.flat=true∧Q (.tuple [sd, .agg [zt,zo]]) (h.set g.next (.row [zt,zo])):=by
  rintro sd nm h ⟨zt,zo,ho,r11,r9,l9,l11⟩;have pf:∀c∈zCz (zK fs (Ik K fs.length)),yS c:=fun c hc=>by
   obtain⟨a,ha,rfl⟩:=List.mem_map.1 hc;exact I.pl a (zAn ha)
  have pt:∀c∈yK (qK y fs (Ik K fs.length)),yS c:=fun c hc=>by
   obtain⟨a,ha,rfl⟩:=List.mem_map.1 hc;obtain⟨k,hk,rfl⟩:=List.mem_map.1 ha;obtain⟨hk1,hk2⟩:=List.mem_filter.1 hk;have hk3:=(zVC (K:=K) (fs:=fs) (Nat.le_refl _)).lt k hk1;have h2:zAJ fs k<y.ts.length:=by rw[I.tl];exact(List.getElem?_eq_some_iff.1 (zQl hk3 (by simpa using hk2))).1
   have:zBM y (zAJ fs k)∈y.ts:=by unfold zBM;rw[List.getD_eq_getElem?_getD,List.getElem?_eq_getElem h2];exact List.getElem_mem h2
   exact(I.tp _ this).2.2.2
  have b1:=(ho.sl (sz:=12) (xs:=zCz (zK fs (Ik K fs.length))) (d:=sd) (by simp)).fin pf;have b2:=(ho.sl (sz:=1) (xs:=yK (qK y fs (Ik K fs.length))) (d:=zt) (by simp)).fin pt;have b3:=(ho.sl (sz:=1) (xs:=yI (zD5 y (zU fs []) (zU (zK fs (Ik K fs.length)) []))) (d:=zo) (by simp)).fin qT;refine⟨zt,zo,r11,r9,(ho.flat (sz:=1) (xs:=yK (qK y fs (Ik K fs.length))) (by simp)).1,(ho.flat (sz:=1) (xs:=yI (zD5 y (zU fs []) (zU (zK fs (Ik K fs.length)) []))) (by simp)).1,hQ _ _ ⟨ho.ext.set (Nat.le_refl _) _,?_,yJ sd,yJ zt,yJ zo,?_,b1.2,b2.2,b3.2⟩⟩
  ·simp only[yJ,yE,below,zg];exact⟨z6 (Nat.zero_le _) _ b1.1,⟨z6 (Nat.zero_le _) _ b2.1,z6 (Nat.zero_le _) _ b3.1,trivial⟩,trivial⟩
  ·simp only[yJ,yE]
 have hP0:PSt g fs y K g.next (g.new g.next (.row [.nilsl, .nilsl])).next 0 .nilsl .nilsl G:=by
  refine⟨.nilsl, .nilsl,⟨qE,fun p hp=> ?_,?_⟩,q2,q1,by omega,q4⟩
  ·have:p.2.2= .nilsl∧p.2.1= []:=by
    simp only[List.mem_cons,List.not_mem_nil,or_false] at hp;rcases hp with rfl|rfl|rfl|rfl<;>exact⟨rfl,rfl⟩
   obtain⟨e1,e2⟩:=this;rw[e1,e2];exact⟨.inl ⟨rfl,rfl⟩,fun i hi=>hi.elim⟩
  ·simp[zAB]
 have hgo:Ext g G:=qE;clear hQ
 repeat' first|simp only[go_sem,zK2, *]|apply bc<;>intro hc
 refine zH (fun i fr h=>fr 2=od∧fr 3= .fn (.func f) [] cap∧fr 5= .iptr [ta,oa] 0∧fr 9= .ptr g.next 0∧fr 11= .ptr (g.new g.next (.row [.nilsl, .nilsl])).next 0∧fr 13= .int .i64 (zAJ fs i:Int)∧fr 17=x∧fr 18= .int .i64 (fs.length:Int)∧fr 19= .int .i64 (i:Int)∧PSt g fs y K g.next (g.new g.next (.row [.nilsl, .nilsl])).next i (fr 10) (fr 12) h) fs.length (by omega) ?_ ?_ ?_
 ·simp only[go_sem,zK2,true_and,and_true,Int.ofNat_zero];exact⟨by simp[zAJ],hP0⟩
 ·clear hP0 hQ2 hG q1 q2 q4 qE hgo;have hn11:g.next≤(g.new g.next (.row [.nilsl, .nilsl])).next:=Nat.le_of_lt q3;rintro i fr h hlt ec ew ⟨f2,f3,f5,f9,f11,f13,f17,f18,f19,zt,zo,ho,r11,r9,l9,l11⟩;obtain⟨sd,f10⟩:∃d,fr 10=d:=⟨_,rfl⟩;obtain⟨nm,f12⟩:∃d,fr 12=d:=⟨_,rfl⟩;rw[f10,f12] at ho;have hn9:g.next≤g.next:=Nat.le_refl _;generalize(g.new g.next (.row [.nilsl, .nilsl])).next=n11 at *
  have a1:=qh hx hlt;have hfok:=I.ok _ (List.getElem_mem hlt);have hst:=zJ3 hfok h h.next;obtain⟨ln1,ln2,ln3,ln4⟩:=zgl (fs:=fs) (y:=y) (K:=K) (i:=i) (Nat.le_of_lt hlt);have ln4:=ln4 (zU fs []);obtain⟨H,hH,hr,r11',r9',l9',l11',ho',hE,hnn⟩:∃H,h.new h.next (.row (fs[i]).cells)=H∧H.at' h.next=some (.row (fs[i]).cells)∧H.at' n11=some (.row [zt,zo])∧H.at' g.next=some (.row [.nilsl, .nilsl])∧g.next<H.next∧n11<H.next∧Ows g H [(12,zCz (zK fs (Ik K i)),sd),(1,yI (zU (zK fs (Ik K i)) []),nm),(1,yK (qK y fs (Ik K i)),zt),(1,yI (zD5 y (zU fs []) (zU (zK fs (Ik K i)) [])),zo)]∧Ext g H∧h.next<H.next:=by
   have e2:h.next<(h.new h.next (.row (fs[i]).cells)).next:=by rw[zF];omega
   exact⟨_,rfl,zJ _ _ _,by rw[zD (by omega)];exact r11,by rw[zD (by omega)];exact r9,by omega,by omega,ho.new _,ho.ext.new ho.ext.1 _,e2⟩
  rw[hH] at hst;have hkp:=hp i hlt H hE;obtain⟨n0,hn0⟩:∃n,h.next=n:=⟨_,rfl⟩;rw[hn0] at hst hr hnn l9 l11 hH;have hk:=qm hlt;have hin:=zFb hlt;have hcells:(fs[i]).cells= [.int .i64 (fs[i]).kind, .str (fs[i]).comp, .str (fs[i]).out, .int .i64 (fs[i]).rel, .int .i64 (fs[i]).way, .int .i64 (fs[i]).duty, .bool (fs[i]).chg, .int .i64 (fs[i]).e.kind, .str (fs[i]).e.name, .str (fs[i]).e.exc,(fs[i]).e.d,(fs[i]).d]:=rfl;have hlb:=zGC (fs:=fs) i (Nat.le_of_lt hlt);have wn:IntKind.i64.wrap ((zAJ fs i:Int)+1)=((zAJ fs i+1:Nat):Int):=ze (by unfold lim;omega)
  simp only[List.nil_append,List.cons_append] at hkp;cases bk:K i with
  |false=>
   have hend:PSt g fs y K g.next n11 (i+1) sd nm H:=by
    unfold PSt;rw[zi8 bk];exact⟨zt,zo,ho',r11',r9',l9',l11'⟩
   rw[bk] at hkp;rw[hcells] at a1 hst hr;clear ho ho' hp hH hcells;cases b1:((fs[i]).kind==1) with
   |false=>
    have hin':zAJ fs i=zAJ fs (i+1):=by rw[hin,b1];simp
    rw[hin'] at f13;clear hin hin';generalize fs[i]=F at *
    repeat' first|simp only[go_sem,zK2, *]|apply bc<;>intro hc|(refine zA.mono (hkp) ?_;rintro r h ⟨hq,rfl⟩)
   |true=>
    have hin':zAJ fs i+1=zAJ fs (i+1):=by rw[hin,b1];simp
    rw[hin'] at wn;clear hin hin';generalize fs[i]=F at *
    repeat' first|simp only[go_sem,zK2, *]|apply bc<;>intro hc|(refine zA.mono (hkp) ?_;rintro r h ⟨hq,rfl⟩)
  |true=>
  rw[bk] at hkp;have hap:=zbJ fs[i];rw[hcells] at a1 hst hr hap;have hgs:zCz (zK fs (Ik K (i+1)))=zCz (zK fs (Ik K i))++ [(fs[i]).cells]:=by rw[zVD hlt bk];unfold zCz;rw[List.map_append];rfl
  rw[hcells] at hgs;have hfl:(zCz (zK fs (Ik K i))).length≤i:=by rw[zIT];exact ln1
  have htl:(yK (qK y fs (Ik K i))).length≤i:=by rw[yP];exact ln2
  have hnl:(yI (zU (zK fs (Ik K i)) [])).length≤i:=by rw[zp];exact ln3
  have hol:(yI (zD5 y (zU fs []) (zU (zK fs (Ik K i)) []))).length≤i:=by rw[zp];exact ln4
  have hix:=zK7 I.od (by have:=I.ol;have h2:=zDu (y:=⟨[],[]⟩) (fs:=fs) _ (Nat.le_refl _);rw[zAm _ (Nat.le_refl _),List.take_length] at h2;omega) (fs[i]).out;have hsh:yX fs i=2→(fs[i]).out∈zU fs []:=fun q=>zCT.2 (.inr ⟨_,List.getElem_mem hlt,by rw[←hk];exact q,rfl⟩);have hnmo:=zfi (fs:=fs) (K:=K) hlt bk;have hnmn:=zfh (fs:=fs) (K:=K) hlt bk;have hts1:=zff (fs:=fs) (y:=y) (K:=K) (i:=i) bk;have htsn:=zfg (fs:=fs) (y:=y) (K:=K) (i:=i) bk;have hla:=zQl (fs:=fs) hlt;rw[hk] at hsh hnmo hnmn hts1 htsn hla;have hoa:=zfj (y:=y) (zU fs []) (zU (zK fs (Ik K i)) []) (fs[i]).out
  have hidx:=fun q=>zYf (hsh q);have htp:=I.tp;have htl2:=I.tl;have hol2:=I.ol;have lta:=zB2 I.ta;have loa:=yV I.oa;have hta:=I.ta;have hoa2:=I.oa;clear ho hp hH hcells;cases b1:((fs[i]).kind==1) with
  |true=>
   have hk1:(fs[i]).kind=1:=by simpa using b1
   have b2:((fs[i]).kind==2)=false:=by rw[hk1];rfl
   have hin':zAJ fs i+1=zAJ fs (i+1):=by rw[hin,b1];simp
   have hj:=(List.getElem?_eq_some_iff.1 (hla hk1)).1;rw[←htl2] at hj;have hle:decide (((zAJ fs i+1:Nat):Int)≤(y.ts.length:Int))=true:=decide_eq_true (by omega);have wm:IntKind.i64.wrap (((zAJ fs i+1:Nat):Int)-1)=(zAJ fs i:Int):=by rw[zZ (by omega) (by omega)];omega
   have hat:=zDX hta hj;have halt:zBM y (zAJ fs i)=y.ts[zAJ fs i]:=by unfold zBM;rw[List.getD_eq_getElem?_getD,List.getElem?_eq_getElem hj];rfl
   obtain⟨v1,v2,v3,_⟩:=htp _ (List.getElem_mem hj);have hone:=fun nid h=>zEa (y.ts[zAJ fs i]).d nid h v1 v2 v3;have hts1:=hts1 hk1;rw[halt] at hts1;have hnmo:=hnmo (fun q=>by omega);rw[hin'] at wn;rw[hin'] at hle wm
   have hgen:∀sd' H4 zt',Ows g H4 [(12,zCz (zK fs (Ik K (i+1))),sd'),(1,yI (zU (zK fs (Ik K (i+1))) []),nm),(1,yK (qK y fs (Ik K (i+1))),zt'),(1,yI (zD5 y (zU fs []) (zU (zK fs (Ik K (i+1))) [])),zo)]→H4.at' n11=some (.row [zt',zo])→H4.at' g.next=some (.row [.nilsl, .nilsl])→g.next<H4.next→n11<H4.next→PSt g fs y K g.next n11 (i+1) sd' nm H4:=fun sd' H4 zt' h1 h2 h3 h4 h5=>⟨zt',zo,h1,h2,h3,h4,h5⟩;have hta2:yK (qK y fs (Ik K (i+1)))=yK (qK y fs (Ik K i))++ [[(y.ts[zAJ fs i]).d]]:=by rw[hts1];unfold yK;rw[List.map_append];rfl
   rw[hgs,hnmo,hta2] at hgen;clear hgs hnmo hnmn hts1 htsn hla hoa hidx hsh halt htp hin hta2 hk hfok hk1 htl2 hol2;generalize zAJ fs (i+1)=N1 at *
   generalize y.ts[zAJ fs i]=A at *
   generalize fs[i]=F at *
   have hix1:=hix;clear hix
   repeat' first|simp only[go_sem,zK2, *]|apply bc<;>intro hc|(refine zA.mono (hkp) ?_;rintro r h ⟨hq,rfl⟩)
   refine ho'.appK zDn zKu zGT (by omega) (by simp) (by simp) (by rw[zE7];unfold lim;simp only[List.length_cons,List.length_nil];omega) (by unfold lim;simp only[List.length_cons,List.length_nil];omega) fun sd' H2 ho2 hn2 hk2=> ?_;have r2:=hk2 n0 hnn (by rw[hr];intro q;cases q);rw[hr] at r2;have r11b:=hk2 n11 l11' (by rw[r11'];intro q;cases q);rw[r11'] at r11b;have r9b:=hk2 g.next l9' (by rw[r9'];intro q;cases q);rw[r9'] at r9b;clear ho' hk2 hE hr r11' r9'
   repeat' first|simp only[go_sem,zK2, *]|apply bc<;>intro hc
   refine zQ (by kernel_rfl) ?_
   repeat' first|simp only[go_sem,zK2, *]|apply bc<;>intro hc
   refine(ho2.perm zfd).appK wW zER zBk (by omega) (by simp) (by simp) (by rw[zBl];unfold lim;simp only[List.length_cons,List.length_nil];omega) (by unfold lim;simp only[List.length_cons,List.length_nil];omega) fun zt' H3 ho3 hn3 hk3=> ?_;have r3:=hk3 n0 (by omega) (by rw[r2];intro q;cases q);rw[r2] at r3;have r11c:=hk3 n11 (by omega) (by rw[r11b];intro q;cases q);rw[r11b] at r11c;have r9c:=hk3 g.next (by omega) (by rw[r9b];intro q;cases q);rw[r9b] at r9c;obtain⟨u1,u2,_⟩:=ho3.flat (sz:=1) (d:=zt') (List.mem_cons_self ..)
   have hst4:=zT (P:=Tryz.prog) (t:=39) (off:=0) (x:=zt') r11c zJk (by simp) u2 u1;rw[List.set_cons_zero] at hst4;have hne:n0≠n11:=by omega
   have hne9:g.next≠n11:=by omega
   have r4:(H3.set n11 (.row [zt',zo])).at' n0=some (.row [.int .i64 F.kind, .str F.comp, .str F.out, .int .i64 F.rel, .int .i64 F.way, .int .i64 F.duty, .bool F.chg, .int .i64 F.e.kind, .str F.e.name, .str F.e.exc,F.e.d,F.d]):=by rw[zE hne];exact r3
   have hend:=hgen sd' (H3.set n11 (.row [zt',zo])) zt' ((ho3.set hn11 r11c (fun q=>by cases q)).perm zfd.symm) (zC _ _ _) (by rw[zE hne9];exact r9c) (show g.next<H3.next by omega) (show n11<H3.next by omega);generalize H3.set n11 (.row [zt',zo])=H4 at *
   clear ho2 ho3 hk3 hgen r3 r2 r11b r9b r11c r9c
   repeat' first|simp only[go_sem,zK2, *]|apply bc<;>intro hc|(refine zA.mono (hix1 _) ?_;rintro r h ⟨hq2,rfl⟩)
  |false=>
  have hk1:(fs[i]).kind≠1:=by simpa using b1
  have hin':zAJ fs i=zAJ fs (i+1):=by rw[hin,b1];simp
  have htsn:=htsn hk1;rw[hin'] at f13;clear hts1 hla hin hin' wn hlb htp hta lta htl2 hfok;cases b2:((fs[i]).kind==2) with
  |false=>
   have hk2':(fs[i]).kind≠2:=by simpa using b2
   have hnmo:=hnmo (fun q=>absurd q hk2');have hgen:∀sd' H4,Ows g H4 [(12,zCz (zK fs (Ik K (i+1))),sd'),(1,yI (zU (zK fs (Ik K (i+1))) []),nm),(1,yK (qK y fs (Ik K (i+1))),zt),(1,yI (zD5 y (zU fs []) (zU (zK fs (Ik K (i+1))) [])),zo)]→H4.at' n11=some (.row [zt,zo])→H4.at' g.next=some (.row [.nilsl, .nilsl])→g.next<H4.next→n11<H4.next→PSt g fs y K g.next n11 (i+1) sd' nm H4:=fun sd' H4 h1 h2 h3 h4 h5=>⟨zt,zo,h1,h2,h3,h4,h5⟩;rw[hgs,hnmo,htsn] at hgen;clear hgs hnmo hnmn htsn hoa hidx hsh hk;generalize fs[i]=F at *
   have hix1:=hix;clear hix
   repeat' first|simp only[go_sem,zK2, *]|apply bc<;>intro hc|(refine zA.mono (hkp) ?_;rintro r h ⟨hq,rfl⟩)
   refine ho'.appK zDn zKu zGT (by omega) (by simp) (by simp) (by rw[zE7];unfold lim;simp only[List.length_cons,List.length_nil];omega) (by unfold lim;simp only[List.length_cons,List.length_nil];omega) fun sd' H2 ho2 hn2 hk2=> ?_;have r2:=hk2 n0 hnn (by rw[hr];intro q;cases q);rw[hr] at r2;have r11b:=hk2 n11 l11' (by rw[r11'];intro q;cases q);rw[r11'] at r11b;have r9b:=hk2 g.next l9' (by rw[r9'];intro q;cases q);rw[r9'] at r9b;have hend:=hgen sd' H2 ho2 r11b r9b (by omega) (by omega);clear ho' hk2 hE hr r11' r9' hgen ho2
   repeat' first|simp only[go_sem,zK2, *]|apply bc<;>intro hc|(refine zA.mono (hix1 _) ?_;rintro r h ⟨hq2,rfl⟩)
  |true=>
   have hk2':(fs[i]).kind=2:=by simpa using b2
   obtain⟨e1,e2⟩:=hidx hk2';have hix:=fun h=>(hix h).mono (Q':=fun r h'=>h'=h∧r= .int .i64 (((zU fs []).findIdx fun z=>z==(fs[i]).out:Nat):Int)) fun r h2 hr=>⟨hr.1,hr.2.trans (congrArg (D.int .i64) e1)⟩;rw[←hol2] at e2;have hge:decide ((((zU fs []).findIdx fun z=>z==(fs[i]).out:Nat):Int)≥0)=true:=decide_eq_true (by omega);have hlo:decide ((((zU fs []).findIdx fun z=>z==(fs[i]).out:Nat):Int)<(y.own.length:Int))=true:=decide_eq_true (by omega);have hat:=wb hoa2 e2
   have how:zBN y ((zU fs []).findIdx fun z=>z==(fs[i]).out)=y.own[(zU fs []).findIdx fun z=>z==(fs[i]).out]:=by unfold zBN;rw[List.getD_eq_getElem?_getD,List.getElem?_eq_getElem e2];rfl
   rw[how] at hoa;have hcn:=zBp (ho'.sl (sz:=1) (xs:=yI (zU (zK fs (Ik K i)) [])) (d:=nm) (by simp)).isSl (by omega) (fs[i]).out;have hgen:∀nm' sd' H4 zo',Ows g H4 [(12,zCz (zK fs (Ik K (i+1))),sd'),(1,yI (zU (zK fs (Ik K (i+1))) []),nm'),(1,yK (qK y fs (Ik K (i+1))),zt),(1,yI (zD5 y (zU fs []) (zU (zK fs (Ik K (i+1))) [])),zo')]→H4.at' n11=some (.row [zt,zo'])→H4.at' g.next=some (.row [.nilsl, .nilsl])→g.next<H4.next→n11<H4.next→PSt g fs y K g.next n11 (i+1) sd' nm' H4:=fun nm' sd' H4 zo' h1 h2 h3 h4 h5=>⟨zt,zo',h1,h2,h3,h4,h5⟩;rw[hgs,htsn] at hgen
   have hbr:(zU (zK fs (Ik K i)) []).any (fun z=>z==(fs[i]).out)=(zU (zK fs (Ik K i)) []).any (· ==(fs[i]).out):=rfl;cases hb:(zU (zK fs (Ik K i)) []).any (· ==(fs[i]).out) with
   |true=>
    have hnmo:=hnmo (fun _=>hb);rw[hnmo] at hgen;rw[hb] at hcn;clear hgs hnmo hnmn htsn hoa hidx hsh hk hk2' how hol2 e1 hb hbr;generalize((zU fs []).findIdx fun z=>z==(fs[i]).out)=ix at *
    generalize fs[i]=F at *
    have hix1:=hix;clear hix
    repeat' first|simp only[go_sem,zK2, *]|apply bc<;>intro hc|(refine zA.mono (hkp) ?_;rintro r h ⟨hq,rfl⟩)
    refine ho'.appK zDn zKu zGT (by omega) (by simp) (by simp) (by rw[zE7];unfold lim;simp only[List.length_cons,List.length_nil];omega) (by unfold lim;simp only[List.length_cons,List.length_nil];omega) fun sd' H2 ho2 hn2 hk2=> ?_;have r2:=hk2 n0 hnn (by rw[hr];intro q;cases q);rw[hr] at r2;have r11b:=hk2 n11 l11' (by rw[r11'];intro q;cases q);rw[r11'] at r11b;have r9b:=hk2 g.next l9' (by rw[r9'];intro q;cases q);rw[r9'] at r9b;have hend:=hgen nm sd' H2 zo ho2 r11b r9b (by omega) (by omega);clear ho' hk2 hE hr r11' r9' hgen ho2
    repeat' first|simp only[go_sem,zK2, *]|apply bc<;>intro hc|(refine zA.mono (hix1 _) ?_;rintro r h ⟨hq2,rfl⟩)|(refine zA.mono (hcn _) ?_;rintro r h ⟨hq3,rfl⟩)
   |false=>
    have hnmn:=hnmn hk2' hb;have hst2:yI (zU (zK fs (Ik K (i+1))) [])=yI (zU (zK fs (Ik K i)) [])++ [[.str (fs[i]).out]]:=by rw[hnmn];simp[yI]
    have hso2:yI (zD5 y (zU fs []) (zU (zK fs (Ik K (i+1))) []))=yI (zD5 y (zU fs []) (zU (zK fs (Ik K i)) []))++ [[.str (y.own[(zU fs []).findIdx fun z=>z==(fs[i]).out])]]:=by rw[hnmn,hoa];simp[yI]
    rw[hst2,hso2] at hgen;rw[hb] at hcn;have hone1:=zCj (fs[i]).out;have hone2:=zCj (y.own[(zU fs []).findIdx fun z=>z==(fs[i]).out]);clear hgs hnmo hnmn htsn hoa hidx hsh hk hk2' how hol2 e1 hb hbr hst2 hso2;generalize y.own[(zU fs []).findIdx fun z=>z==(fs[i]).out]=W at *
    generalize((zU fs []).findIdx fun z=>z==(fs[i]).out)=ix at *
    generalize fs[i]=F at *
    have hix1:=hix;clear hix
    repeat' first|simp only[go_sem,zK2, *]|apply bc<;>intro hc|(refine zA.mono (hkp) ?_;rintro r h ⟨hq,rfl⟩)
    refine ho'.appK zDn zKu zGT (by omega) (by simp) (by simp) (by rw[zE7];unfold lim;simp only[List.length_cons,List.length_nil];omega) (by unfold lim;simp only[List.length_cons,List.length_nil];omega) fun sd' H2 ho2 hn2 hk2=> ?_;have r2:=hk2 n0 hnn (by rw[hr];intro q;cases q);rw[hr] at r2;have r11b:=hk2 n11 l11' (by rw[r11'];intro q;cases q);rw[r11'] at r11b;have r9b:=hk2 g.next l9' (by rw[r9'];intro q;cases q);rw[r9'] at r9b;clear ho' hk2 hE hr r11' r9'
    repeat' first|simp only[go_sem,zK2, *]|apply bc<;>intro hc|(refine zA.mono (hix1 _) ?_;rintro r h ⟨hq2,rfl⟩)|(refine zA.mono (hcn _) ?_;rintro r h ⟨hq3,rfl⟩)
    refine(ho2.perm zfc).appK yq zGS zAe (by omega) (by simp) (by simp) (by rw[zAo];unfold lim;simp only[List.length_cons,List.length_nil];omega) (by unfold lim;simp only[List.length_cons,List.length_nil];omega) fun nm' H3 ho3 hn3 hk3=> ?_;have r3:=hk3 n0 (by omega) (by rw[r2];intro q;cases q);rw[r2] at r3;have r11c:=hk3 n11 (by omega) (by rw[r11b];intro q;cases q);rw[r11b] at r11c;have r9c:=hk3 g.next (by omega) (by rw[r9b];intro q;cases q);rw[r9b] at r9c;clear r2 r11b r9b hk3
    repeat' first|simp only[go_sem,zK2, *]|apply bc<;>intro hc
    refine zQ (by kernel_rfl) ?_
    repeat' first|simp only[go_sem,zK2, *]|apply bc<;>intro hc
    refine((ho3.perm zfc.symm).perm zfe).appK yq zGS zAe (by omega) (by simp) (by simp) (by rw[zAo];unfold lim;simp only[List.length_cons,List.length_nil];omega) (by unfold lim;simp only[List.length_cons,List.length_nil];omega) fun zo' H4 ho4 hn4 hk4=> ?_;have r11d:=hk4 n11 (by omega) (by rw[r11c];intro q;cases q);rw[r11c] at r11d;have r9d:=hk4 g.next (by omega) (by rw[r9c];intro q;cases q);rw[r9c] at r9d;obtain⟨u1,u2,_⟩:=ho4.flat (sz:=1) (d:=zo') (List.mem_cons_self ..);have hst4:=zT (P:=Tryz.prog) (t:=40) (off:=1) (x:=zo') r11d zPT (by simp) u2 u1
    rw[List.set_cons_succ,List.set_cons_zero] at hst4;have hne9:g.next≠n11:=by omega
    have hend:=hgen nm' sd' (H4.set n11 (.row [zt,zo'])) zo' ((ho4.set hn11 r11d (fun q=>by cases q)).perm zfe.symm) (zC _ _ _) (by rw[zE hne9];exact r9d) (show g.next<H4.next by omega) (show n11<H4.next by omega);generalize H4.set n11 (.row [zt,zo'])=H5 at *
    clear ho2 ho3 ho4 hk4 hgen r3 r11c r9c r11d r9d
    repeat' first|simp only[go_sem,zK2, *]|apply bc<;>intro hc
 ·clear hP0 hG q1 q2 hgo;have hn9:g.next≠(g.new g.next (.row [.nilsl, .nilsl])).next:=Nat.ne_of_lt q3;generalize(g.new g.next (.row [.nilsl, .nilsl])).next=n11 at *
  rintro fr h ec ⟨f2,f3,f5,f9,f11,f13,f17,f18,f19,hP⟩;obtain⟨zt,zo,r11,r9,u1,u2,hq⟩:=hQ2 _ _ _ hP;have hst:=yg (P:=Tryz.prog) (t:=42) (cs':=[zt,zo]) r9 zJl rfl (by simp) (by simp[u1,u2]);have hat:=zC h g.next (.row [zt,zo]);clear hQ2 hP hp;obtain⟨sd,f10⟩:∃d,fr 10=d:=⟨_,rfl⟩;rw[f10] at hq
  repeat' first|simp only[go_sem,zK2, *]|apply bc<;>intro hc
  refine z8 Heap.emp [(1, .no,false),(0, .no,false),(2, .no,false),(3, .no,false)] (by kernel_rfl) (by kernel_rfl) (fun i ob e=>by cases e) ?_
  repeat' first|simp only[go_sem,zK2, *]|apply bc<;>intro hc
end Go.V
