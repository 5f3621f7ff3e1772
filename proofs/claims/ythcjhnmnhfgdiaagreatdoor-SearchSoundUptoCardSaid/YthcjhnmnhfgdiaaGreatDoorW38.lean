/- A machine of abstract values for programs of the model, further rules, part 4. No condition. -/
import Derived.Test.YthcjhnmnhfgdiaaGreatDoorW37
set_option linter.all false
set_option maxHeartbeats 8000000
namespace Go.V
variable {P:Program}{h g:Heap}{sz k i:Nat}{xs ys:List (List D)}{d x:D}{K:D->Heap->Prop}{c:Cat}{fs:List Fac}{al:Nat->Option Alt}{sc args cap:List D}{S0 S' S:Nat->Prop}{fr:Frm}{f:FuncId}
def wd.app3 {t e:TypeId} (m:wd h sz xs d) (l:qQ P t=some e) (o:gT P e=true) (n:szT P e=sz) (h0:0<sz) (k:∀y∈ys,y.length=sz) (s:(x= .nilsl/\ys= [])\/(ys≠[]/\∃tk,x= .sl sz ys tk))
  (f:(xs.length+ys.length)*yf P e<=lim) (g:xs.length+ys.length<=lim) (c:∀a h',wd h' sz (xs++ys) a->h.next<=h'.next->(∀i,i<h.next->¬wB d i->h'.at' i=h.at' i)->(∀i,wB a i->h.next<=i)->a.cells= [a]->a.flat=true->K a h'):onR (zt P false h.next t d x h) K:=by
 rcases s with⟨rfl,rfl⟩ | ⟨j,tk,rfl⟩
 ·simp only[List.append_nil,List.length_nil,Nat.add_zero] at c f g;simp only[zt,l,o,n,Qx,if_true,List.length_nil,Nat.zero_div];rcases m with⟨rfl,rfl⟩ | ⟨q,rfl,h1,u⟩
  ·simp only[qg,if_true,j8];exact c _ _ (.inl ⟨rfl,rfl⟩) (Nat.le_refl _) (λi b _=>rfl) (λi b=>b.elim) rfl rfl
  ·simp only[qg];rw[ip (by simp only[Nat.add_zero,Bool.and_eq_true,decide_eq_true_eq];exact⟨⟨trivial,f⟩,g⟩)];simp only[h1,Bool.false_eq_true,if_false,j8];have p:yI sz 0 []= []:=rfl;rw[p,List.append_nil];refine c _ _ (.inr ⟨h.next,rfl,zK _ _ _,?_⟩) ?_ (λi b r=> ?_) (λi b=> ?_) rfl rfl
   ·exact Nat.lt_of_lt_of_le (Nat.lt_succ_self _) (Nat.le_max_right _ _)
   ·exact qt (h.del q) _ _
   ·rw[zH ow,yJ λe=>r (by rw[e];rfl)]
   ·simp only[wB] at b;omega
 ·exact m.app2 l o n h0 k j f g c
def wd.app4 {t e:TypeId} (o:wd h sz xs d) (m:qQ P t=some e) (s:gT P e=true) (p:szT P e=sz) (h0:0<sz) (k:∀y∈ys,y.length=sz) (r:(x= .nilsl/\ys= [])\/(ys≠[]/\∃tk,x= .sl sz ys tk))
  (l:(xs.length+ys.length)*yf P e<=lim) (n:xs.length+ys.length<=lim):∃j h',zt P false h.next t d x h=some (j,h')/\wd h' sz (xs++ys) j/\h.next<=h'.next/\(∀i,i<h.next->¬wB d i->h'.at' i=h.at' i)/\(∀i,wB j i->h.next<=i)/\j.cells= [j]/\j.flat=true:=by
 have:=o.app3 (K:=λj h'=>wd h' sz (xs++ys) j/\h.next<=h'.next/\(∀i,i<h.next->¬wB d i->h'.at' i=h.at' i)/\(∀i,wB j i->h.next<=i)/\j.cells= [j]/\j.flat=true) m s p h0 k r l n λj h' a b c e f g=>⟨a,b,c,e,f,g⟩;unfold onR at this;split at this
 ·rename_i j h' q;exact⟨j,h',q,this⟩
 ·exact this.elim
open Go.Proofs.Tryz
open Go.Proofs
set_option maxRecDepth 100000
def Qh {l:List Int} :∀x∈qP l,yh x:=λx a=>by
 obtain⟨s,_,rfl⟩:=List.mem_map.1 a;exact⟨rfl,⟨trivial,trivial⟩,rfl⟩
def Qi (num:Int) (l:List Int):yh (Qf num l):=by
 have h:=yG (Qh (l:=l)) (sz:=1) .no;refine⟨rfl,⟨trivial,h.2,trivial⟩,?_⟩;simp only[Qf,zx,h.1];rfl
section
variable (c:Cat) (fs:List Fac) (al:Nat->Option Alt) (O:KV)
def cF (k:Nat):List (List D):=(List.range k).flatMap λi:Nat=>vbs (i:Int) (rt c fs al O i)
end
section
variable {c:Cat} {fs:List Fac} {al:Nat->Option Alt} {O:KV}
def oS (k:Nat):cF c fs al O (k+1)=cF c fs al O k++vbs (k:Int) (rt c fs al O k):=by
 unfold cF;rw[List.range_succ,List.flatMap_append,List.flatMap_cons,List.flatMap_nil,List.append_nil]
def kp:∀x∈cF c fs al O k,yh x:=λx a=>by
 obtain⟨i,_,h⟩:=List.mem_flatMap.1 a;obtain⟨l,_,rfl⟩:=List.mem_map.1 h;exact Qi _ _
def WC (i:Nat):(rt c fs al O i).length<=(mH c fs al O i).length:=by
 unfold rt;refine Nat.le_trans (sy _) ?_;rw[(ql _).length_eq,List.length_map];exact Nat.le_refl _
def zGh:Nat->Nat
 |0=>4096
 |1=>4096
 |2=>65536
 |3=>16777216
 |4=>256
 |_=>16
def KD (b:fs.length<=16) (i:Nat):(mH c fs al O i).length<=zGh i:=by
 have d:=tA (al:=al) b;have a:∀ {α:Type} {l:List α} {f:α->List (List Int)} {m n k:Nat},l.length<=n->(∀x∈l,(f x).length<=m)->n*m<=k->(l.flatMap f).length<=k:=λh1 e h3=>Nat.le_trans (qV e) (Nat.le_trans (Nat.mul_le_mul_right _ h1) h3);rcases i with _|_|_|_|_|i
 ·exact a (m:=1) (f:=wF c fs al) d (λt _=>by unfold wF;split<;>simp) (by decide)
 ·exact a (m:=1) (f:=uM c fs al O) d (λt _=>by
   unfold uM;split
   ·simp
   ·split<;>simp) (by decide)
 ·exact a (m:=16) (f:=oQ c fs al) d (λt _=>dc c b al t) (by decide)
 ·exact a (m:=4096) (f:=wl c fs al) d (λt _=>kg c b al t) (by decide)
 ·exact a (m:=16) (n:=16) (f:=rP fs O) (Nat.le_trans (yz _ fs 0) b) (λt _=>dj b O t) (by decide)
 ·show(km c fs).length<=16;unfold km;split
  ·simp
  ·exact a (m:=1) (n:=16) (Nat.le_trans (yz _ fs 0) b) (λt _=>Nat.le_refl _) ow
def RM (g:fs.length<=16):∀k,k<=6->(cF c fs al O k).length<=16851216:=by
 have a:∀k,(cF c fs al O (k+1)).length<=(cF c fs al O k).length+zGh k:=λk=>by
  rw[oS,List.length_append,uN];have:=WC (c:=c) (fs:=fs) (al:=al) (O:=O) k;have:=KD (c:=c) (al:=al) (O:=O) g k;omega
 have h0:(cF c fs al O 0).length=0:=rfl;have h1:=a 0;have d:=a 1;have h3:=a 2;have e:=a 3;have h5:=a 4;have f:=a 5;simp only[zGh,Nat.reduceAdd,Nat.zero_add] at h1 d h3 e h5 f;intro k h;have b:k=0\/k=1\/k=2\/k=3\/k=4\/k=5\/k=6:=ow;rcases b with rfl|rfl|rfl|rfl|rfl|rfl|rfl<;>omega
def aI (k:Nat):(K8 c fs al O k= .nilsl/\vbs (k:Int) (rt c fs al O k)= [])\/(vbs (k:Int) (rt c fs al O k)≠[]/\∃tk,K8 c fs al O k= .sl 2 (vbs (k:Int) (rt c fs al O k)) tk):=by
 unfold K8;by_cases h:mH c fs al O k= []
 ·rw[ip h];refine .inl ⟨rfl,List.length_eq_zero_iff.1 ?_⟩;have:=WC (c:=c) (fs:=fs) (al:=al) (O:=O) k;rw[h,List.length_nil] at this;rw[uN];omega
 ·rw[iq h];refine .inr ⟨λe=> ?_,_,rfl⟩;have a:0<(srt wC ((mH c fs al O k).map nF)).length:=by
   rw[(ql _).length_eq,List.length_map];exact List.length_pos_iff.2 h
  have:=Zm (c:=wC) a _ (Nat.le_refl _) a;have b:(rt c fs al O k).length=0:=by rw[<-uN (k:Int),e];rfl
  unfold rt cpt at b;omega
end
def zCF (c:Cat) (fs:List Fac) (al:Nat->Option Alt) (O:KV) (n0 k:Nat) (S:Nat->Prop) (h:Heap):Prop:=
 n0<h.next/\∃d,h.at' n0=some (.row [d])/\wd h 2 (cF c fs al O k) d/\∀i,S i↔(i=n0\/wB d i)
def zCF.lcl (c:Cat) (fs:List Fac) (al:Nat->Option Alt) (O:KV) (m:Nat):Lcl (zCF c fs al O m):=by
 refine⟨λk S h y i e=> ?_,λk S h h' y l j=> ?_⟩
 ·obtain⟨f,d,g,b,a⟩:=y;rcases(a i).1 e with rfl|q
  ·exact f
  ·exact(b.tok q).1
 ·obtain⟨f,d,g,b,a⟩:=y;exact⟨by omega,d,by rw[j _ ((a _).2 (.inl rfl))];exact g,b.loc l λi e=>j i ((a i).2 (.inr e)),a⟩
variable {c:Cat}{fs:List Fac}{al:Nat->Option Alt}
def zGi {M:KM Int} {O:KV} {m1 m2:Nat} (hs:Stt c fs al M O sc m1 m2) (hn:fs.length<=16) (K:StH M O m1 m2 g):
  zA prog 123 [.iptr sc 0] g λr h'=>h'=g/\Fin 2 (cF c fs al O 6) r:=by
 refine xU kr λak=>xS ?_;refine xP λQ hQ=> ?_;have W:=jY sc;refine xO mix func123 AY rfl rfl ?_;simp only[f123,gJ];obtain⟨G,hG,J,g1,hE⟩:∃G:Heap,g.new g.next (.row [.nilsl])=G/\G.next=g.next+1/\G.at' g.next=some (.row [.nilsl])/\Ext g G:=
  ⟨_,rfl,zF _ _,zK _ _ _,(Ext.refl g).new (Nat.le_refl _) _⟩
 repeat' first|simp only[go_sem,RL, *]|apply bc<;>intro hc|(refine zA.mono (W _) ?_;rintro r h ⟨hq,rfl⟩)
 subst hq
 rename Heap=>G
 generalize F:LRec.mk _ _ _ _ _ _ _=L;have Y:L.pending=none:=by rw[<-F]
 have ad:L.st= .ready:=by rw[<-F]
 have T:=zCF.lcl c fs al O g.next;have U:zCF c fs al O g.next 0 (λj=>j=g.next\/wB .nilsl j) G:=⟨by omega, .nilsl,g1, .inl ⟨rfl,rfl⟩,λ_=>Iff.rfl⟩;have N:=K.ext hE;refine ww (n:=6) (el:=λi=>[K8 c fs al O i]) J T ad Y U (λyl V=>(lg hs hn (Z:=λ_ _=>False) yl V (N.ext ((Ext.refl G).new ow _)) (λe=> ?_) (λe=> ?_)).mono λr h' ⟨S',a,b,e⟩=>⟨S',a,b,e.resolve_right λq=>q⟩) ?_ ?_
 ·have:=K.2.1;rcases e with e|e|e
  ·omega
  ·omega
  ·exact e
 ·have:=K.2.2;rcases e with e|e|e
  ·omega
  ·omega
  ·exact e
 ·intro k S0 h3 hk y X aj C;have l:=X;rw[<-F] at l;refine yg.round (g:=Yx) mix l rfl kr kr kr ?_;simp only[go_sem];refine⟨l,?_⟩;generalize hB:LRec.mk .busy _ _ _ _ _ _=B;have S:({ B with st:= .ready,pending:=none } :LRec)=L:=by rw[<-hB,<-F]
  have m:But (λi=>i=g.next+1) h3 (h3.set (g.next+1) (.loop B)):=⟨by rw[zT];exact Nat.le_refl _,λj _ z=>zE z⟩;obtain⟨a1,d,p,s,E⟩:=T.round aj (λi f=>f) C m;obtain⟨H,R,a5,w⟩:∃H:Heap,h3.set (g.next+1) (.loop B)=H/\H.next=h3.next/\H.at' (g.next+1)=some (.loop B):=⟨_,rfl,zT _ _ _,zD _ _ _⟩;rw[R] at a1 p s m⊢;have A:=RM (c:=c) (al:=al) (O:=O) hn (k+1) ow;rw[oS,List.length_append] at A;obtain⟨u,v,v1,v2,v3,v4,v5,v6,v7⟩:=s.app4 (P:=prog) (t:=138) qi Pq wk ow (rQ _ _) (aI (c:=c) (fs:=fs) (al:=al) (O:=O) k) (by rw[Ys];unfold lim;omega) (by unfold lim;omega);rw[<-oS] at v2
  have D:∀i,wB d i->i≠g.next/\i≠g.next+1:=λi f=>by
   have:=(s.tok f).2;exact⟨λe=>(by rw[e,p] at this;cases this),λe=>(by rw[e,w] at this;cases this)⟩
  have b2:v.at' g.next=some (.row [d]):=by rw[v4 _ ow λe=>(D _ e).1 rfl];exact p
  have b3:v.at' (g.next+1)=some (.loop B):=by rw[v4 _ ow λe=>(D _ e).2 rfl];exact w
  have ag:zQ prog 138 (.ptr g.next 0) u v=some (v.set g.next (.row [u])):=by
   rw[zR b2 Pv (by simp) v6 v7];rfl
  have x:∀fr,wK (LpK (g.next+1) L (zCF c fs al O g.next) k S0 h3) (g.next+1) .normal fr (v.set g.next (.row [u])):=λfr=>by
   have a6:=m.1;refine Lp.fin T S y C (S':=λi=>i=g.next\/wB u i) ?_ (λi f=> ?_) ⟨by rw[zT];omega,λi f o=> ?_⟩ ⟨by rw[zT];omega,u,zD _ _ _,v2.loc (by rw[zT];exact Nat.le_refl _) λi f=> ?_,λi=>Iff.rfl⟩
   ·rw[zE ow];exact b3
   ·rcases f with rfl|f
    ·exact .inl ((E _).2 (.inl rfl))
    ·exact .inr (by have:=v5 i f;omega)
   ·rw[zE λe=>o (.inr ((E i).2 (.inl e))),v4 i ow λe=>o (.inr ((E i).2 (.inr e))),m.2 i f λe=>o (.inl e)]
   ·rw[zE λe=>by have:=v5 i f;omega]
  simp only[go_sem,p,v1,ag];exact x _
 ·intro S' h2 a0 hb ai;obtain⟨a1,d,p,s,E⟩:=ai;have hf:=s.fin kp;have I:Ext g h2:=Ext.of_but hE hb λj z=>by
   rcases z with rfl|z
   ·exact Nat.le_refl _
   ·exact z.elim
  have a7:=hQ d h2 ⟨I,z7 (Nat.zero_le _) _ hf.1,hf.2⟩;exact au
def ZLp (id:Nat) (L:LRec) (V:(Nat->Prop)->Heap->Prop) (S:Nat->Prop) (h:Heap):Prop:=
 id<h.next/\h.at' id=some (.loop { L with st:= .done,pending:=some .ret })/\∃S0,V S0 h/\¬S0 id/\∀i,S i↔(i=id\/S0 i)
def LpZ (id:Nat) (L:LRec) (W:Nat->(Nat->Prop)->Heap->Prop) (V:(Nat->Prop)->Heap->Prop) (k:Nat) (S0:Nat->Prop) (h:Heap) (r:D) (h':Heap):Prop:=
 ∃S',(∀i,S' i->S0 i\/h.next<=i)/\But (λi=>i=id\/S0 i) h h'/\((r= .bool true/\h'.at' id=some (.loop L)/\W (k+1) S' h')\/(r= .bool false/\h'.at' id=some (.loop { L with st:= .done,pending:=some .ret })/\V S' h'))
section
variable {P:Program} {W:Nat->(Nat->Prop)->Heap->Prop} {V:(Nat->Prop)->Heap->Prop} {id n:Nat} {L:LRec} {el:Nat->List D}
def YLp.yldZ (w:Lcl W) (v:Lcl λ_=>V) (go:∀k S0 h3,k<n->id<h3.next->h3.at' id=some (.loop L)->W k S0 h3->¬S0 id->yg P id (el k) h3 (LpZ id L W V k S0 h3)):Yld P id n el (YLp id L W) (ZLp id L V):=by
 refine⟨λk S h y i b=> ?_,λk S h h' y l f=> ?_,λS h y i b=> ?_,λS h h' y l f=> ?_,λk S h f y=> ?_⟩
 ·obtain⟨c,_,S0,d,_,a⟩:=y;rcases(a i).1 b with rfl|t
  ·exact c
  ·exact w.here _ _ _ d i t
 ·obtain⟨c,j,S0,d,g,a⟩:=y;exact⟨by omega,by rw[f id ((a id).2 (.inl rfl))];exact j,S0,w.loc _ _ _ _ d l λi b=>f i ((a i).2 (.inr b)),g,a⟩
 ·obtain⟨c,_,S0,d,_,a⟩:=y;rcases(a i).1 b with rfl|t
  ·exact c
  ·exact v.here 0 _ _ d i t
 ·obtain⟨c,j,S0,d,g,a⟩:=y;exact⟨by omega,by rw[f id ((a id).2 (.inl rfl))];exact j,S0,v.loc 0 _ _ _ d l λi b=>f i ((a i).2 (.inr b)),g,a⟩
 ·obtain⟨c,j,S0,d,g,a⟩:=y;refine(go k S0 h f c j d g).mono ?_;rintro r h' ⟨S',u,o,x⟩;have m:¬S' id:=λe=>by
   rcases u _ e with q|q
   ·exact g q
   ·omega
  refine⟨λi=>i=id\/S' i,λi b=> ?_,⟨o.1,λi b l=>o.2 i b λe=>l ((a i).2 e)⟩,?_⟩
  ·rcases b with rfl|b
   ·exact .inl ((a _).2 (.inl rfl))
   ·exact(u i b).imp (λq=>(a i).2 (.inr q)) λq=>q
  ·rcases x with⟨rfl,p,s⟩ | ⟨rfl,p,s⟩
   ·exact .inl ⟨rfl,Nat.lt_of_lt_of_le c o.1,p,S',s,m,λi=>Iff.rfl⟩
   ·exact .inr ⟨rfl,Nat.lt_of_lt_of_le c o.1,p,S',s,m,λi=>Iff.rfl⟩
def Lp.finZ (f:Lcl W) {B:LRec} (b:({ B with st:= .ready,pending:=none } :LRec)=L) {h3 a:Heap} (d:id<h3.next) (j:¬S0 id) (hid:a.at' id=some (.loop B)) (c:∀i,S' i->S0 i\/h3.next<=i) (g:But (λi=>i=id\/S0 i) h3 a) (l:W (k+1) S' a) :
  wK (LpZ id L W V k S0 h3) id .normal fr a:=by
 refine wA hid ⟨S',c,g.set (.inl (.inl rfl)) _, .inl ⟨rfl,by rw[zD,b],f.loc _ _ _ _ l (Nat.le_refl _) λi h=>zE λe=> ?_⟩⟩;subst e;rcases c _ h with q|q
 ·exact j q
 ·omega
def Lp.retZ (f:Lcl λ_=>V) {B:LRec} (b:({ B with st:= .ready,pending:=none } :LRec)=L) {h3 a:Heap} (d:id<h3.next) (j:¬S0 id) (hid:a.at' id=some (.loop B)) (c:∀i,S' i->S0 i\/h3.next<=i) (g:But (λi=>i=id\/S0 i) h3 a) (l:V S' a) :
  wK (LpZ id L W V k S0 h3) id .ret fr a:=by
 refine kP hid ⟨S',c,g.set (.inl (.inl rfl)) _, .inr ⟨rfl,by rw[zD,<-b],f.loc 0 _ _ _ l (Nat.le_refl _) λi h=>zE λe=> ?_⟩⟩;subst e;rcases c _ h with q|q
 ·exact j q
 ·omega
def WD {a:Nat} (z:h.next=a) {Q:Exit->Frm->Heap->Prop} (o:Lcl W) (D:Lcl λ_=>V) (C:L.st= .ready) (B:L.pending=none) (y:W 0 S h)
  (s:Yld P a n el (YLp a L W) (ZLp a L V)->YLp a L W 0 (λi=>i=a\/S i) (h.new a (.loop L))->zA P f args (h.new a (.loop L)) λ_ h'=>∃S',(∀j,S' j->(j=a\/S j)\/(h.new a (.loop L)).next<=j)/\But (λi=>i=a\/S i) (h.new a (.loop L)) h'/\(YLp a L W n S' h'\/ZLp a L V S' h'))
  (go:∀k S0 h3,k<n->a<h3.next->h3.at' a=some (.loop L)->W k S0 h3->¬S0 a->yg P a (el k) h3 (LpZ a L W V k S0 h3))
  (w:∀S' b,(∀j,S' j->S j\/a<=j)->But S h b->W n S' b->Q .normal fr b)
  (m:∀S' b,(∀j,S' j->S j\/a<=j)->But S h b->V S' b->Q .ret fr b):
  zA P f args (h.new a (.loop L)) λ_ h'=>∃r,h'.at' a=some (.loop r)/\r.st≠ .busy/\cM r.pending Q fr (h'.del a):=by
 subst z;have G:(h.new h.next (.loop L)).next=h.next+1:=zF _ _;have x:¬S h.next:=λe=>Nat.lt_irrefl _ (o.here _ _ _ y _ e);refine(s (YLp.yldZ o D go) ⟨by omega,zK _ _ _,S,o.loc _ _ _ _ y ow λi g=>zH (by have:=o.here _ _ _ y _ g;omega),x,λi=>Iff.rfl⟩).mono ?_;have key:∀ (S' S0:Nat->Prop) (b:Heap),(∀j,S' j->(j=h.next\/S j)\/(h.new h.next (.loop L)).next<=j)->But (λi=>i=h.next\/S i) (h.new h.next (.loop L)) b->¬S0 h.next->(∀i,S' i↔(i=h.next\/S0 i))->(∀j,S0 j->S j\/h.next<=j)/\But S h (b.del h.next):=by
  intro S' S0 b t p c l;refine⟨λj E=> ?_,by have:=p.1;show h.next<=b.next;omega,λi g A=> ?_⟩
  ·rcases t j ((l j).2 (.inr E)) with(q|q)|q
   ·subst q;exact absurd E c
   ·exact .inl q
   ·exact .inr ow
  ·have d:i≠h.next:=ow;rw[yJ d,p.2 i ow (λe=>e.elim d A),zH d]
 rintro r b ⟨S',t,p,⟨F,u,S0,v,c,l⟩ | ⟨F,u,S0,v,c,l⟩⟩
 ·obtain⟨k1,k2⟩:=key S' S0 b t p c l;refine⟨L,u,(by rw[C];intro q;cases q),?_⟩;rw[B,uz];exact w S0 _ k1 k2 (o.loc _ _ _ _ v (Nat.le_refl _) λi g=>yJ λe=>by subst e;exact c g)
 ·obtain⟨k1,k2⟩:=key S' S0 b t p c l;refine⟨_,u,(by intro q;cases q),?_⟩;simp only[mz];exact m S0 _ k1 k2 (D.loc 0 _ _ _ v (Nat.le_refl _) λi g=>yJ λe=>by subst e;exact c g)
end
theorem WE {O:KV} {m:Nat} {x:List D} (h:(cF c fs al O m).head? =some x):∀k,(cF c fs al O (m+k)).head? =some x
 |0=>h
 |k+1=>by
  rw[<-Nat.add_assoc,oS,List.head?_append,WE h k];rfl
def YG:List D:=[.int .i64 0, .nilsl]
def I8 (l:List (List D)):D:= .tuple [.agg (l.head?.getD YG), .bool (l.head?.isSome)]
def BQ (c:Cat) (fs:List Fac) (al:Nat->Option Alt) (O:KV) (n0 k:Nat) (S:Nat->Prop) (h:Heap):Prop:=
 n0+1<h.next/\h.at' n0=some (.row YG)/\h.at' (n0+1)=some (.row [.bool false])/\cF c fs al O k= []/\∀i,S i↔(i=n0\/i=n0+1)
def zCG (c:Cat) (fs:List Fac) (al:Nat->Option Alt) (O:KV) (n0:Nat) (S:Nat->Prop) (h:Heap):Prop:=
 ∃x,n0+1<h.next/\h.at' n0=some (.row x)/\h.at' (n0+1)=some (.row [.bool true])/\(cF c fs al O 6).head? =some x/\∀i,S i↔(i=n0\/i=n0+1)
def BQ.lcl (c:Cat) (fs:List Fac) (al:Nat->Option Alt) (O:KV) (l:Nat):Lcl (BQ c fs al O l):=by
 refine⟨λk S h y i j=> ?_,λk S h h' y m f=> ?_⟩
 ·obtain⟨g,b,d,e,a⟩:=y;rcases(a i).1 j with rfl|rfl<;>omega
 ·obtain⟨g,b,d,e,a⟩:=y;exact⟨by omega,by rw[f _ ((a _).2 (.inl rfl))];exact b,by rw[f _ ((a _).2 (.inr rfl))];exact d,e,a⟩
def zCG.lcl (c:Cat) (fs:List Fac) (al:Nat->Option Alt) (O:KV) (l:Nat):Lcl λ_=>zCG c fs al O l:=by
 refine⟨λk S h y i j=> ?_,λk S h h' y m f=> ?_⟩
 ·obtain⟨x,g,b,d,e,a⟩:=y;rcases(a i).1 j with rfl|rfl<;>omega
 ·obtain⟨x,g,b,d,e,a⟩:=y;exact⟨x,by omega,by rw[f _ ((a _).2 (.inl rfl))];exact b,by rw[f _ ((a _).2 (.inr rfl))];exact d,e,a⟩
theorem KE {M:KM Int} {O:KV} {m1 m2:Nat} (hs:Stt c fs al M O sc m1 m2) (hn:fs.length<=16) (hH:StH M O m1 m2 g):
  zA prog 41 [.iptr sc 0] g λr h'=>h'=g/\r=I8 (cF c fs al O 6):=by
 refine xU kr λbs=>xS ?_;refine xP λQ hQ=> ?_;have a6:=jY sc;obtain⟨G,hG,ag,g1,g2,Y⟩:∃G:Heap,(g.new g.next (.row [.int .i64 0, .nilsl])).new (g.next+1) (.row [.bool false])=G/\G.next=g.next+2/\G.at' g.next=some (.row YG)/\G.at' (g.next+1)=some (.row [.bool false])/\Ext g G:=
  ⟨_,rfl,zp _ (by rw[zF];exact Nat.le_refl _) _,by rw[zH ow];exact zK _ _ _,zK _ _ _,((Ext.refl g).new (Nat.le_refl _) _).new ow _⟩
 refine xO mix func41 zHg rfl rfl ?_;simp only[f41,gJ]
 repeat' first|simp only[go_sem,zF,RL, *]|apply bc<;>intro hc|(refine zA.mono (a6 _) ?_;rintro r h ⟨hq,rfl⟩)
 subst hq
 rename Heap=>G
 generalize U:LRec.mk _ _ _ _ _ _ _=L;have ba:L.pending=none:=by rw[<-U]
 have bb:L.st= .ready:=by rw[<-U]
 have hW:=BQ.lcl c fs al O g.next;have hV:=zCG.lcl c fs al O g.next;have ak:BQ c fs al O g.next 0 (λj=>j=g.next\/j=g.next+1) G:=⟨by omega,g1,g2,rfl,λ_=>Iff.rfl⟩;have ai:=hH.ext Y;refine WD (n:=6) (el:=λi=>[K8 c fs al O i]) ag hW hV bb ba ak (λyl a0=>(lg hs hn yl a0 (ai.ext ((Ext.refl G).new ow _)) (λe=> ?_) (λe=> ?_))) ?_ ?_ ?_
 ·have:=hH.2.1;rcases e with e|e|e<;>omega
 ·have:=hH.2.2;rcases e with e|e|e<;>omega
 ·intro k S0 h3 hk q a9 bk v;have d:=a9;rw[<-U] at d;refine yg.round (g:=Nb) mix d rfl kr kr kr ?_;simp only[go_sem];refine⟨d,?_⟩;generalize hB:LRec.mk .busy _ _ _ _ _ _=B;have P:({ B with st:= .ready,pending:=none } :LRec)=L:=by rw[<-hB,<-U]
  have a:But (λi=>i=g.next+2) h3 (h3.set (g.next+2) (.loop B)):=⟨by rw[zT];exact Nat.le_refl _,λj _ R=>zE R⟩;have A:=hW.round bk (λi p=>p) v a;obtain⟨H,aj,b1,N⟩:∃H:Heap,h3.set (g.next+2) (.loop B)=H/\H.next=h3.next/\H.at' (g.next+2)=some (.loop B):=⟨_,rfl,zT _ _ _,zD _ _ _⟩;rw[aj] at A a⊢;have bx:=A;obtain⟨X,J,K,C,E⟩:=A;have w:=oS (c:=c) (fs:=fs) (al:=al) (O:=O) k;rw[C,List.nil_append] at w;rcases aI (c:=c) (fs:=fs) (al:=al) (O:=O) k with⟨e1,e2⟩ | ⟨e1,tk,e2⟩
  ·have b:∀fr,wK (LpZ (g.next+2) L (BQ c fs al O g.next) (zCG c fs al O g.next) k S0 h3) (g.next+2) .normal fr H:=λfr=>by
    refine Lp.finZ hW P q v N (S':=S0) (λi p=> .inl p) ⟨a.1,λi p f=>a.2 i p λe=>f (.inl e)⟩ ⟨X,J,K,by rw[w];exact e2,E⟩
   have hl:∀h,sD prog 138 .nilsl h=some (.int .i64 0):=λh=>ye (zd.nil (sz:=2)) underlying138;have h0:decide ((0:Int)>0)=false:=rfl;simp only[go_sem,e1,hl,h0];exact b _
  ·obtain⟨x,xs,V⟩:=List.exists_cons_of_ne_nil e1;rw[V] at e2;have o:x.length=2:=rQ (k:Int) (rt c fs al O k) x (by rw[V];simp);have bo:∃l,x=Qf (k:Int) l:=by
    have:x∈vbs (k:Int) (rt c fs al O k):=by rw[V];simp
    obtain⟨l,_,e⟩:=List.mem_map.1 this;exact⟨l,e.symm⟩
   have a8:(cF c fs al O 6).head? =some x:=by
    have:=WE (c:=c) (fs:=fs) (al:=al) (O:=O) (m:=k+1) (x:=x) (by rw[w,V];rfl) (6- (k+1))
    rwa [show k+1+(6- (k+1))=6 by omega] at this
   have hl:∀h,sD prog 138 (.sl 2 (x::xs) tk) h=some (.int .i64 ((x::xs).length:Int)):=λh=>ye (zd.mk (sz:=2) tk) underlying138;have h0:decide (((x::xs).length:Int)>0)=true:=decide_eq_true (by simp only[List.length_cons];omega);have ha:zP prog 138 (.sl 2 (x::xs) tk) (.int .i64 0)=some (.iptr x 0):=zW (i:=0) (zd.mk (sz:=2) tk) qi wk rfl;have y:zN true 2 x 0=some (.agg x):=zB o ow;have s:zQ prog 65 (.ptr g.next 0) (.agg x) H=some (H.set g.next (.row x)):=yq J (by rw[wk,o]) (by rw[o];rfl) ow (by obtain⟨l,rfl⟩:=bo;rfl)
   have t:zQ prog 4 (.ptr (g.next+1) 0) (.bool true) (H.set g.next (.row x))=some ((H.set g.next (.row x)).set (g.next+1) (.row [.bool true])):=by
    rw[zR (by rw[zE ow];exact K) Pk (by simp) rfl rfl];rfl
   have b:∀fr,wK (LpZ (g.next+2) L (BQ c fs al O g.next) (zCG c fs al O g.next) k S0 h3) (g.next+2) .ret fr ((H.set g.next (.row x)).set (g.next+1) (.row [.bool true])):=λfr=>by
    have b2:=a.1;refine Lp.retZ hV P q v ?_ (S':=S0) (λi p=> .inl p) ⟨by rw[zT,zT];omega,λi p f=> ?_⟩ ⟨x,by rw[zT,zT];omega,by rw[zE ow,zD],zD _ _ _,a8,E⟩
    ·rw[zE ow,zE ow];exact N
    ·rw[zE λe=>f (.inr ((E i).2 (.inr e))),zE λe=>f (.inr ((E i).2 (.inl e))),a.2 i p λe=>f (.inl e)]
   simp only[go_sem,e2,hl,h0,ha,y,s,t];exact b _
 ·intro S' I S hb z;obtain⟨X,J,K,C,E⟩:=z;have u:Ext g I:=Ext.of_but Y hb λj R=>by rcases R with rfl|rfl<;>omega
  have b3:yA prog 65 []=some (.agg YG):=by simp[yA,kI,mh,qL,YG,D.notTuple,D.cells]
  obtain⟨W,Z,r1,r2,E1⟩:∃F,I.set g.next (.row YG)=F/\F.at' g.next=some (.row YG)/\F.at' (g.next+1)=some (.row [.bool false])/\Ext g F:=⟨_,rfl,zD _ _ _,by rw[zE ow];exact K,u.set (Nat.le_refl _) _⟩;have s:zQ prog 65 (.ptr g.next 0) (.agg YG) I=some W:=by
   rw[yq J (by rw[wk];rfl) rfl (by decide) rfl,Z]
  obtain⟨F2,ad,r3,r4,E2⟩:∃F,W.set (g.next+1) (.row [.bool false])=F/\F.at' g.next=some (.row YG)/\F.at' (g.next+1)=some (.row [.bool false])/\Ext g F:=⟨_,rfl,by rw[zE ow];exact r1,zD _ _ _,E1.set ow _⟩;have t:zQ prog 4 (.ptr (g.next+1) 0) (.bool false) W=some F2:=by
   rw[zR r2 Pk (by simp) rfl rfl,<-ad];rfl
  have y:zN true 2 YG 0=some (.agg YG):=zB rfl ow;have a7:Q (.tuple [.agg YG, .bool false]) F2:=hQ _ _ ⟨E2,⟨⟨trivial,trivial,trivial⟩,trivial,trivial⟩,by rw[C];rfl⟩;exact au
 ·intro S' I S hb z;obtain⟨x,X,J,K,C,E⟩:=z;have u:Ext g I:=Ext.of_but Y hb λj R=>by rcases R with rfl|rfl<;>omega
  have T:x∈cF c fs al O 6:=List.mem_of_mem_head? C;obtain⟨p1,p2,p3⟩:=kp x T;have o:x.length=2:=by
   obtain⟨i,_,h⟩:=List.mem_flatMap.1 T;exact rQ _ _ x h
  have y:zN true 2 x 0=some (.agg x):=zB o ow;have a7:Q (.tuple [.agg x, .bool true]) I:=hQ _ _ ⟨u,by
   simp only[z8,zx,below,zh,p3];exact⟨qz (Nat.zero_le _) _ p2,trivial,trivial⟩,by
   simp only[z8,zx,p3,I8,C];rfl⟩
  exact au
theorem CE {d x yd:D} {y:Cho} (K:yu c d) (sm:c.Sm) (hx:zd 12 (nz fs) x) (a8:fs.length<=256) (ak:∀f∈fs,f.Ok) (hy:Xv y yd) (ck:y.Sm)
  (b8:∀a∈y.ts,a.ts≠[]->a.Ok) (hk:nY fs fs.length<=y.ts.length) (ho:(ze y fs fs.length).outs.length<=y.own.length) (g:Heap):
  zA prog 40 [d,x,yd] g λr h'=>Ext g h'/\∃sc m1 m2,r= .iptr sc 0/\Stt c fs (alS fs y) (ze y fs fs.length).M (ze y fs fs.length).O sc m1 m2/\StH (ze y fs fs.length).M (ze y fs fs.length).O m1 m2 h'/\g.next<=m1/\g.next<=m2:=by
 have a7:=K;obtain⟨a,b,e,p,rfl,ha,hb,he,hp⟩:=K;obtain⟨ta,oa,rfl,cg,cf⟩:=hy;have b9:=t7 hx;obtain⟨x1,x2,_⟩:=zI hx;have c5:zN true 4 [a,b,e,p] 0=some (.agg [a,b,e,p]):=zB rfl ow;obtain⟨sc,I⟩:∃sc,[a,b,e,p,x, .map g.next, .map (g.next+1)]=sc:=⟨_,rfl⟩;have ch:yA prog 154 [(0, .agg [a,b,e,p]),(1,x),(2, .map g.next),(3, .map (g.next+1))]=some (.agg sc):=by
  rw[<-I];clear I x1 x2 b9;rcases hx with⟨rfl,_⟩ | ⟨tk,rfl⟩ <;>simp[yA,W5,Pw,qL,yV,D.notTuple,D.cells]
 obtain⟨G,hG,E,A⟩:∃G:Heap,(g.new g.next (.map [])).new (g.next+1) (.map [])=G/\Ext g G/\StH [] [] g.next (g.next+1) G:=
  ⟨_,rfl,((Ext.refl g).new (Nat.le_refl _) _).new ow _,⟨by rw[zH ow];exact zK _ _ _,zK _ _ _⟩,by rw[zp _ (by rw[zF];exact Nat.le_refl _)];omega,by rw[zp _ (by rw[zF];exact Nat.le_refl _)];omega⟩
 have c3:sc[5]? =some (.map g.next):=by rw[<-I];rfl
 have c4:sc[6]? =some (.map (g.next+1)):=by rw[<-I];rfl
 have J:Stt c fs (alS fs y) (ze y fs fs.length).M (ze y fs fs.length).O sc g.next (g.next+1):=⟨⟨a,b,e,p,x,I.symm,a7,hx,ha⟩,sm,a8,ak,λi hi=>by rw[aF _ (Nat.le_refl _) i,ip hi],λi z Q=>by
  unfold alS at Q;split at Q
  ·cases Q
  ·split at Q
   ·split at Q
    ·rename_i h1 U;cases Q;have U:=of_decide_eq_true U;unfold pi at U⊢;rw[List.getD_eq_getElem?_getD] at U⊢;cases hq:y.ts[nY fs i]? with
     |none=>rw[hq] at U;simp[mkA] at U
     |some z=>rw[hq] at U;exact b8 z (List.mem_of_getElem? hq) λe=>by simp[e] at U
    ·cases Q
   ·cases Q⟩
 clear a7;refine xO mix func40 zHX rfl rfl ?_;simp only[f40,gJ]
 repeat' first|simp only[go_sem,zF, *]|apply bc<;>intro K
 clear hG ch I;refine zC (λi fr h=>fr 1=x/\fr 5= .iptr [ta,oa] 0/\fr 7= .iptr sc 0/\fr 8= .int .i64 ((nY fs i:Nat):Int)/\fr 19=x/\fr 20= .int .i64 (fs.length:Int)/\fr 21= .int .i64 (i:Int)/\∃u,fr 9=u/\wd h 1 (yS (ze y fs i).outs) u/\(∀j,wB u j->g.next<=j)/\Ext g h/\StH (ze y fs i).M (ze y fs i).O g.next (g.next+1) h) fs.length ow ?_ ?_ ?_
 ·have Q:nY fs 0=0:=rfl;have q:∃u,D.nilsl=u/\wd G 1 (yS (ze y fs 0).outs) u/\(∀j,wB u j->g.next<=j)/\Ext g G/\StH (ze y fs 0).M (ze y fs 0).O g.next (g.next+1) G:=⟨_,rfl, .inl ⟨rfl,rfl⟩,λj F=>F.elim,E,A⟩;simp only[go_sem,true_and,and_true,Int.ofNat_zero,Q];exact q
 ·clear E A;rintro i fr h S e1 ew ⟨f1,f5,f7,f8,bx,b5,b6,u,f9,W,v,E,A⟩;have a1:=qd hx S;have hw:zN true 12 fs[i].cells 0=some (.agg fs[i].cells):=zB rfl ow;have ad:=Xa (ak _ (List.getElem_mem S));have m:=sj (y:=y) S;have C:=dm S;have ag:=L9 (fs:=fs) (i:=i+1) (fs.length- (i+1)) ow;have T:=L8 (y:=y) (fs:=fs) (i:=i+1) (fs.length- (i+1)) ow;rw[show i+1+(fs.length- (i+1))=fs.length by omega] at ag T;have c1:=aG (y:=y) (fs:=fs) i ow;have cm:=aH (fs:=fs) i ow;have k0:fs[i].cells[0]? =some (.int .i64 fs[i].kind):=rfl;have k2:fs[i].cells[2]? =some (.str fs[i].out):=rfl;generalize fs[i]=f at *
  generalize ze y fs i=s at *
  have aj:h.next<(h.new h.next (.row f.cells)).next:=by rw[zF];omega
  obtain⟨H,hH,X,w,o,l,cc⟩:∃H:Heap,h.new h.next (.row f.cells)=H/\H.at' h.next=some (.row f.cells)/\Ext g H/\wd H 1 (yS s.outs) u/\StH s.M s.O g.next (g.next+1) H/\h.next<H.next:=
   ⟨_,rfl,zK _ _ _,E.new E.1 _,W.loc ow λj F=>zH (by have:=(W.tok F).1;omega),A.ext ((Ext.refl h).new (Nat.le_refl _) _),aj⟩
  obtain⟨n0,cb⟩:∃n,h.next=n:=⟨_,rfl⟩;have b7:=E.1;rw[cb] at hH X cc b7 aj;have c0:g.next+1<n0:=by have:=A.2.2;omega
  have bo:=ad h n0;rw[hH] at bo;clear ad E A W aj ak hH J;have k:ze y fs (i+1)=s->∃N,u=N/\wd H 1 (yS (ze y fs (i+1)).outs) N/\(∀j,wB N j->g.next<=j)/\Ext g H/\StH (ze y fs (i+1)).M (ze y fs (i+1)).O g.next (g.next+1) H:=λe=>by
   rw[e];exact⟨u,rfl,o,v,w,l⟩
  cases b1:(f.kind==1) with
  |true=>
   rw[b1] at m C;simp only[if_true] at m C;have ai:nY fs i<y.ts.length:=ow;have a2:=ue cg ai;have a6:pi y (nY fs i)=y.ts[nY fs i]:=by unfold pi;rw[List.getD_eq_getElem?_getD,List.getElem?_eq_getElem ai];rfl
   have bk:=ck.ts _ (List.getElem_mem ai);rw[a6] at m;have cs:IntKind.i64.wrap (((nY fs i:Nat):Int)+1)=((nY fs (i+1):Nat):Int):=by rw[C];exact zq (by unfold lim;omega)
   clear C ag a6 T;generalize y.ts[nY fs i]=z at *
   have cw:=yp bk.sl;obtain⟨z1,z2,_⟩:=zI bk.sl;cases b2:decide ((z.ts.length:Int)>0) with
   |false=>
    rw[b2] at m;have q:=k (by rw[m];rfl);clear m k o v w l
    repeat' first|simp only[go_sem, *]|apply bc<;>intro K
   |true=>
    rw[b2,ip rfl] at m;have ca:yW prog 151 (.map g.next) (.int .i64 (i:Int)) z.d H=some (H.set g.next (.map (kmD (D.int .i64) (lV (i:Int) z.d s.M)))):=Zx zB0 l.1.1 Uh Hp (i:Int) z.d;have q:∃N,u=N/\wd (H.set g.next (.map (kmD (D.int .i64) (lV (i:Int) z.d s.M)))) 1 (yS (ze y fs (i+1)).outs) N/\(∀j,wB N j->g.next<=j)/\Ext g (H.set g.next (.map (kmD (D.int .i64) (lV (i:Int) z.d s.M))))/\StH (ze y fs (i+1)).M (ze y fs (i+1)).O g.next (g.next+1) (H.set g.next (.map (kmD (D.int .i64) (lV (i:Int) z.d s.M)))):=by
     rw[m];refine⟨u,rfl,o.loc (Nat.le_refl _) λj F=>zE λe=> ?_,v,w.set (Nat.le_refl _) _,⟨zD _ _ _,by rw[zE ow];exact l.1.2⟩,l.2⟩;have:=(o.tok F).2;rw[e,l.1.1] at this;cases this
    clear m k o v w l
    repeat' first|simp only[go_sem, *]|apply bc<;>intro K
    refine zU kr ?_
    repeat' first|simp only[go_sem,zg, *]|apply bc<;>intro K
  |false=>
   rw[b1] at m C;simp only[Bool.false_eq_true,if_false,Nat.add_zero] at m C;rw[<-C] at f8;clear C ag;cases b2:(f.kind==2) with
   |false=>
    rw[b2] at m;have q:=k m;clear m k o v w l
    repeat' first|simp only[go_sem, *]|apply bc<;>intro K
   |true=>
    rw[b2,ip rfl] at m;have L:=pK o.isSl ow f.out H;have cv:=yL o.isSl;obtain⟨u1,u2,_⟩:=zI o.isSl;cases b3:(s.outs.any λz=>z==f.out) with
    |true=>
     rw[b3,ip rfl] at m;have q:=k m;rw[b3] at L;clear m k o v w l
     repeat' first|simp only[go_sem, *]|apply bc<;>intro K|(refine zA.mono L ?_;rintro r h ⟨hq,rfl⟩)
    |false=>
     rw[b3] at m L;simp only[Bool.false_eq_true,if_false] at m;have a9:s.outs.length<y.own.length:=by
      rw[m,List.length_append,List.length_singleton] at T;omega
     have a3:=wD cf a9;have bb:nG y s.outs.length=y.own[s.outs.length]:=by unfold nG;rw[List.getD_eq_getElem?_getD,List.getElem?_eq_getElem a9];rfl
     rw[bb] at m;clear bb T;generalize y.own[s.outs.length]=nm at *
     have cp:=p8 f.out;have R:∀ (B:Heap) (O2:KV),B.next=H.next->wd B 1 (yS s.outs) u->Ext g B->StH s.M O2 g.next (g.next+1) B->(ze y fs (i+1)).M=s.M->(ze y fs (i+1)).O=O2->(ze y fs (i+1)).outs=s.outs++ [f.out]->
       ∃d' V,zt prog false B.next 31 u (.sl 1 [[.str f.out]] .full) B=some (d',V)/\∃N,d'=N/\wd V 1 (yS (ze y fs (i+1)).outs) N/\(∀j,wB N j->g.next<=j)/\Ext g V/\StH (ze y fs (i+1)).M (ze y fs (i+1)).O g.next (g.next+1) V:=λB O2 hn W E Y q1 q2 q3=>by
      obtain⟨d',V,v1,v2,v3,v4,v5,v6,v7⟩:=W.app4 (P:=prog) (t:=31) (ys:=[[.str f.out]]) (x:= .sl 1 [[.str f.out]] .full) yv jN uW ow (by simp) (.inr ⟨by simp,_,rfl⟩) (by rw[zz,tF];unfold lim;simp;omega) (by rw[zz];unfold lim;simp;omega);have cu:=E.1;have t1:∀j,wB u j->j≠g.next/\j≠g.next+1:=λj F=>by
       have:=(W.tok F).2;exact⟨λe=>(by rw[e,Y.1.1] at this;cases this),λe=>(by rw[e,Y.1.2] at this;cases this)⟩
      refine⟨d',V,v1,d',rfl,by rw[q3,Ts];exact v2,λj F=>by have:=v5 j F;omega,⟨by omega,λj F=>by rw[v4 j ow λe=>by have:=v j e;omega,E.2 j F]⟩,by rw[q1,q2];exact⟨⟨by rw[v4 _ Y.2.1 λe=>(t1 _ e).1 rfl];exact Y.1.1,by rw[v4 _ Y.2.2 λe=>(t1 _ e).2 rfl];exact Y.1.2⟩,by have:=Y.2.1;omega,by have:=Y.2.2;omega⟩⟩
     cases b4:(nm== []) with
     |true=>
      rw[b4] at m;obtain⟨d',V,v1,q⟩:=R H s.O rfl o w l (by rw[m]) (by rw[m];rfl) (by rw[m]);clear m k o v w l R
      repeat' first|simp only[go_sem, *]|apply bc<;>intro K|(refine zA.mono L ?_;rintro r h ⟨hq,rfl⟩)
     |false=>
      rw[b4] at m;obtain⟨B,a4,ba,a5,a0,Z,c2⟩:∃B:Heap,H.set (g.next+1) (.map (kvD (nq f.out nm s.O)))=B/\B.next=H.next/\wd B 1 (yS s.outs) u/\Ext g B/\StH s.M (nq f.out nm s.O) g.next (g.next+1) B/\B.at' n0=some (.row f.cells):=
       ⟨_,rfl,zT _ _ _,o.loc (Nat.le_refl _) λj F=>zE λe=>(by have:=(o.tok F).2;rw[e,l.1.2] at this;cases this),w.set ow _,⟨⟨by rw[zE ow];exact l.1.1,zD _ _ _⟩,l.2⟩,by rw[zE ow];exact X⟩
      have ca:yW prog 152 (.map (g.next+1)) (.str f.out) (.str nm) H=some B:=by rw[<-a4];exact ZZ l.1.2 Ui Yq f.out nm
      obtain⟨d',V,v1,q⟩:=R B _ ba a5 a0 Z (by rw[m]) (by rw[m];rfl) (by rw[m]);clear m k o v w l R a4 ba a5 a0 Z
      repeat' first|simp only[go_sem, *]|apply bc<;>intro K|(refine zA.mono L ?_;rintro r h ⟨hq,rfl⟩)
      refine zU kr ?_
      repeat' first|simp only[go_sem,zg, *]|apply bc<;>intro K
 ·clear E A;rintro fr h e1 ⟨f1,f5,f7,f8,bx,b5,b6,u,f9,W,v,E,A⟩;have cl:Ext g h/\∃bs m1 m2,D.iptr sc 0= .iptr bs 0/\Stt c fs (alS fs y) (ze y fs fs.length).M (ze y fs fs.length).O bs m1 m2/\StH (ze y fs fs.length).M (ze y fs fs.length).O m1 m2 h/\g.next<=m1/\g.next<=m2:=⟨E,sc,g.next,g.next+1,rfl,J,A,Nat.le_refl _,by omega⟩;clear W v E A J;exact au
def V5 (c:Cat) (fs:List Fac) (y:Cho):List (List D):=cF c fs (alS fs y) (ze y fs fs.length).O 6
section
variable {c:Cat} {fs:List Fac} {y:Cho} {d x yd:D} (I:CIn c fs y d x yd)
include I
def CIn.start {p:Bool} (h:zw c fs y p=0) (g:Heap):zA prog 40 [d,x,yd] g λr h'=>Ext g h'/\∃sc m1 m2,r= .iptr sc 0/\Stt c fs (alS fs y) (ze y fs fs.length).M (ze y fs fs.length).O sc m1 m2/\StH (ze y fs fs.length).M (ze y fs fs.length).O m1 m2 h'/\g.next<=m1/\g.next<=m2:=by
 have h1:=I.n16 h;obtain⟨_,k1,k2,k3⟩:=X9 h I.ysm;exact CE I.cat I.sm I.x ow I.ok I.cho I.ysm (λa b e=>(k3 a b e).1) ow ow g
end
variable {c:Cat}{fs:List Fac}{P:Program}{d x:D}
def Qj {y:Cho} :∀x∈V5 c fs y,yh x:=kp
def Vio.cells (v:Vio):List D:=[.int .i64 v.row, .sl 1 (qP v.facts) .no]
def vcs (l:List Vio):List (List D):=l.map Vio.cells
def aJ (l:List Vio):(vcs l).length=l.length:=List.length_map ..
def CF {l:List Vio} (a:zd 2 (vcs l) d) (h:Heap):sD prog 138 d h=some (.int .i64 l.length):=by rw[ye a underlying138,aJ]
def zCH {l:List Vio} (a:zd 2 (vcs l) d) (b:i<l.length):zP prog 138 d (.int .i64 (i:Int))=some (.iptr l[i].cells 0):=zW a qi wk (by simp[vcs,b])
def Qk (c:Cat) (fs:List Fac) (al:Nat->Option Alt) (O:KV) (k:Nat):List Vio:=(List.range k).flatMap λi:Nat=>(rt c fs al O i).map λl=>⟨(i:Int),l⟩
def tB (c:Cat) (fs:List Fac) (y:Cho):List Vio:=Qk c fs (alS fs y) (ze y fs fs.length).O 6
def WF {O:KV} :cF c fs al O k=vcs (Qk c fs al O k):=by
 unfold cF Qk vcs vbs;rw[List.map_flatMap];congr 1
 funext i
 rw[List.map_map];rfl
def WG {y:Cho} :V5 c fs y=vcs (tB c fs y):=WF
def Ql {O:KV} (i:Nat):∀l∈rt c fs al O i,l.length<=5:=λl a=>by
 unfold rt at a;have b:=ov _ _ a;obtain⟨z,d,rfl⟩:=List.mem_map.1 (kW.1 b);exact Nat.le_trans (WA z) (WB i z d)
def I9 {y:Cho} :∀v∈tB c fs y,v.Is v.cells:=λv b=>by
 obtain⟨i,_,h⟩:=List.mem_flatMap.1 b;obtain⟨l,a,rfl⟩:=List.mem_map.1 h;have:=Ql i l a;exact⟨_,rfl,zd.mk .no,by show l.length<=_;omega⟩
def WH {l:List Vio} (n:zd 2 (vcs l) d) (y:l.length<=1073741824) {p:Vio->Bool} (A:∀s∈l,zA prog f ([]++ [.agg s.cells]++cap) g λr h'=>h'=g/\r= .bool (p s)):
  zA prog 200 [d, .fn (.func f) [] cap] g λr h'=>h'=g/\r= .int .i64 (Zf p l):=by
 have o:=CF n;refine xO mix func200 zAI rfl rfl ?_;simp only[f200,gJ]
 repeat' first|simp only[go_sem, *]|apply bc<;>intro m
 refine zC (λi fr h=>fr 1= .fn (.func f) [] cap/\fr 0=d/\fr 6=d/\fr 7= .int .i64 (l.length:Int)/\fr 8= .int .i64 (i:Int)/\h=g/\∀j (b:j<l.length),j<i->p l[j]=false) l.length y ?_ ?_ ?_
 ·simp only[go_sem,true_and,and_true,Int.ofNat_zero];exact λj b h0=>by omega
 ·rintro i fr h a e1 C ⟨u,t,v,w,x,rfl,b⟩;have q:=zCH n a;have e:=A _ (List.getElem_mem a);simp only[List.nil_append,List.cons_append,Vio.cells] at e;simp only[Vio.cells] at q;cases k:p l[i] with
  |true=>
   have B:=pN a b k;rw[k] at e
   repeat' first|simp only[go_sem, *]|apply bc<;>intro m|(refine zA.mono e ?_;rintro r h ⟨rfl,rfl⟩)
  |false=>
   have z:=qG (p:=p) a b k;rw[k] at e
   repeat' first|simp only[go_sem, *]|apply bc<;>intro m|(refine zA.mono e ?_;rintro r h ⟨rfl,rfl⟩)
   exact z
 ·rintro fr h e1 ⟨u,t,v,w,x,rfl,b⟩;have B:=pO (p:=p) λj c=>b j c c;exact au
def dn {l:List Vio} (b:zd 2 (vcs l) d) (e:l.length<=1073741824) {p:Vio->Bool} (i:∀s∈l,zA prog f ([]++ [.agg s.cells]++cap) g λr h'=>h'=g/\r= .bool (p s)):
  zA prog 122 [d, .fn (.func f) [] cap] g λr h'=>h'=g/\r= .bool (l.any p):=by
 have a:=WH b e i;have c:=p9 (l:=l) (p:=p);refine xO mix func122 zA9 rfl rfl ?_;simp only[f122,gJ]
 repeat' first|simp only[go_sem, *]|apply bc<;>intro j|(refine zA.mono a ?_;rintro r h ⟨rfl,rfl⟩)
def HA {v w:Vio} {cv:List D} (b:v.Is cv) (c:w.Is w.cells) (g:Heap):zA prog 124 [.agg w.cells, .iptr cv 0] g λr h'=>h'=g/\r= .bool (X5 v w==0):=by
 have a:=L6 b c;have h1:=Vio.Is.two b;have d:=Vio.Is.two c;refine xO mix func124 Aq rfl rfl ?_;simp only[f124,gJ]
 repeat' first|simp only[go_sem, *]|apply bc<;>intro a|(refine zA.mono (a _) ?_;rintro r h ⟨rfl,rfl⟩)
def oT (c:Cat) (fs:List Fac) (y:Cho) (v:Vio):Int:=
 if(!(zw c fs y true==0))=true then zw c fs y true else if(!((tB c fs y).any λw=>X5 v w==0))=true then 18 else 0
def Qm {y:Cho} {d x yd:D} (I:CIn c fs y d x yd) {v:Vio} {cv:List D} (P:v.Is cv) (g:Heap):
  zA prog 66 [d,x,yd, .agg cv] g λr h'=>h'=g/\r= .int .i64 (oT c fs y v):=by
 refine xU kr λF=>xS ?_;refine xP λQ L=> ?_;have l:=I.check true;have A:=λh=>I.start (p:=true) h;have t:=λh=>I.n16 (p:=true) h;obtain⟨a,b,e,p,rfl,_⟩:=I.cat;obtain⟨H,G,rfl,_⟩:=I.cho;obtain⟨U,V,_⟩:=zI I.x;have S:zN true 4 [a,b,e,p] 0=some (.agg [a,b,e,p]):=zB rfl ow;have R:zN true 2 [H,G] 0=some (.agg [H,G]):=zB rfl ow;have o:∀h',Ext g h'->Q (.int .i64 (oT c fs y v)) h':=λh' u=>L _ _ ⟨u,trivial,rfl⟩;refine xO mix func66 zHn rfl rfl ?_;simp only[f66,gJ];cases s:(zw c fs y true==0) with
 |false=>
  have m:oT c fs y v=zw c fs y true:=by unfold oT;rw[s];rfl
  have i:=o g (Ext.refl g);rw[m] at i
  repeat' first|simp only[go_sem, *]|apply bc<;>intro q|(refine zA.mono (l _) ?_;rintro r h ⟨k,rfl⟩)
 |true=>
  have h0:zw c fs y true=0:=by simpa using s
  have m:oT c fs y v=if(!((tB c fs y).any λw=>X5 v w==0))=true then 18 else 0:=by unfold oT;rw[s];rfl
  have N:=A h0;have E:=t h0;rw[h0] at l s
  repeat' first|simp only[go_sem, *]|apply bc<;>intro q|(refine zA.mono (l _) ?_;rintro r h ⟨k,rfl⟩)
  subst k
  rename Heap=>g
  refine(N _).mono ?_;rintro r h1 ⟨u,sc,m1,m2,rfl,M,K,_,_⟩
  repeat' first|simp only[go_sem, *]|apply bc<;>intro q
  refine(zGi M E K).mono ?_;rintro r B ⟨k,J⟩;subst k;have n:Fin 2 (vcs (tB c fs y)) r:=by rw[<-WG];exact J
  have z:(tB c fs y).length<=1073741824:=by
   have:=RM (c:=c) (fs:=fs) (al:=alS fs y) (O:=(ze y fs fs.length).O) E 6 ow;rw[WF,aJ] at this;show(Qk c fs (alS fs y) (ze y fs fs.length).O 6).length<=_;omega
  have j:=dn (f:=124) (cap:=[.iptr cv 0]) (p:=λw=>X5 v w==0) (g:=B) n.isSl z λw T=>HA P (I9 w T) B;obtain⟨r1,r2,_⟩:=zI n.isSl;have i:=o _ u;rw[m] at i;cases C:(tB c fs y).any (λw=>X5 v w==0) with
  |true=>
   rw[C] at j i
   repeat' first|simp only[go_sem, *]|apply bc<;>intro q|(refine zA.mono j ?_;rintro r h ⟨k,rfl⟩)
   subst k;exact i
  |false=>
   rw[C] at j i
   repeat' first|simp only[go_sem, *]|apply bc<;>intro q|(refine zA.mono j ?_;rintro r h ⟨k,rfl⟩)
   subst k;exact i
def jZ (c:Cat) (fs:List Fac) (y:Cho):D:=
 if(!(zw c fs y true==0))=true then .tuple [.agg YG, .bool false, .int .i64 (zw c fs y true)] else .tuple [.agg ((V5 c fs y).head?.getD YG), .bool ((V5 c fs y).head?.isSome), .int .i64 0]
def ja (c:Cat) (fs:List Fac) (y:Cho):D:=
 if(!(zw c fs y false==0))=true then .tuple [.bool false, .int .i64 (zw c fs y false)] else .tuple [.bool (!(V5 c fs y).head?.isSome), .int .i64 0]
def zCI {y:Cho} :∃num l,(V5 c fs y).head?.getD YG= [.int .i64 num,l]/\zd 1 [] .nilsl/\l.flat=true/\yh [.int .i64 num,l]:=by
 cases h:(V5 c fs y).head? with
 |none=>exact⟨0, .nilsl,rfl, .inl ⟨rfl,rfl⟩,rfl,rfl,⟨trivial,trivial,trivial⟩,rfl⟩
 |some x=>
  have a:=List.mem_of_mem_head? h;have b:=Qj x a;obtain⟨i,_,d⟩:=List.mem_flatMap.1 a;obtain⟨l,_,rfl⟩:=List.mem_map.1 d;exact⟨_,_,rfl, .inl ⟨rfl,rfl⟩,rfl,b⟩
def lh {y:Cho} {d x yd:D} (I:CIn c fs y d x yd) (g:Heap):
  zA prog 17 [d,x,yd] g λr h'=>h'=g/\r=ja c fs y:=by
 refine xU kr λA=>xS ?_;refine xP λQ G=> ?_;have i:=I.check false;have v:=λh=>I.start (p:=false) h;have t:=λh=>I.n16 (p:=false) h;obtain⟨a,b,e,p,rfl,_⟩:=I.cat;obtain⟨E,C,rfl,_⟩:=I.cho;obtain⟨S,T,_⟩:=zI I.x;have R:zN true 4 [a,b,e,p] 0=some (.agg [a,b,e,p]):=zB rfl ow;have P:zN true 2 [E,C] 0=some (.agg [E,C]):=zB rfl ow;have k:∀h' z n,Ext g h'->ja c fs y= .tuple [.bool z, .int .i64 n]->Q (.tuple [.bool z, .int .i64 n]) h':=λh' z n o e=>G _ _ ⟨o,⟨trivial,trivial,trivial⟩,e.symm⟩;refine xO mix func17 zHf rfl rfl ?_;simp only[f17,gJ];cases q:(zw c fs y false==0) with
 |false=>
  have j:ja c fs y= .tuple [.bool false, .int .i64 (zw c fs y false)]:=by unfold ja;rw[q];rfl
  have m:=k g _ _ (Ext.refl g) j
  repeat' first|simp only[go_sem, *]|apply bc<;>intro w|(refine zA.mono (i _) ?_;rintro r h ⟨s,rfl⟩)
 |true=>
  have h0:zw c fs y false=0:=by simpa using q
  have j:ja c fs y= .tuple [.bool (!(V5 c fs y).head?.isSome), .int .i64 0]:=by unfold ja;rw[q];rfl
  have N:=v h0;have M:=t h0;rw[h0] at i q
  repeat' first|simp only[go_sem, *]|apply bc<;>intro w|(refine zA.mono (i _) ?_;rintro r h ⟨s,rfl⟩)
  subst s
  rename Heap=>g
  refine(N _).mono ?_;rintro r h1 ⟨o,sc,m1,m2,rfl,H,F,_,_⟩
  repeat' first|simp only[go_sem, *]|apply bc<;>intro w
  refine(KE H M F).mono ?_;rintro r f ⟨s,rfl⟩;subst s;have J:I8 (cF c fs (alS fs y) (ze y fs fs.length).O 6)= .tuple [.agg ((V5 c fs y).head?.getD YG), .bool ((V5 c fs y).head?.isSome)]:=rfl;rw[J];obtain⟨num,l,K,_,L,u⟩:=zCI (c:=c) (fs:=fs) (y:=y);have B:zQ prog 65 (.ptr f.next 0) (.agg [.int .i64 num,l]) (f.new f.next (.row [.int .i64 0, .nilsl]))=some (f.new f.next (.row [.int .i64 num,l])):=zf wk ow rfl rfl u.1;have m:=k (f.new f.next (.row [.int .i64 num,l])) _ _ (o.new o.1 _) j;rw[K];exact au
def Qn {y:Cho} {d x yd:D} (I:CIn c fs y d x yd) (g:Heap):
  zA prog 84 [d,x,yd] g λr h'=>h'=g/\r=jZ c fs y:=by
 refine xU kr λU=>xS ?_;refine xP λQ hQ=> ?_;have k:=I.check true;have R:=λh=>I.start (p:=true) h;have E:=λh=>I.n16 (p:=true) h;obtain⟨a,b,e,p,rfl,_⟩:=I.cat;obtain⟨Y,X,rfl,_⟩:=I.cho;obtain⟨x1,x2,_⟩:=zI I.x;have a0:zN true 4 [a,b,e,p] 0=some (.agg [a,b,e,p]):=zB rfl ow;have ak:zN true 2 [Y,X] 0=some (.agg [Y,X]):=zB rfl ow;have a2:∀m l:D,zN true 2 [m,l] 0=some (.agg [m,l]):=λm l=>zB rfl ow;have a1:yA prog 65 []=some (.agg [.int .i64 0, .nilsl]):=by simp[yA,kI,mh,qL,D.notTuple,D.cells]
 obtain⟨G,hG,s,j,t⟩:∃G:Heap,g.new g.next (.row [.int .i64 0, .nilsl])=G/\Ext g G/\G.at' g.next=some (.row [.int .i64 0, .nilsl])/\g.next<G.next:=⟨_,rfl,(Ext.refl g).new (Nat.le_refl _) _,zK _ _ _,by rw[zF];omega⟩;have u:∀h' v z n,Ext g h'->yh v->jZ c fs y= .tuple [.agg v, .bool z, .int .i64 n]->Q (.tuple [.agg v, .bool z, .int .i64 n]) h':=λh' v z n q N e=>hQ _ _ ⟨q,by
  simp only[z8,zx,below,zh,N.2.2];exact⟨qz (Nat.zero_le _) _ N.2.1,trivial,trivial,trivial⟩,by simp only[z8,zx,N.2.2];exact e.symm⟩
 refine xO mix func84 zHp rfl rfl ?_;simp only[f84,gJ];cases B:(zw c fs y true==0) with
 |false=>
  have i:jZ c fs y= .tuple [.agg [.int .i64 0, .nilsl], .bool false, .int .i64 (zw c fs y true)]:=by unfold jZ;rw[B];rfl
  have V:zQ prog 65 (.ptr g.next 0) (.agg [.int .i64 0, .nilsl]) G=some G:=by
   rw[yq j (by rw[wk];rfl) rfl (by decide) rfl,uY j]
  have w:=u G _ _ _ s (show yh [.int .i64 0, .nilsl] from⟨rfl,⟨trivial,trivial,trivial⟩,rfl⟩) i
  repeat' first|simp only[go_sem, *]|apply bc<;>intro S|(refine zA.mono (k _) ?_;rintro r h ⟨C,rfl⟩)
 |true=>
  have h0:zw c fs y true=0:=by simpa using B
  have i:jZ c fs y= .tuple [.agg ((V5 c fs y).head?.getD YG), .bool ((V5 c fs y).head?.isSome), .int .i64 0]:=by unfold jZ;rw[B];rfl
  have hs:=R h0;have hn:=E h0;rw[h0] at k B
  repeat' first|simp only[go_sem, *]|apply bc<;>intro S|(refine zA.mono (k _) ?_;rintro r h ⟨C,rfl⟩)
  subst C
  rename Heap=>G
  refine(hs _).mono ?_;rintro r h1 ⟨q,sc,m1,m2,rfl,hS,hH,_,_⟩
  repeat' first|simp only[go_sem, *]|apply bc<;>intro S
  refine(KE hS hn hH).mono ?_;rintro r f ⟨C,rfl⟩;subst C;have hh:I8 (cF c fs (alS fs y) (ze y fs fs.length).O 6)= .tuple [.agg ((V5 c fs y).head?.getD YG), .bool ((V5 c fs y).head?.isSome)]:=rfl;rw[hh];obtain⟨num,l,T,_,aj,o⟩:=zCI (c:=c) (fs:=fs) (y:=y);have ai:g.next<f.next:=Nat.lt_of_lt_of_le t q.1;have P:f.at' g.next=some (.row [.int .i64 0, .nilsl]):=by rw[q.2 _ t];exact j
  have A:zQ prog 65 (.ptr f.next 0) (.agg [.int .i64 num,l]) (f.new f.next (.row [.int .i64 0, .nilsl]))=some (f.new f.next (.row [.int .i64 num,l])):=zf wk ow rfl rfl o.1;obtain⟨H,L,M,ag,K⟩:∃H:Heap,f.new f.next (.row [.int .i64 num,l])=H/\H.at' g.next=some (.row [.int .i64 0, .nilsl])/\H.at' f.next=some (.row [.int .i64 num,l])/\Ext g H:=⟨_,rfl,by rw[zH ow];exact P,zK _ _ _,(s.trans q).new ow _⟩;rw[L] at A;obtain⟨F,Z,ad,J⟩:∃F:Heap,H.set g.next (.row [.int .i64 num,l])=F/\F.at' g.next=some (.row [.int .i64 num,l])/\Ext g F:=⟨_,rfl,zD _ _ _,K.set (Nat.le_refl _) _⟩
  have W:zQ prog 65 (.ptr g.next 0) (.agg [.int .i64 num,l]) H=some F:=by
   rw[yq (cs':=[.int .i64 num,l]) M (by rw[wk];rfl) rfl (by simp) o.1,Z]
  rw[T] at i;have w:=u F _ _ _ J o i;rw[T];exact au
def o5 (a b:Vio):X5 a b=Xi (qI a.row b.row) (wC a.facts b.facts):=by
 unfold X5 Xi;simp only[orL];split
 ·split
  ·rename_i q;exact q.symm
  ·rfl
 ·rfl
def CG:QC X5:=by
 have:=(dO.key Vio.row).lex (Vy.key Vio.facts);exact⟨λx y=>by rw[o5,o5];exact this.anti x y,λx y z=>by rw[o5,o5,o5];exact this.trans x y z⟩
def CH (a b:Vio) (h:X5 a b=0):a=b:=by
 rw[o5,Xi] at h;split at h
 ·rename_i q;have h1:=LZ _ _ q;have c:=Vz _ _ h;cases a;cases b;simp only at h1 c;rw[h1,c]
 ·rename_i q;exact absurd h q
def RN (a b:Vio):(X5 a b==0)=true↔a=b:=by
 constructor
 ·intro h;exact CH a b (by simpa using h)
 ·rintro rfl;simp[CG.refl]
section
variable {c:Cat} {fs:List Fac} {al:Nat->Option Alt} {O:KV}
def WI {l:List Int} :l∈rt c fs al O i↔∃z∈mH c fs al O i,nF z=l:=by
 unfold rt;rw[DU Vz,kW,List.mem_map]
def KF {v:Vio} :v∈Qk c fs al O k↔∃i:Nat,i<k/\v.row=(i:Int)/\v.facts∈rt c fs al O i:=by
 unfold Qk;rw[List.mem_flatMap];constructor
 ·rintro⟨i,a,h⟩;obtain⟨l,d,rfl⟩:=List.mem_map.1 h;exact⟨i,List.mem_range.1 a,rfl,d⟩
 ·rintro⟨i,a,h1,b⟩;refine⟨i,List.mem_range.2 a,List.mem_map.2 ⟨v.facts,b,?_⟩⟩;cases v;simp only at h1;rw[h1]
end
variable {c:Cat}{fs:List Fac}{al:Nat->Option Alt}
def KG {y:Cho} {v:Vio} :v∈tB c fs y↔∃i:Nat,i<6/\v.row=(i:Int)/\∃z∈mH c fs (alS fs y) (ze y fs fs.length).O i,nF z=v.facts:=by
 unfold tB;rw[KF];constructor
 ·rintro⟨i,h1,a,h3⟩;exact⟨i,h1,a,WI.1 h3⟩
 ·rintro⟨i,h1,a,h3⟩;exact⟨i,h1,a,WI.2 h3⟩
def Qo {y:Cho} (h:zw c fs y true=0) (v:Vio):oT c fs y v=0↔v∈tB c fs y:=by
 unfold oT;rw[h];simp only[beq_self_eq_true,Bool.not_true,Bool.false_eq_true,if_false];constructor
 ·intro e;split at e
  ·exact absurd e (by decide)
  ·rename_i q;have q:(tB c fs y).any (λw=>X5 v w==0)=true:=by simpa using q
   obtain⟨w,b,e⟩:=List.any_eq_true.1 q;rw[(RN v w).1 e];exact b
 ·intro a;rw[iq]
  have:(tB c fs y).any (λw=>X5 v w==0)=true:=List.any_eq_true.2 ⟨v,a,(RN v v).2 rfl⟩;rw[this];decide
end Go.V
