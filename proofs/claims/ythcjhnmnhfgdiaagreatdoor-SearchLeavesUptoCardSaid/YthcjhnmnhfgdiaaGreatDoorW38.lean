/- A machine of abstract values for programs of the model, further rules, part 4. No condition. -/
import Derived.Test.YthcjhnmnhfgdiaaGreatDoorW37
set_option linter.all false
set_option maxHeartbeats 8000000
namespace Go.V
variable {P:Program}{h g:Heap}{sz k i:Nat}{xs ys:List (List D)}{d x:D}{K:D->Heap->Prop}{S0 S' S:Nat->Prop}{fr:Frm}{f:FuncId}{args sc:List D}{c:Cat}{fs:List Fac}{al:Nat->Option Alt}
def wW.app3 {t e:TypeId} (m:wW h sz xs d) (l:qO P t=some e) (o:gB P e=true) (n:szT P e=sz) (h0:0<sz) (k:∀y∈ys,y.length=sz) (s:(x= .nilsl/\ys= [])\/(ys≠[]/\∃tk,x= .sl sz ys tk))
  (f:(xs.length+ys.length)*ye P e<=lim) (g:xs.length+ys.length<=lim) (c:∀a h',wW h' sz (xs++ys) a->h.next<=h'.next->(∀i,i<h.next->¬wX d i->h'.at' i=h.at' i)->(∀i,wX a i->h.next<=i)->a.cells= [a]->a.flat=true->K a h'):onR (zu P false h.next t d x h) K:=by
 rcases s with⟨rfl,rfl⟩ | ⟨j,tk,rfl⟩
 ·simp only[List.append_nil,List.length_nil,Nat.add_zero] at c f g;simp only[zu,l,o,n,R7,if_true,List.length_nil,Nat.zero_div];rcases m with⟨rfl,rfl⟩ | ⟨q,rfl,h1,u⟩
  ·simp only[qf,if_true,jk];exact c _ _ (.inl ⟨rfl,rfl⟩) (Nat.le_refl _) (λi b _=>rfl) (λi b=>b.elim) rfl rfl
  ·simp only[qf];rw[ip (by simp only[Nat.add_zero,Bool.and_eq_true,decide_eq_true_eq];exact⟨⟨trivial,f⟩,g⟩)];simp only[h1,Bool.false_eq_true,if_false,jk];have p:yH sz 0 []= []:=rfl;rw[p,List.append_nil];refine c _ _ (.inr ⟨h.next,rfl,zK _ _ _,?_⟩) ?_ (λi b r=> ?_) (λi b=> ?_) rfl rfl
   ·exact Nat.lt_of_lt_of_le (Nat.lt_succ_self _) (Nat.le_max_right _ _)
   ·exact qp (h.del q) _ _
   ·rw[zG ow,yI λe=>r (by rw[e];rfl)]
   ·simp only[wX] at b;omega
 ·exact m.app2 l o n h0 k j f g c
def wW.app4 {t e:TypeId} (o:wW h sz xs d) (m:qO P t=some e) (s:gB P e=true) (p:szT P e=sz) (h0:0<sz) (k:∀y∈ys,y.length=sz) (r:(x= .nilsl/\ys= [])\/(ys≠[]/\∃tk,x= .sl sz ys tk))
  (l:(xs.length+ys.length)*ye P e<=lim) (n:xs.length+ys.length<=lim):∃j h',zu P false h.next t d x h=some (j,h')/\wW h' sz (xs++ys) j/\h.next<=h'.next/\(∀i,i<h.next->¬wX d i->h'.at' i=h.at' i)/\(∀i,wX j i->h.next<=i)/\j.cells= [j]/\j.flat=true:=by
 have:=o.app3 (K:=λj h'=>wW h' sz (xs++ys) j/\h.next<=h'.next/\(∀i,i<h.next->¬wX d i->h'.at' i=h.at' i)/\(∀i,wX j i->h.next<=i)/\j.cells= [j]/\j.flat=true) m s p h0 k r l n λj h' a b c e f g=>⟨a,b,c,e,f,g⟩;unfold onR at this;split at this
 ·rename_i j h' q;exact⟨j,h',q,this⟩
 ·exact this.elim
open Go.Proofs
set_option maxRecDepth 100000
def kM {l:List Int} :∀x∈qG l,yf x:=λx a=>by
 obtain⟨s,_,rfl⟩:=List.mem_map.1 a;exact⟨rfl,⟨trivial,trivial⟩,rfl⟩
def Ry (num:Int) (l:List Int):yf (Rv num l):=by
 have h:=yB (kM (l:=l)) (sz:=1) .no;refine⟨rfl,⟨trivial,h.2,trivial⟩,?_⟩;simp only[Rv,zq,h.1];rfl
section
variable (c:Cat) (fs:List Fac) (al:Nat->Option Alt) (O:KV)
def VP (k:Nat):List (List D):=(List.range k).flatMap λi:Nat=>vbs (i:Int) (pa c fs al O i)
end
section
variable {c:Cat} {fs:List Fac} {al:Nat->Option Alt} {O:KV}
def Xh (k:Nat):VP c fs al O (k+1)=VP c fs al O k++vbs (k:Int) (pa c fs al O k):=by
 unfold VP;rw[List.range_succ,List.flatMap_append,List.flatMap_cons,List.flatMap_nil,List.append_nil]
def bq:∀x∈VP c fs al O k,yf x:=λx a=>by
 obtain⟨i,_,h⟩:=List.mem_flatMap.1 a;obtain⟨l,_,rfl⟩:=List.mem_map.1 h;exact Ry _ _
def LB (i:Nat):(pa c fs al O i).length<=(nn c fs al O i).length:=by
 unfold pa;refine Nat.le_trans (sv _) ?_;rw[(qi _).length_eq,List.length_map];exact Nat.le_refl _
def Rz (k:Nat):(J7 c fs al O k= .nilsl/\vbs (k:Int) (pa c fs al O k)= [])\/(vbs (k:Int) (pa c fs al O k)≠[]/\∃tk,J7 c fs al O k= .sl 2 (vbs (k:Int) (pa c fs al O k)) tk):=by
 unfold J7;by_cases h:nn c fs al O k= []
 ·rw[ip h];refine .inl ⟨rfl,List.length_eq_zero_iff.1 ?_⟩;have:=LB (c:=c) (fs:=fs) (al:=al) (O:=O) k;rw[h,List.length_nil] at this;rw[u0];omega
 ·rw[iq h];refine .inr ⟨λe=> ?_,_,rfl⟩;have a:0<(srt wC ((nn c fs al O k).map pZ)).length:=by
   rw[(qi _).length_eq,List.length_map];exact List.length_pos_iff.2 h
  have:=ZS (c:=wC) a _ (Nat.le_refl _) a;have b:(pa c fs al O k).length=0:=by rw[<-u0 (k:Int),e];rfl
  unfold pa cpt at b;omega
end
def ZLp (id:Nat) (L:LRec) (V:(Nat->Prop)->Heap->Prop) (S:Nat->Prop) (h:Heap):Prop:=
 id<h.next/\h.at' id=some (.loop { L with st:= .done,pending:=some .ret })/\∃S0,V S0 h/\¬S0 id/\∀i,S i↔(i=id\/S0 i)
def LpZ (id:Nat) (L:LRec) (W:Nat->(Nat->Prop)->Heap->Prop) (V:(Nat->Prop)->Heap->Prop) (k:Nat) (S0:Nat->Prop) (h:Heap) (r:D) (h':Heap):Prop:=
 ∃S',(∀i,S' i->S0 i\/h.next<=i)/\But (λi=>i=id\/S0 i) h h'/\((r= .bool true/\h'.at' id=some (.loop L)/\W (k+1) S' h')\/(r= .bool false/\h'.at' id=some (.loop { L with st:= .done,pending:=some .ret })/\V S' h'))
section
variable {P:Program} {W:Nat->(Nat->Prop)->Heap->Prop} {V:(Nat->Prop)->Heap->Prop} {id n:Nat} {L:LRec} {el:Nat->List D}
def YLp.yldZ (w:Lcl W) (v:Lcl λ_=>V) (go:∀k S0 h3,k<n->id<h3.next->h3.at' id=some (.loop L)->W k S0 h3->¬S0 id->yo P id (el k) h3 (LpZ id L W V k S0 h3)):Yld P id n el (YLp id L W) (ZLp id L V):=by
 refine⟨λk S h y i b=> ?_,λk S h h' y l f=> ?_,λS h y i b=> ?_,λS h h' y l f=> ?_,λk S h f y=> ?_⟩
 ·obtain⟨c,_,S0,d,_,a⟩:=y;rcases(a i).1 b with rfl|t
  ·exact c
  ·exact w.here _ _ _ d i t
 ·obtain⟨c,j,S0,d,g,a⟩:=y;exact⟨by omega,by rw[f id ((a id).2 (.inl rfl))];exact j,S0,w.loc _ _ _ _ d l λi b=>f i ((a i).2 (.inr b)),g,a⟩
 ·obtain⟨c,_,S0,d,_,a⟩:=y;rcases(a i).1 b with rfl|t
  ·exact c
  ·exact v.here 0 _ _ d i t
 ·obtain⟨c,j,S0,d,g,a⟩:=y;exact⟨by omega,by rw[f id ((a id).2 (.inl rfl))];exact j,S0,v.loc 0 _ _ _ d l λi b=>f i ((a i).2 (.inr b)),g,a⟩
 ·obtain⟨c,j,S0,d,g,a⟩:=y;refine(go k S0 h f c j d g).mono ?_;rintro r h' ⟨S',u,o,x⟩;have m:¬S' id:=λe=>by
   rcases u _ e with q|q
   ·exact g q
   ·omega
  refine⟨λi=>i=id\/S' i,λi b=> ?_,⟨o.1,λi b l=>o.2 i b λe=>l ((a i).2 e)⟩,?_⟩
  ·rcases b with rfl|b
   ·exact .inl ((a _).2 (.inl rfl))
   ·exact(u i b).imp (λq=>(a i).2 (.inr q)) λq=>q
  ·rcases x with⟨rfl,p,s⟩ | ⟨rfl,p,s⟩
   ·exact .inl ⟨rfl,Nat.lt_of_lt_of_le c o.1,p,S',s,m,λi=>Iff.rfl⟩
   ·exact .inr ⟨rfl,Nat.lt_of_lt_of_le c o.1,p,S',s,m,λi=>Iff.rfl⟩
def Lp.finZ (f:Lcl W) {B:LRec} (b:({ B with st:= .ready,pending:=none } :LRec)=L) {h3 a:Heap} (d:id<h3.next) (j:¬S0 id) (hid:a.at' id=some (.loop B)) (c:∀i,S' i->S0 i\/h3.next<=i) (g:But (λi=>i=id\/S0 i) h3 a) (l:W (k+1) S' a) :
  wh (LpZ id L W V k S0 h3) id .normal fr a:=by
 refine qy hid ⟨S',c,g.set (.inl (.inl rfl)) _, .inl ⟨rfl,by rw[zC,b],f.loc _ _ _ _ l (Nat.le_refl _) λi h=>zE λe=> ?_⟩⟩;subst e;rcases c _ h with q|q
 ·exact j q
 ·omega
def Lp.retZ (f:Lcl λ_=>V) {B:LRec} (b:({ B with st:= .ready,pending:=none } :LRec)=L) {h3 a:Heap} (d:id<h3.next) (j:¬S0 id) (hid:a.at' id=some (.loop B)) (c:∀i,S' i->S0 i\/h3.next<=i) (g:But (λi=>i=id\/S0 i) h3 a) (l:V S' a) :
  wh (LpZ id L W V k S0 h3) id .ret fr a:=by
 refine l7 hid ⟨S',c,g.set (.inl (.inl rfl)) _, .inr ⟨rfl,by rw[zC,<-b],f.loc 0 _ _ _ l (Nat.le_refl _) λi h=>zE λe=> ?_⟩⟩;subst e;rcases c _ h with q|q
 ·exact j q
 ·omega
def LC {a:Nat} (z:h.next=a) {Q:Exit->Frm->Heap->Prop} (o:Lcl W) (D:Lcl λ_=>V) (C:L.st= .ready) (B:L.pending=none) (y:W 0 S h)
  (s:Yld P a n el (YLp a L W) (ZLp a L V)->YLp a L W 0 (λi=>i=a\/S i) (h.new a (.loop L))->zA P f args (h.new a (.loop L)) λ_ h'=>∃S',(∀j,S' j->(j=a\/S j)\/(h.new a (.loop L)).next<=j)/\But (λi=>i=a\/S i) (h.new a (.loop L)) h'/\(YLp a L W n S' h'\/ZLp a L V S' h'))
  (go:∀k S0 h3,k<n->a<h3.next->h3.at' a=some (.loop L)->W k S0 h3->¬S0 a->yo P a (el k) h3 (LpZ a L W V k S0 h3))
  (w:∀S' b,(∀j,S' j->S j\/a<=j)->But S h b->W n S' b->Q .normal fr b)
  (m:∀S' b,(∀j,S' j->S j\/a<=j)->But S h b->V S' b->Q .ret fr b):
  zA P f args (h.new a (.loop L)) λ_ h'=>∃r,h'.at' a=some (.loop r)/\r.st≠ .busy/\dp r.pending Q fr (h'.del a):=by
 subst z;have G:(h.new h.next (.loop L)).next=h.next+1:=zF _ _;have x:¬S h.next:=λe=>Nat.lt_irrefl _ (o.here _ _ _ y _ e);refine(s (YLp.yldZ o D go) ⟨by omega,zK _ _ _,S,o.loc _ _ _ _ y ow λi g=>zG (by have:=o.here _ _ _ y _ g;omega),x,λi=>Iff.rfl⟩).mono ?_;have key:∀ (S' S0:Nat->Prop) (b:Heap),(∀j,S' j->(j=h.next\/S j)\/(h.new h.next (.loop L)).next<=j)->But (λi=>i=h.next\/S i) (h.new h.next (.loop L)) b->¬S0 h.next->(∀i,S' i↔(i=h.next\/S0 i))->(∀j,S0 j->S j\/h.next<=j)/\But S h (b.del h.next):=by
  intro S' S0 b t p c l;refine⟨λj E=> ?_,by have:=p.1;show h.next<=b.next;omega,λi g A=> ?_⟩
  ·rcases t j ((l j).2 (.inr E)) with(q|q)|q
   ·subst q;exact absurd E c
   ·exact .inl q
   ·exact .inr ow
  ·have d:i≠h.next:=ow;rw[yI d,p.2 i ow (λe=>e.elim d A),zG d]
 rintro r b ⟨S',t,p,⟨F,u,S0,v,c,l⟩ | ⟨F,u,S0,v,c,l⟩⟩
 ·obtain⟨k1,k2⟩:=key S' S0 b t p c l;refine⟨L,u,(by rw[C];intro q;cases q),?_⟩;rw[B,ur];exact w S0 _ k1 k2 (o.loc _ _ _ _ v (Nat.le_refl _) λi g=>yI λe=>by subst e;exact c g)
 ·obtain⟨k1,k2⟩:=key S' S0 b t p c l;refine⟨_,u,(by intro q;cases q),?_⟩;simp only[mc];exact m S0 _ k1 k2 (D.loc 0 _ _ _ v (Nat.le_refl _) λi g=>yI λe=>by subst e;exact c g)
end
open Go.Proofs.Tryz
variable {c:Cat}{fs:List Fac}{al:Nat->Option Alt}{P:Program}
theorem Xi {O:KV} {m:Nat} {x:List D} (h:(VP c fs al O m).head? =some x):∀k,(VP c fs al O (m+k)).head? =some x
 |0=>h
 |k+1=>by
  rw[<-Nat.add_assoc,Xh,List.head?_append,Xi h k];rfl
def Xj:List D:=[.int .i64 0, .nilsl]
def DF (l:List (List D)):D:= .tuple [.agg (l.head?.getD Xj), .bool (l.head?.isSome)]
def CS (c:Cat) (fs:List Fac) (al:Nat->Option Alt) (O:KV) (n0 k:Nat) (S:Nat->Prop) (h:Heap):Prop:=
 n0+1<h.next/\h.at' n0=some (.row Xj)/\h.at' (n0+1)=some (.row [.bool false])/\VP c fs al O k= []/\∀i,S i↔(i=n0\/i=n0+1)
def zBE (c:Cat) (fs:List Fac) (al:Nat->Option Alt) (O:KV) (n0:Nat) (S:Nat->Prop) (h:Heap):Prop:=
 ∃x,n0+1<h.next/\h.at' n0=some (.row x)/\h.at' (n0+1)=some (.row [.bool true])/\(VP c fs al O 6).head? =some x/\∀i,S i↔(i=n0\/i=n0+1)
def CS.lcl (c:Cat) (fs:List Fac) (al:Nat->Option Alt) (O:KV) (l:Nat):Lcl (CS c fs al O l):=by
 refine⟨λk S h y i j=> ?_,λk S h h' y m f=> ?_⟩
 ·obtain⟨g,b,d,e,a⟩:=y;rcases(a i).1 j with rfl|rfl<;>omega
 ·obtain⟨g,b,d,e,a⟩:=y;exact⟨by omega,by rw[f _ ((a _).2 (.inl rfl))];exact b,by rw[f _ ((a _).2 (.inr rfl))];exact d,e,a⟩
def zBE.lcl (c:Cat) (fs:List Fac) (al:Nat->Option Alt) (O:KV) (l:Nat):Lcl λ_=>zBE c fs al O l:=by
 refine⟨λk S h y i j=> ?_,λk S h h' y m f=> ?_⟩
 ·obtain⟨x,g,b,d,e,a⟩:=y;rcases(a i).1 j with rfl|rfl<;>omega
 ·obtain⟨x,g,b,d,e,a⟩:=y;exact⟨x,by omega,by rw[f _ ((a _).2 (.inl rfl))];exact b,by rw[f _ ((a _).2 (.inr rfl))];exact d,e,a⟩
theorem DG {M:KM Int} {O:KV} {m1 m2:Nat} (hs:Stt c fs al M O sc m1 m2) (hn:fs.length<=16) (hH:StH M O m1 m2 g):
  zA prog 41 [.iptr sc 0] g λr h'=>h'=g/\r=DF (VP c fs al O 6):=by
 refine xU kr λbx=>xS ?_;refine xP λQ hQ=> ?_;have a7:=Xg sc;obtain⟨G,hG,ag,g1,g2,Y⟩:∃G:Heap,(g.new g.next (.row [.int .i64 0, .nilsl])).new (g.next+1) (.row [.bool false])=G/\G.next=g.next+2/\G.at' g.next=some (.row Xj)/\G.at' (g.next+1)=some (.row [.bool false])/\Ext g G:=
  ⟨_,rfl,zo _ (by rw[zF];exact Nat.le_refl _) _,by rw[zG ow];exact zK _ _ _,zK _ _ _,((Ext.refl g).new (Nat.le_refl _) _).new ow _⟩
 refine xO mix func41 zGZ rfl rfl ?_;simp only[f41,gJ]
 repeat' first|simp only[go_sem,zF,M9, *]|apply bc<;>intro hc|(refine zA.mono (a7 _) ?_;rintro r h ⟨hq,rfl⟩)
 subst hq
 rename Heap=>G
 generalize U:LRec.mk _ _ _ _ _ _ _=L;have bb:L.pending=none:=by rw[<-U]
 have bk:L.st= .ready:=by rw[<-U]
 have hW:=CS.lcl c fs al O g.next;have hV:=zBE.lcl c fs al O g.next;have a0:CS c fs al O g.next 0 (λj=>j=g.next\/j=g.next+1) G:=⟨by omega,g1,g2,rfl,λ_=>Iff.rfl⟩;have ai:=hH.ext Y;refine LC (n:=6) (el:=λi=>[J7 c fs al O i]) ag hW hV bk bb a0 (λyl a6=>(Zh hs hn yl a6 (ai.ext ((Ext.refl G).new ow _)) (λe=> ?_) (λe=> ?_))) ?_ ?_ ?_
 ·have:=hH.2.1;rcases e with e|e|e<;>omega
 ·have:=hH.2.2;rcases e with e|e|e<;>omega
 ·intro k S0 h3 hk q ba bo v;have d:=ba;rw[<-U] at d;refine yo.round (g:=Ph) mix d rfl kr kr kr ?_;simp only[go_sem];refine⟨d,?_⟩;generalize hB:LRec.mk .busy _ _ _ _ _ _=B;have P:({ B with st:= .ready,pending:=none } :LRec)=L:=by rw[<-hB,<-U]
  have a:But (λi=>i=g.next+2) h3 (h3.set (g.next+2) (.loop B)):=⟨by rw[zT];exact Nat.le_refl _,λj _ R=>zE R⟩;have A:=hW.round bo (λi p=>p) v a;obtain⟨H,ak,b2,N⟩:∃H:Heap,h3.set (g.next+2) (.loop B)=H/\H.next=h3.next/\H.at' (g.next+2)=some (.loop B):=⟨_,rfl,zT _ _ _,zC _ _ _⟩;rw[ak] at A a⊢;have b1:=A;obtain⟨X,J,K,C,E⟩:=A;have w:=Xh (c:=c) (fs:=fs) (al:=al) (O:=O) k;rw[C,List.nil_append] at w;rcases Rz (c:=c) (fs:=fs) (al:=al) (O:=O) k with⟨e1,e2⟩ | ⟨e1,tk,e2⟩
  ·have b:∀fr,wh (LpZ (g.next+2) L (CS c fs al O g.next) (zBE c fs al O g.next) k S0 h3) (g.next+2) .normal fr H:=λfr=>by
    refine Lp.finZ hW P q v N (S':=S0) (λi p=> .inl p) ⟨a.1,λi p f=>a.2 i p λe=>f (.inl e)⟩ ⟨X,J,K,by rw[w];exact e2,E⟩
   have hl:∀h,tU prog 138 .nilsl h=some (.int .i64 0):=λh=>yc (zZ.nil (sz:=2)) underlying138;have h0:decide ((0:Int)>0)=false:=rfl;simp only[go_sem,e1,hl,h0];exact b _
  ·obtain⟨x,xs,V⟩:=List.exists_cons_of_ne_nil e1;rw[V] at e2;have o:x.length=2:=pS (k:Int) (pa c fs al O k) x (by rw[V];simp);have bs:∃l,x=Rv (k:Int) l:=by
    have:x∈vbs (k:Int) (pa c fs al O k):=by rw[V];simp
    obtain⟨l,_,e⟩:=List.mem_map.1 this;exact⟨l,e.symm⟩
   have a9:(VP c fs al O 6).head? =some x:=by
    have:=Xi (c:=c) (fs:=fs) (al:=al) (O:=O) (m:=k+1) (x:=x) (by rw[w,V];rfl) (6- (k+1))
    rwa [show k+1+(6- (k+1))=6 by omega] at this
   have hl:∀h,tU prog 138 (.sl 2 (x::xs) tk) h=some (.int .i64 ((x::xs).length:Int)):=λh=>yc (zZ.mk (sz:=2) tk) underlying138;have h0:decide (((x::xs).length:Int)>0)=true:=decide_eq_true (by simp only[List.length_cons];omega);have ha:zQ prog 138 (.sl 2 (x::xs) tk) (.int .i64 0)=some (.iptr x 0):=zb (i:=0) (zZ.mk (sz:=2) tk) wG uO rfl;have y:zM true 2 x 0=some (.agg x):=zB o ow;have s:zP prog 65 (.ptr g.next 0) (.agg x) H=some (H.set g.next (.row x)):=yM J (by rw[uO,o]) (by rw[o];rfl) ow (by obtain⟨l,rfl⟩:=bs;rfl)
   have t:zP prog 4 (.ptr (g.next+1) 0) (.bool true) (H.set g.next (.row x))=some ((H.set g.next (.row x)).set (g.next+1) (.row [.bool true])):=by
    rw[zS (by rw[zE ow];exact K) BF (by simp) rfl rfl];rfl
   have b:∀fr,wh (LpZ (g.next+2) L (CS c fs al O g.next) (zBE c fs al O g.next) k S0 h3) (g.next+2) .ret fr ((H.set g.next (.row x)).set (g.next+1) (.row [.bool true])):=λfr=>by
    have b3:=a.1;refine Lp.retZ hV P q v ?_ (S':=S0) (λi p=> .inl p) ⟨by rw[zT,zT];omega,λi p f=> ?_⟩ ⟨x,by rw[zT,zT];omega,by rw[zE ow,zC],zC _ _ _,a9,E⟩
    ·rw[zE ow,zE ow];exact N
    ·rw[zE λe=>f (.inr ((E i).2 (.inr e))),zE λe=>f (.inr ((E i).2 (.inl e))),a.2 i p λe=>f (.inl e)]
   simp only[go_sem,e2,hl,h0,ha,y,s,t];exact b _
 ·intro S' I S hb z;obtain⟨X,J,K,C,E⟩:=z;have u:Ext g I:=Ext.of_but Y hb λj R=>by rcases R with rfl|rfl<;>omega
  have b4:zt prog 65 []=some (.agg Xj):=by simp[zt,lr,mT,qB,Xj,D.notTuple,D.cells]
  obtain⟨W,Z,r1,r2,E1⟩:∃F,I.set g.next (.row Xj)=F/\F.at' g.next=some (.row Xj)/\F.at' (g.next+1)=some (.row [.bool false])/\Ext g F:=⟨_,rfl,zC _ _ _,by rw[zE ow];exact K,u.set (Nat.le_refl _) _⟩;have s:zP prog 65 (.ptr g.next 0) (.agg Xj) I=some W:=by
   rw[yM J (by rw[uO];rfl) rfl (by decide) rfl,Z]
  obtain⟨F2,ad,r3,r4,E2⟩:∃F,W.set (g.next+1) (.row [.bool false])=F/\F.at' g.next=some (.row Xj)/\F.at' (g.next+1)=some (.row [.bool false])/\Ext g F:=⟨_,rfl,by rw[zE ow];exact r1,zC _ _ _,E1.set ow _⟩;have t:zP prog 4 (.ptr (g.next+1) 0) (.bool false) W=some F2:=by
   rw[zS r2 BF (by simp) rfl rfl,<-ad];rfl
  have y:zM true 2 Xj 0=some (.agg Xj):=zB rfl ow;have a8:Q (.tuple [.agg Xj, .bool false]) F2:=hQ _ _ ⟨E2,⟨⟨trivial,trivial,trivial⟩,trivial,trivial⟩,by rw[C];rfl⟩;exact au
 ·intro S' I S hb z;obtain⟨x,X,J,K,C,E⟩:=z;have u:Ext g I:=Ext.of_but Y hb λj R=>by rcases R with rfl|rfl<;>omega
  have T:x∈VP c fs al O 6:=List.mem_of_mem_head? C;obtain⟨p1,p2,p3⟩:=bq x T;have o:x.length=2:=by
   obtain⟨i,_,h⟩:=List.mem_flatMap.1 T;exact pS _ _ x h
  have y:zM true 2 x 0=some (.agg x):=zB o ow;have a8:Q (.tuple [.agg x, .bool true]) I:=hQ _ _ ⟨u,by
   simp only[zi,zq,below,zf,p3];exact⟨qx (Nat.zero_le _) _ p2,trivial,trivial⟩,by
   simp only[zi,zq,p3,DF,C];rfl⟩
  exact au
theorem DH {d x yd:D} {y:Cho} (K:yt c d) (sm:c.Sm) (hx:zZ 12 (nb fs) x) (a9:fs.length<=256) (a0:∀f∈fs,f.Ok) (hy:Ej y yd) (cm:y.Sm)
  (b9:∀a∈y.ts,a.ts≠[]->a.Ok) (hk:kK fs fs.length<=y.ts.length) (ho:(zp y fs fs.length).outs.length<=y.own.length) (g:Heap):
  zA prog 40 [d,x,yd] g λr h'=>Ext g h'/\∃sc m1 m2,r= .iptr sc 0/\Stt c fs (alS fs y) (zp y fs fs.length).M (zp y fs fs.length).O sc m1 m2/\StH (zp y fs fs.length).M (zp y fs fs.length).O m1 m2 h'/\g.next<=m1/\g.next<=m2:=by
 have a8:=K;obtain⟨a,b,e,p,rfl,ha,hb,he,hp⟩:=K;obtain⟨ta,oa,rfl,ch,cg⟩:=hy;have ca:=uR hx;obtain⟨x1,x2,_⟩:=zJ hx;have c7:zM true 4 [a,b,e,p] 0=some (.agg [a,b,e,p]):=zB rfl ow;obtain⟨sc,I⟩:∃sc,[a,b,e,p,x, .map g.next, .map (g.next+1)]=sc:=⟨_,rfl⟩;have cl:zt prog 154 [(0, .agg [a,b,e,p]),(1,x),(2, .map g.next),(3, .map (g.next+1))]=some (.agg sc):=by
  rw[<-I];clear I x1 x2 ca;rcases hx with⟨rfl,_⟩ | ⟨tk,rfl⟩ <;>simp[zt,WX,Q5,qB,yU,D.notTuple,D.cells]
 obtain⟨G,hG,E,A⟩:∃G:Heap,(g.new g.next (.map [])).new (g.next+1) (.map [])=G/\Ext g G/\StH [] [] g.next (g.next+1) G:=
  ⟨_,rfl,((Ext.refl g).new (Nat.le_refl _) _).new ow _,⟨by rw[zG ow];exact zK _ _ _,zK _ _ _⟩,by rw[zo _ (by rw[zF];exact Nat.le_refl _)];omega,by rw[zo _ (by rw[zF];exact Nat.le_refl _)];omega⟩
 have c5:sc[5]? =some (.map g.next):=by rw[<-I];rfl
 have c6:sc[6]? =some (.map (g.next+1)):=by rw[<-I];rfl
 have J:Stt c fs (alS fs y) (zp y fs fs.length).M (zp y fs fs.length).O sc g.next (g.next+1):=⟨⟨a,b,e,p,x,I.symm,a8,hx,ha⟩,sm,a9,a0,λi hi=>by rw[bm _ (Nat.le_refl _) i,ip hi],λi z Q=>by
  unfold alS at Q;split at Q
  ·cases Q
  ·split at Q
   ·split at Q
    ·rename_i h1 U;cases Q;have U:=of_decide_eq_true U;unfold dO at U⊢;rw[List.getD_eq_getElem?_getD] at U⊢;cases hq:y.ts[kK fs i]? with
     |none=>rw[hq] at U;simp[mkA] at U
     |some z=>rw[hq] at U;exact b9 z (List.mem_of_getElem? hq) λe=>by simp[e] at U
    ·cases Q
   ·cases Q⟩
 clear a8;refine xO mix func40 zGS rfl rfl ?_;simp only[f40,gJ]
 repeat' first|simp only[go_sem,zF, *]|apply bc<;>intro K
 clear hG cl I;refine zD (λi fr h=>fr 1=x/\fr 5= .iptr [ta,oa] 0/\fr 7= .iptr sc 0/\fr 8= .int .i64 ((kK fs i:Nat):Int)/\fr 19=x/\fr 20= .int .i64 (fs.length:Int)/\fr 21= .int .i64 (i:Int)/\∃u,fr 9=u/\wW h 1 (yR (zp y fs i).outs) u/\(∀j,wX u j->g.next<=j)/\Ext g h/\StH (zp y fs i).M (zp y fs i).O g.next (g.next+1) h) fs.length ow ?_ ?_ ?_
 ·have Q:kK fs 0=0:=rfl;have q:∃u,D.nilsl=u/\wW G 1 (yR (zp y fs 0).outs) u/\(∀j,wX u j->g.next<=j)/\Ext g G/\StH (zp y fs 0).M (zp y fs 0).O g.next (g.next+1) G:=⟨_,rfl, .inl ⟨rfl,rfl⟩,λj F=>F.elim,E,A⟩;simp only[go_sem,true_and,and_true,Int.ofNat_zero,Q];exact q
 ·clear E A;rintro i fr h S e1 ew ⟨f1,f5,f7,f8,b5,b6,b7,u,f9,W,v,E,A⟩;have a1:=qZ hx S;have hw:zM true 12 fs[i].cells 0=some (.agg fs[i].cells):=zB rfl ow;have ad:=Y5 (a0 _ (List.getElem_mem S));have m:=pU (y:=y) S;have C:=dP S;have ag:=M6 (fs:=fs) (i:=i+1) (fs.length- (i+1)) ow;have T:=M5 (y:=y) (fs:=fs) (i:=i+1) (fs.length- (i+1)) ow;rw[show i+1+(fs.length- (i+1))=fs.length by omega] at ag T;have c3:=bn (y:=y) (fs:=fs) i ow;have cs:=bp (fs:=fs) i ow;have k0:fs[i].cells[0]? =some (.int .i64 fs[i].kind):=rfl;have k2:fs[i].cells[2]? =some (.str fs[i].out):=rfl;generalize fs[i]=f at *
  generalize zp y fs i=s at *
  have ak:h.next<(h.new h.next (.row f.cells)).next:=by rw[zF];omega
  obtain⟨H,hH,X,w,o,l,cf⟩:∃H:Heap,h.new h.next (.row f.cells)=H/\H.at' h.next=some (.row f.cells)/\Ext g H/\wW H 1 (yR s.outs) u/\StH s.M s.O g.next (g.next+1) H/\h.next<H.next:=
   ⟨_,rfl,zK _ _ _,E.new E.1 _,W.loc ow λj F=>zG (by have:=(W.tok F).1;omega),A.ext ((Ext.refl h).new (Nat.le_refl _) _),ak⟩
  obtain⟨n0,cc⟩:∃n,h.next=n:=⟨_,rfl⟩;have b8:=E.1;rw[cc] at hH X cf b8 ak;have c2:g.next+1<n0:=by have:=A.2.2;omega
  have bs:=ad h n0;rw[hH] at bs;clear ad E A W ak a0 hH J;have k:zp y fs (i+1)=s->∃N,u=N/\wW H 1 (yR (zp y fs (i+1)).outs) N/\(∀j,wX N j->g.next<=j)/\Ext g H/\StH (zp y fs (i+1)).M (zp y fs (i+1)).O g.next (g.next+1) H:=λe=>by
   rw[e];exact⟨u,rfl,o,v,w,l⟩
  cases b1:(f.kind==1) with
  |true=>
   rw[b1] at m C;simp only[if_true] at m C;have ai:kK fs i<y.ts.length:=ow;have a2:=uz ch ai;have a7:dO y (kK fs i)=y.ts[kK fs i]:=by unfold dO;rw[List.getD_eq_getElem?_getD,List.getElem?_eq_getElem ai];rfl
   have bo:=cm.ts _ (List.getElem_mem ai);rw[a7] at m;have cv:IntKind.i64.wrap (((kK fs i:Nat):Int)+1)=((kK fs (i+1):Nat):Int):=by rw[C];exact zw (by unfold lim;omega)
   clear C ag a7 T;generalize y.ts[kK fs i]=z at *
   have c1:=yr bo.sl;obtain⟨z1,z2,_⟩:=zJ bo.sl;cases b2:decide ((z.ts.length:Int)>0) with
   |false=>
    rw[b2] at m;have q:=k (by rw[m];rfl);clear m k o v w l
    repeat' first|simp only[go_sem, *]|apply bc<;>intro K
   |true=>
    rw[b2,ip rfl] at m;have cb:yV prog 151 (.map g.next) (.int .i64 (i:Int)) z.d H=some (H.set g.next (.map (kmD (D.int .i64) (lH (i:Int) z.d s.M)))):=Zd zAy l.1.1 V5 Iq (i:Int) z.d;have q:∃N,u=N/\wW (H.set g.next (.map (kmD (D.int .i64) (lH (i:Int) z.d s.M)))) 1 (yR (zp y fs (i+1)).outs) N/\(∀j,wX N j->g.next<=j)/\Ext g (H.set g.next (.map (kmD (D.int .i64) (lH (i:Int) z.d s.M))))/\StH (zp y fs (i+1)).M (zp y fs (i+1)).O g.next (g.next+1) (H.set g.next (.map (kmD (D.int .i64) (lH (i:Int) z.d s.M)))):=by
     rw[m];refine⟨u,rfl,o.loc (Nat.le_refl _) λj F=>zE λe=> ?_,v,w.set (Nat.le_refl _) _,⟨zC _ _ _,by rw[zE ow];exact l.1.2⟩,l.2⟩;have:=(o.tok F).2;rw[e,l.1.1] at this;cases this
    clear m k o v w l
    repeat' first|simp only[go_sem, *]|apply bc<;>intro K
    refine zU kr ?_
    repeat' first|simp only[go_sem,ze, *]|apply bc<;>intro K
  |false=>
   rw[b1] at m C;simp only[Bool.false_eq_true,if_false,Nat.add_zero] at m C;rw[<-C] at f8;clear C ag;cases b2:(f.kind==2) with
   |false=>
    rw[b2] at m;have q:=k m;clear m k o v w l
    repeat' first|simp only[go_sem, *]|apply bc<;>intro K
   |true=>
    rw[b2,ip rfl] at m;have L:=pF o.isSl ow f.out H;have c0:=yK o.isSl;obtain⟨u1,u2,_⟩:=zJ o.isSl;cases b3:(s.outs.any λz=>z==f.out) with
    |true=>
     rw[b3,ip rfl] at m;have q:=k m;rw[b3] at L;clear m k o v w l
     repeat' first|simp only[go_sem, *]|apply bc<;>intro K|(refine zA.mono L ?_;rintro r h ⟨hq,rfl⟩)
    |false=>
     rw[b3] at m L;simp only[Bool.false_eq_true,if_false] at m;have ba:s.outs.length<y.own.length:=by
      rw[m,List.length_append,List.length_singleton] at T;omega
     have a3:=wN cg ba;have bk:Rw y s.outs.length=y.own[s.outs.length]:=by unfold Rw;rw[List.getD_eq_getElem?_getD,List.getElem?_eq_getElem ba];rfl
     rw[bk] at m;clear bk T;generalize y.own[s.outs.length]=nm at *
     have cu:=pz f.out;have R:∀ (B:Heap) (O2:KV),B.next=H.next->wW B 1 (yR s.outs) u->Ext g B->StH s.M O2 g.next (g.next+1) B->(zp y fs (i+1)).M=s.M->(zp y fs (i+1)).O=O2->(zp y fs (i+1)).outs=s.outs++ [f.out]->
       ∃d' V,zu prog false B.next 31 u (.sl 1 [[.str f.out]] .full) B=some (d',V)/\∃N,d'=N/\wW V 1 (yR (zp y fs (i+1)).outs) N/\(∀j,wX N j->g.next<=j)/\Ext g V/\StH (zp y fs (i+1)).M (zp y fs (i+1)).O g.next (g.next+1) V:=λB O2 hn W E Y q1 q2 q3=>by
      obtain⟨d',V,v1,v2,v3,v4,v5,v6,v7⟩:=W.app4 (P:=prog) (t:=31) (ys:=[[.str f.out]]) (x:= .sl 1 [[.str f.out]] .full) yq km uY ow (by simp) (.inr ⟨by simp,_,rfl⟩) (by rw[z7,tB];unfold lim;simp;omega) (by rw[z7];unfold lim;simp;omega);have cw:=E.1;have t1:∀j,wX u j->j≠g.next/\j≠g.next+1:=λj F=>by
       have:=(W.tok F).2;exact⟨λe=>(by rw[e,Y.1.1] at this;cases this),λe=>(by rw[e,Y.1.2] at this;cases this)⟩
      refine⟨d',V,v1,d',rfl,by rw[q3,U8];exact v2,λj F=>by have:=v5 j F;omega,⟨by omega,λj F=>by rw[v4 j ow λe=>by have:=v j e;omega,E.2 j F]⟩,by rw[q1,q2];exact⟨⟨by rw[v4 _ Y.2.1 λe=>(t1 _ e).1 rfl];exact Y.1.1,by rw[v4 _ Y.2.2 λe=>(t1 _ e).2 rfl];exact Y.1.2⟩,by have:=Y.2.1;omega,by have:=Y.2.2;omega⟩⟩
     cases b4:(nm== []) with
     |true=>
      rw[b4] at m;obtain⟨d',V,v1,q⟩:=R H s.O rfl o w l (by rw[m]) (by rw[m];rfl) (by rw[m]);clear m k o v w l R
      repeat' first|simp only[go_sem, *]|apply bc<;>intro K|(refine zA.mono L ?_;rintro r h ⟨hq,rfl⟩)
     |false=>
      rw[b4] at m;obtain⟨B,a5,bb,a6,a4,Z,c4⟩:∃B:Heap,H.set (g.next+1) (.map (kvD (ZE f.out nm s.O)))=B/\B.next=H.next/\wW B 1 (yR s.outs) u/\Ext g B/\StH s.M (ZE f.out nm s.O) g.next (g.next+1) B/\B.at' n0=some (.row f.cells):=
       ⟨_,rfl,zT _ _ _,o.loc (Nat.le_refl _) λj F=>zE λe=>(by have:=(o.tok F).2;rw[e,l.1.2] at this;cases this),w.set ow _,⟨⟨by rw[zE ow];exact l.1.1,zC _ _ _⟩,l.2⟩,by rw[zE ow];exact X⟩
      have cb:yV prog 152 (.map (g.next+1)) (.str f.out) (.str nm) H=some B:=by rw[<-a5];exact ZG l.1.2 V6 YQ f.out nm
      obtain⟨d',V,v1,q⟩:=R B _ bb a6 a4 Z (by rw[m]) (by rw[m];rfl) (by rw[m]);clear m k o v w l R a5 bb a6 a4 Z
      repeat' first|simp only[go_sem, *]|apply bc<;>intro K|(refine zA.mono L ?_;rintro r h ⟨hq,rfl⟩)
      refine zU kr ?_
      repeat' first|simp only[go_sem,ze, *]|apply bc<;>intro K
 ·clear E A;rintro fr h e1 ⟨f1,f5,f7,f8,b5,b6,b7,u,f9,W,v,E,A⟩;have cp:Ext g h/\∃bx m1 m2,D.iptr sc 0= .iptr bx 0/\Stt c fs (alS fs y) (zp y fs fs.length).M (zp y fs fs.length).O bx m1 m2/\StH (zp y fs fs.length).M (zp y fs fs.length).O m1 m2 h/\g.next<=m1/\g.next<=m2:=⟨E,sc,g.next,g.next+1,rfl,J,A,Nat.le_refl _,by omega⟩;clear W v E A J;exact au
def L7 (c:Cat) (fs:List Fac) (y:Cho):List (List D):=VP c fs (alS fs y) (zp y fs fs.length).O 6
section
variable {c:Cat} {fs:List Fac} {y:Cho} {d x yd:D} (I:CIn c fs y d x yd)
include I
def CIn.start {p:Bool} (h:qS c fs y p=0) (g:Heap):zA prog 40 [d,x,yd] g λr h'=>Ext g h'/\∃sc m1 m2,r= .iptr sc 0/\Stt c fs (alS fs y) (zp y fs fs.length).M (zp y fs fs.length).O sc m1 m2/\StH (zp y fs fs.length).M (zp y fs fs.length).O m1 m2 h'/\g.next<=m1/\g.next<=m2:=by
 have h1:=I.n16 h;obtain⟨_,k1,k2,k3⟩:=Xe h I.ysm;exact DH I.cat I.sm I.x ow I.ok I.cho I.ysm (λa b e=>(k3 a b e).1) ow ow g
end
variable {c:Cat}{fs:List Fac}{d x:D}
def R0 {y:Cho} :∀x∈L7 c fs y,yf x:=bq
def Vio.cells (v:Vio):List D:=[.int .i64 v.row, .sl 1 (qG v.facts) .no]
def vcs (l:List Vio):List (List D):=l.map Vio.cells
def LD (c:Cat) (fs:List Fac) (al:Nat->Option Alt) (O:KV) (k:Nat):List Vio:=(List.range k).flatMap λi:Nat=>(pa c fs al O i).map λl=>⟨(i:Int),l⟩
def dR (c:Cat) (fs:List Fac) (y:Cho):List Vio:=LD c fs (alS fs y) (zp y fs fs.length).O 6
def LF {O:KV} :VP c fs al O k=vcs (LD c fs al O k):=by
 unfold VP LD vcs vbs;rw[List.map_flatMap];congr 1
 funext i
 rw[List.map_map];rfl
def LG {y:Cho} :L7 c fs y=vcs (dR c fs y):=LF
def jI (c:Cat) (fs:List Fac) (y:Cho):D:=
 if(!(qS c fs y true==0))=true then .tuple [.agg Xj, .bool false, .int .i64 (qS c fs y true)] else .tuple [.agg ((L7 c fs y).head?.getD Xj), .bool ((L7 c fs y).head?.isSome), .int .i64 0]
def zFY {y:Cho} :∃num l,(L7 c fs y).head?.getD Xj= [.int .i64 num,l]/\zZ 1 [] .nilsl/\l.flat=true/\yf [.int .i64 num,l]:=by
 cases h:(L7 c fs y).head? with
 |none=>exact⟨0, .nilsl,rfl, .inl ⟨rfl,rfl⟩,rfl,rfl,⟨trivial,trivial,trivial⟩,rfl⟩
 |some x=>
  have a:=List.mem_of_mem_head? h;have b:=R0 x a;obtain⟨i,_,d⟩:=List.mem_flatMap.1 a;obtain⟨l,_,rfl⟩:=List.mem_map.1 d;exact⟨_,_,rfl, .inl ⟨rfl,rfl⟩,rfl,b⟩
def R1 {y:Cho} {d x yd:D} (I:CIn c fs y d x yd) (g:Heap):
  zA prog 84 [d,x,yd] g λr h'=>h'=g/\r=jI c fs y:=by
 refine xU kr λU=>xS ?_;refine xP λQ hQ=> ?_;have k:=I.check true;have R:=λh=>I.start (p:=true) h;have E:=λh=>I.n16 (p:=true) h;obtain⟨a,b,e,p,rfl,_⟩:=I.cat;obtain⟨Y,X,rfl,_⟩:=I.cho;obtain⟨x1,x2,_⟩:=zJ I.x;have a1:zM true 4 [a,b,e,p] 0=some (.agg [a,b,e,p]):=zB rfl ow;have a0:zM true 2 [Y,X] 0=some (.agg [Y,X]):=zB rfl ow;have a3:∀m l:D,zM true 2 [m,l] 0=some (.agg [m,l]):=λm l=>zB rfl ow;have a2:zt prog 65 []=some (.agg [.int .i64 0, .nilsl]):=by simp[zt,lr,mT,qB,D.notTuple,D.cells]
 obtain⟨G,hG,s,j,t⟩:∃G:Heap,g.new g.next (.row [.int .i64 0, .nilsl])=G/\Ext g G/\G.at' g.next=some (.row [.int .i64 0, .nilsl])/\g.next<G.next:=⟨_,rfl,(Ext.refl g).new (Nat.le_refl _) _,zK _ _ _,by rw[zF];omega⟩;have u:∀h' v z n,Ext g h'->yf v->jI c fs y= .tuple [.agg v, .bool z, .int .i64 n]->Q (.tuple [.agg v, .bool z, .int .i64 n]) h':=λh' v z n q N e=>hQ _ _ ⟨q,by
  simp only[zi,zq,below,zf,N.2.2];exact⟨qx (Nat.zero_le _) _ N.2.1,trivial,trivial,trivial⟩,by simp only[zi,zq,N.2.2];exact e.symm⟩
 refine xO mix func84 zGh rfl rfl ?_;simp only[f84,gJ];cases B:(qS c fs y true==0) with
 |false=>
  have i:jI c fs y= .tuple [.agg [.int .i64 0, .nilsl], .bool false, .int .i64 (qS c fs y true)]:=by unfold jI;rw[B];rfl
  have V:zP prog 65 (.ptr g.next 0) (.agg [.int .i64 0, .nilsl]) G=some G:=by
   rw[yM j (by rw[uO];rfl) rfl (by decide) rfl,wr j]
  have w:=u G _ _ _ s (show yf [.int .i64 0, .nilsl] from⟨rfl,⟨trivial,trivial,trivial⟩,rfl⟩) i
  repeat' first|simp only[go_sem, *]|apply bc<;>intro S|(refine zA.mono (k _) ?_;rintro r h ⟨C,rfl⟩)
 |true=>
  have h0:qS c fs y true=0:=by simpa using B
  have i:jI c fs y= .tuple [.agg ((L7 c fs y).head?.getD Xj), .bool ((L7 c fs y).head?.isSome), .int .i64 0]:=by unfold jI;rw[B];rfl
  have hs:=R h0;have hn:=E h0;rw[h0] at k B
  repeat' first|simp only[go_sem, *]|apply bc<;>intro S|(refine zA.mono (k _) ?_;rintro r h ⟨C,rfl⟩)
  subst C
  rename Heap=>G
  refine(hs _).mono ?_;rintro r h1 ⟨q,sc,m1,m2,rfl,hS,hH,_,_⟩
  repeat' first|simp only[go_sem, *]|apply bc<;>intro S
  refine(DG hS hn hH).mono ?_;rintro r f ⟨C,rfl⟩;subst C;have hh:DF (VP c fs (alS fs y) (zp y fs fs.length).O 6)= .tuple [.agg ((L7 c fs y).head?.getD Xj), .bool ((L7 c fs y).head?.isSome)]:=rfl;rw[hh];obtain⟨num,l,T,_,ak,o⟩:=zFY (c:=c) (fs:=fs) (y:=y);have ai:g.next<f.next:=Nat.lt_of_lt_of_le t q.1;have P:f.at' g.next=some (.row [.int .i64 0, .nilsl]):=by rw[q.2 _ t];exact j
  have A:zP prog 65 (.ptr f.next 0) (.agg [.int .i64 num,l]) (f.new f.next (.row [.int .i64 0, .nilsl]))=some (f.new f.next (.row [.int .i64 num,l])):=zg uO ow rfl rfl o.1;obtain⟨H,L,M,ag,K⟩:∃H:Heap,f.new f.next (.row [.int .i64 num,l])=H/\H.at' g.next=some (.row [.int .i64 0, .nilsl])/\H.at' f.next=some (.row [.int .i64 num,l])/\Ext g H:=⟨_,rfl,by rw[zG ow];exact P,zK _ _ _,(s.trans q).new ow _⟩;rw[L] at A;obtain⟨F,Z,ad,J⟩:∃F:Heap,H.set g.next (.row [.int .i64 num,l])=F/\F.at' g.next=some (.row [.int .i64 num,l])/\Ext g F:=⟨_,rfl,zC _ _ _,K.set (Nat.le_refl _) _⟩
  have W:zP prog 65 (.ptr g.next 0) (.agg [.int .i64 num,l]) H=some F:=by
   rw[yM (cs':=[.int .i64 num,l]) M (by rw[uO];rfl) rfl (by simp) o.1,Z]
  rw[T] at i;have w:=u F _ _ _ J o i;rw[T];exact au
section
variable {c:Cat} {fs:List Fac} {al:Nat->Option Alt} {O:KV}
def Xk {l:List Int} :l∈pa c fs al O i↔∃z∈nn c fs al O i,pZ z=l:=by
 unfold pa;rw[MZ M3,kF,List.mem_map]
def LH {v:Vio} :v∈LD c fs al O k↔∃i:Nat,i<k/\v.row=(i:Int)/\v.facts∈pa c fs al O i:=by
 unfold LD;rw[List.mem_flatMap];constructor
 ·rintro⟨i,a,h⟩;obtain⟨l,d,rfl⟩:=List.mem_map.1 h;exact⟨i,List.mem_range.1 a,rfl,d⟩
 ·rintro⟨i,a,h1,b⟩;refine⟨i,List.mem_range.2 a,List.mem_map.2 ⟨v.facts,b,?_⟩⟩;cases v;simp only at h1;rw[h1]
end
variable {c:Cat}{fs:List Fac}{al:Nat->Option Alt}
def LI {y:Cho} {v:Vio} :v∈dR c fs y↔∃i:Nat,i<6/\v.row=(i:Int)/\∃z∈nn c fs (alS fs y) (zp y fs fs.length).O i,pZ z=v.facts:=by
 unfold dR;rw[LH];constructor
 ·rintro⟨i,h1,a,h3⟩;exact⟨i,h1,a,Xk.1 h3⟩
 ·rintro⟨i,h1,a,h3⟩;exact⟨i,h1,a,Xk.2 h3⟩
end Go.V
