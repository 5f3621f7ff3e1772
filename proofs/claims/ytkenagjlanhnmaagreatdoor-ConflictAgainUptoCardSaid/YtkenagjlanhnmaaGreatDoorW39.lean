/- A machine of abstract values for programs of the model, further rules, part 3. No condition. -/
import Derived.Test.YtkenagjlanhnmaaGreatDoorW38
set_option linter.all false
set_option maxHeartbeats 8000000
namespace Go.V
variable{P:Program}{h g:Heap}{sz k i:Nat}{xs ys:List (List D)}{d x:D}{K:D->Heap->Prop}{S0 S' S:Nat->Prop}{fr:Frm}{f:FuncId}{args sc:List D}{c:Cat}{fs:List Fac}{al:Nat->Option Alt}
def rY.app3{t e:TypeId}(m:rY h sz xs d)(l:tG P t=some e)(o:ZW P e=true)(n:szT P e=sz)(h0:0<sz)(k:∀y∈ys,y.length=sz)(s:(x=.nilsl/\ys= [])\/(ys≠[]/\∃tk,x=.sl sz ys tk))
  (f:(xs.length+ys.length)*uE P e<=lim) (g:xs.length+ys.length<=lim) (c:∀a h',rY h' sz (xs++ys) a->h.next<=h'.next->(∀i,i<h.next->¬sr d i->h'.at' i=h.at' i)->(∀i,sr a i->h.next<=i)->a.cells= [a]->a.flat=true->K a h'):onR (qg P false h.next t d x h) K:=by
 rcases s with⟨rfl,rfl⟩ | ⟨j,tk,rfl⟩
 ·simp only[yL,yo,uB]at c f g;simp only[qg,l,o,n,QU,qS,yo,Nat.zero_div];rcases m with⟨rfl,rfl⟩ | ⟨q,rfl,h1,u⟩
  ·simp only[tp,qS,dA];exact c _ _ (.inl ⟨rfl,rfl⟩) (zD _) (λi b _=>rfl) (λi b=>b.elim) rfl rfl
  ·simp only[tp];rw[ip (by simp only[uB,zF,zO];exact⟨⟨trivial,f⟩,g⟩)];simp only[h1,zl,yy,dA];have p:wR sz 0 []= []:=rfl;rw[p,yL];refine c _ _ (.inr ⟨h.next,rfl,z8 _ _ _,?_⟩) ?_ (λi b r=> ?_) (λi b=> ?_) rfl rfl
   ·exact zq (sv _) (j8 _ _)
   ·exact sQ (h.del q) _ _
   ·rw[zi ow,wT λe=>r (by rw[e];rfl)]
   ·simp only[sr]at b;omega
 ·exact m.app2 l o n h0 k j f g c
def rY.app4{t e:TypeId}(o:rY h sz xs d)(m:tG P t=some e)(s:ZW P e=true)(p:szT P e=sz)(h0:0<sz)(k:∀y∈ys,y.length=sz)(r:(x=.nilsl/\ys= [])\/(ys≠[]/\∃tk,x=.sl sz ys tk))
  (l:(xs.length+ys.length)*uE P e<=lim) (n:xs.length+ys.length<=lim):∃j h',qg P false h.next t d x h=some (j,h')/\rY h' sz (xs++ys) j/\h.next<=h'.next/\(∀i,i<h.next->¬sr d i->h'.at' i=h.at' i)/\(∀i,sr j i->h.next<=i)/\j.cells= [j]/\j.flat=true:=by
 have:=o.app3 (K:=λj h'=>rY h' sz (xs++ys) j/\h.next<=h'.next/\(∀i,i<h.next->¬sr d i->h'.at' i=h.at' i)/\(∀i,sr j i->h.next<=i)/\j.cells= [j]/\j.flat=true) m s p h0 k r l n λj h' a b c e f g=>⟨a,b,c,e,f,g⟩;unfold onR at this;split at this
 ·rename_i j h' q;exact⟨j,h',q,this⟩
 ·exact this.elim
open Go.Proofs
set_option maxRecDepth 100000
def rH{l:List Int} :∀x∈wY l,wr x:=λx a=>by
 obtain⟨s,_,rfl⟩:=zM.1 a;exact⟨rfl,⟨trivial,trivial⟩,rfl⟩
def KD(num:Int)(l:List Int):wr (KB num l):=by
 have h:=yj (rH (l:=l)) (sz:=1) .no;refine⟨rfl,⟨trivial,h.2,trivial⟩,?_⟩;simp only[KB,qY,h.1];rfl
section
variable(c:Cat)(fs:List Fac)(al:Nat->Option Alt)(O:KV)
def Qk(k:Nat):List (List D):=(List.range k).flatMap λi:Nat=>vbs (i:Int) (gG c fs al O i)
end
section
variable{c:Cat}{fs:List Fac}{al:Nat->Option Alt}{O:KV}
def Tl(k:Nat):Qk c fs al O (k+1)=Qk c fs al O k++vbs (k:Int) (gG c fs al O k):=by
 unfold Qk;rw[mf,pp,oo,List.flatMap_nil,yL]
def Wp:∀x∈Qk c fs al O k,wr x:=λx a=>by
 obtain⟨i,_,h⟩:=z5.1 a;obtain⟨l,_,rfl⟩:=zM.1 h;exact KD _ _
def Ie(i:Nat):(gG c fs al O i).length<=(cd c fs al O i).length:=by
 unfold gG;refine zf (lv _) ?_;rw[(sH _).length_eq,zG];exact zD _
def Lt(k:Nat):(FJ c fs al O k=.nilsl/\vbs (k:Int) (gG c fs al O k)= [])\/(vbs (k:Int) (gG c fs al O k)≠[]/\∃tk,FJ c fs al O k=.sl 2 (vbs (k:Int) (gG c fs al O k)) tk):=by
 unfold FJ;by_cases h:cd c fs al O k= []
 ·rw[ip h];refine .inl ⟨rfl,yM.1 ?_⟩;have:=Ie (c:=c) (fs:=fs) (al:=al) (O:=O) k;rw[h,yo]at this;rw[nK];omega
 ·rw[iq h];refine .inr ⟨λe=> ?_,_,rfl⟩;have a:0<(srt ss ((cd c fs al O k).map n7)).length:=by
   rw[(sH _).length_eq,zG];exact yA.2 h
  have:=UK (c:=ss) a _ (zD _) a;have b:(gG c fs al O k).length=0:=by rw[<-nK (k:Int),e];rfl
  unfold gG cpt at b;omega
end
def ZLp(id:Nat)(L:LRec)(V:(Nat->Prop)->Heap->Prop)(S:Nat->Prop)(h:Heap):Prop:=
 id<h.next/\h.at' id=some (.loop { L with st:=.done,pending:=some .ret })/\∃S0,V S0 h/\¬S0 id/\∀i,S i↔(i=id\/S0 i)
def LpZ(id:Nat)(L:LRec)(W:Nat->(Nat->Prop)->Heap->Prop)(V:(Nat->Prop)->Heap->Prop)(k:Nat)(S0:Nat->Prop)(h:Heap)(r:D)(h':Heap):Prop:=
 ∃S',(∀i,S' i->S0 i\/h.next<=i)/\But (λi=>i=id\/S0 i) h h'/\((r=.bool true/\h'.at' id=some (.loop L)/\W (k+1) S' h')\/(r=.bool false/\h'.at' id=some (.loop { L with st:=.done,pending:=some .ret })/\V S' h'))
section
variable{P:Program}{W:Nat->(Nat->Prop)->Heap->Prop}{V:(Nat->Prop)->Heap->Prop}{id n:Nat}{L:LRec}{el:Nat->List D}
def YLp.yldZ(w:Lcl W)(v:Lcl λ_=>V)(go:∀k S0 h3,k<n->id<h3.next->h3.at' id=some (.loop L)->W k S0 h3->¬S0 id->uS P id (el k) h3 (LpZ id L W V k S0 h3)):Yld P id n el (YLp id L W) (ZLp id L V):=by
 refine⟨λk S h y i b=> ?_,λk S h h' y l f=> ?_,λS h y i b=> ?_,λS h h' y l f=> ?_,λk S h f y=> ?_⟩
 ·obtain⟨c,_,S0,d,_,a⟩:=y;rcases(a i).1 b with rfl|t
  ·exact c
  ·exact w.here _ _ _ d i t
 ·obtain⟨c,j,S0,d,g,a⟩:=y;exact⟨by omega,by rw[f id ((a id).2 (.inl rfl))];exact j,S0,w.loc _ _ _ _ d l λi b=>f i ((a i).2 (.inr b)),g,a⟩
 ·obtain⟨c,_,S0,d,_,a⟩:=y;rcases(a i).1 b with rfl|t
  ·exact c
  ·exact v.here 0 _ _ d i t
 ·obtain⟨c,j,S0,d,g,a⟩:=y;exact⟨by omega,by rw[f id ((a id).2 (.inl rfl))];exact j,S0,v.loc 0 _ _ _ d l λi b=>f i ((a i).2 (.inr b)),g,a⟩
 ·obtain⟨c,j,S0,d,g,a⟩:=y;refine(go k S0 h f c j d g).mono ?_;rintro r h' ⟨S',u,o,x⟩;have m:¬S' id:=λe=>by
   rcases u _ e with q|q
   ·exact g q
   ·omega
  refine⟨λi=>i=id\/S' i,λi b=> ?_,⟨o.1,λi b l=>o.2 i b λe=>l ((a i).2 e)⟩,?_⟩
  ·rcases b with rfl|b
   ·exact .inl ((a _).2 (.inl rfl))
   ·exact(u i b).imp (λq=>(a i).2 (.inr q)) λq=>q
  ·rcases x with⟨rfl,p,s⟩ | ⟨rfl,p,s⟩
   ·exact .inl ⟨rfl,zq c o.1,p,S',s,m,λi=>Iff.rfl⟩
   ·exact .inr ⟨rfl,zq c o.1,p,S',s,m,λi=>Iff.rfl⟩
def Lp.finZ(f:Lcl W){B:LRec}(b:({ B with st:=.ready,pending:=none } :LRec)=L){h3 a:Heap}(d:id<h3.next)(j:¬S0 id)(hid:a.at' id=some (.loop B))(c:∀i,S' i->S0 i\/h3.next<=i)(g:But (λi=>i=id\/S0 i) h3 a)(l:W (k+1) S' a) :
  pL (LpZ id L W V k S0 h3) id .normal fr a:=by
 refine sG hid ⟨S',c,g.set (.inl (.inl rfl)) _,.inl ⟨rfl,by rw[zW,b],f.loc _ _ _ _ l (zD _) λi h=>zY λe=> ?_⟩⟩;subst e;rcases c _ h with q|q
 ·exact j q
 ·omega
def Lp.retZ(f:Lcl λ_=>V){B:LRec}(b:({ B with st:=.ready,pending:=none } :LRec)=L){h3 a:Heap}(d:id<h3.next)(j:¬S0 id)(hid:a.at' id=some (.loop B))(c:∀i,S' i->S0 i\/h3.next<=i)(g:But (λi=>i=id\/S0 i) h3 a)(l:V S' a) :
  pL (LpZ id L W V k S0 h3) id .ret fr a:=by
 refine ZI hid ⟨S',c,g.set (.inl (.inl rfl)) _,.inr ⟨rfl,by rw[zW,<-b],f.loc 0 _ _ _ l (zD _) λi h=>zY λe=> ?_⟩⟩;subst e;rcases c _ h with q|q
 ·exact j q
 ·omega
def J0{a:Nat}(z:h.next=a){Q:Exit->Frm->Heap->Prop}(o:Lcl W)(D:Lcl λ_=>V)(C:L.st=.ready)(B:L.pending=none)(y:W 0 S h)
  (s:Yld P a n el (YLp a L W) (ZLp a L V)->YLp a L W 0 (λi=>i=a\/S i) (h.new a (.loop L))->zE P f args (h.new a (.loop L)) λ_ h'=>∃S',(∀j,S' j->(j=a\/S j)\/(h.new a (.loop L)).next<=j)/\But (λi=>i=a\/S i) (h.new a (.loop L)) h'/\(YLp a L W n S' h'\/ZLp a L V S' h'))
  (go:∀k S0 h3,k<n->a<h3.next->h3.at' a=some (.loop L)->W k S0 h3->¬S0 a->uS P a (el k) h3 (LpZ a L W V k S0 h3))
  (w:∀S' b,(∀j,S' j->S j\/a<=j)->But S h b->W n S' b->Q .normal fr b)
  (m:∀S' b,(∀j,S' j->S j\/a<=j)->But S h b->V S' b->Q .ret fr b):
  zE P f args (h.new a (.loop L)) λ_ h'=>∃r,h'.at' a=some (.loop r)/\r.st≠ .busy/\Wb r.pending Q fr (h'.del a):=by
 subst z;have G:(h.new h.next (.loop L)).next=h.next+1:=za _ _;have x:¬S h.next:=λe=>wN _ (o.here _ _ _ y _ e);refine(s (YLp.yldZ o D go) ⟨by omega,z8 _ _ _,S,o.loc _ _ _ _ y ow λi g=>zi (by have:=o.here _ _ _ y _ g;omega),x,λi=>Iff.rfl⟩).mono ?_;have key:∀(S' S0:Nat->Prop)(b:Heap),(∀j,S' j->(j=h.next\/S j)\/(h.new h.next (.loop L)).next<=j)->But (λi=>i=h.next\/S i) (h.new h.next (.loop L)) b->¬S0 h.next->(∀i,S' i↔(i=h.next\/S0 i))->(∀j,S0 j->S j\/h.next<=j)/\But S h (b.del h.next):=by
  intro S' S0 b t p c l;refine⟨λj E=> ?_,by have:=p.1;show h.next<=b.next;omega,λi g A=> ?_⟩
  ·rcases t j ((l j).2 (.inr E))with(q|q)|q
   ·subst q;exact absurd E c
   ·exact .inl q
   ·exact .inr ow
  ·have d:i≠h.next:=ow;rw[wT d,p.2 i ow (λe=>e.elim d A),zi d]
 rintro r b ⟨S',t,p,⟨F,u,S0,v,c,l⟩ | ⟨F,u,S0,v,c,l⟩⟩
 ·obtain⟨k1,k2⟩:=key S' S0 b t p c l;refine⟨L,u,(by rw[C];intro q;cases q),?_⟩;rw[B,pG];exact w S0 _ k1 k2 (o.loc _ _ _ _ v (zD _) λi g=>wT λe=>by subst e;exact c g)
 ·obtain⟨k1,k2⟩:=key S' S0 b t p c l;refine⟨_,u,(by intro q;cases q),?_⟩;simp only[bg];exact m S0 _ k1 k2 (D.loc 0 _ _ _ v (zD _) λi g=>wT λe=>by subst e;exact c g)
end
open Go.Proofs.Tryz
variable{c:Cat}{fs:List Fac}{al:Nat->Option Alt}{P:Program}
theorem Tj{O:KV}{m:Nat}{x:List D}(h:(Qk c fs al O m).head? =some x):∀k,(Qk c fs al O (m+k)).head? =some x
 |0=>h
 |k+1=>by
  rw[<-wA,Tl,List.head?_append,Tj h k];rfl
def QV:List D:=[.int .i64 0,.nilsl]
def Ax(l:List (List D)):D:=.tuple [.agg (l.head?.getD QV),.bool (l.head?.isSome)]
def zBF(c:Cat)(fs:List Fac)(al:Nat->Option Alt)(O:KV)(n0 k:Nat)(S:Nat->Prop)(h:Heap):Prop:=
 n0+1<h.next/\h.at' n0=some (.row QV)/\h.at' (n0+1)=some (.row [.bool false])/\Qk c fs al O k= []/\∀i,S i↔(i=n0\/i=n0+1)
def zB4(c:Cat)(fs:List Fac)(al:Nat->Option Alt)(O:KV)(n0:Nat)(S:Nat->Prop)(h:Heap):Prop:=
 ∃x,n0+1<h.next/\h.at' n0=some (.row x)/\h.at' (n0+1)=some (.row [.bool true])/\(Qk c fs al O 6).head? =some x/\∀i,S i↔(i=n0\/i=n0+1)
def zBF.lcl(c:Cat)(fs:List Fac)(al:Nat->Option Alt)(O:KV)(l:Nat):Lcl (zBF c fs al O l):=by
 refine⟨λk S h y i j=> ?_,λk S h h' y m f=> ?_⟩
 ·obtain⟨g,b,d,e,a⟩:=y;rcases(a i).1 j with rfl|rfl<;>omega
 ·obtain⟨g,b,d,e,a⟩:=y;exact⟨by omega,by rw[f _ ((a _).2 (.inl rfl))];exact b,by rw[f _ ((a _).2 (.inr rfl))];exact d,e,a⟩
def zB4.lcl(c:Cat)(fs:List Fac)(al:Nat->Option Alt)(O:KV)(l:Nat):Lcl λ_=>zB4 c fs al O l:=by
 refine⟨λk S h y i j=> ?_,λk S h h' y m f=> ?_⟩
 ·obtain⟨x,g,b,d,e,a⟩:=y;rcases(a i).1 j with rfl|rfl<;>omega
 ·obtain⟨x,g,b,d,e,a⟩:=y;exact⟨x,by omega,by rw[f _ ((a _).2 (.inl rfl))];exact b,by rw[f _ ((a _).2 (.inr rfl))];exact d,e,a⟩
theorem Be{M:KM Int}{O:KV}{m1 m2:Nat}(hs:Stt c fs al M O sc m1 m2)(hn:fs.length<=24)(hH:StH M O m1 m2 g):
  zE prog 76 [.iptr sc 0] g λr h'=>h'=g/\r=Ax (Qk c fs al O 6):=by
 refine xU kr λbx=>xS ?_;refine xP λQ hQ=> ?_;have a7:=RI sc;obtain⟨G,hG,ag,g1,g2,Y⟩:∃G:Heap,(g.new g.next (.row [.int .i64 0,.nilsl])).new (g.next+1) (.row [.bool false])=G/\G.next=g.next+2/\G.at' g.next=some (.row QV)/\G.at' (g.next+1)=some (.row [.bool false])/\Ext g G:=
  ⟨_,rfl,qL _ (by rw[za];exact zD _) _,by rw[zi ow];exact z8 _ _ _,z8 _ _ _,((Ext.refl g).new (zD _) _).new ow _⟩
 refine zu zM5 ?_;simp only[f76,zA]
 repeat' first|simp only[go_sem,za,HH, *]|apply bc<;>intro hc|(refine zE.mono (a7 _) ?_;rintro r h ⟨hq,rfl⟩)
 subst hq
 rename Heap=>G
 generalize U:LRec.mk _ _ _ _ _ _ _=L;have bb:L.pending=none:=by rw[<-U]
 have bk:L.st=.ready:=by rw[<-U]
 have hW:=zBF.lcl c fs al O g.next;have hV:=zB4.lcl c fs al O g.next;have a0:zBF c fs al O g.next 0 (λj=>j=g.next\/j=g.next+1) G:=⟨by omega,g1,g2,rfl,λ_=>Iff.rfl⟩;have ai:=hH.ext Y;refine J0 (n:=6) (el:=λi=>[FJ c fs al O i]) ag hW hV bk bb a0 (λyl a6=>(UH hs hn yl a6 (ai.ext ((Ext.refl G).new ow _)) (λe=> ?_) (λe=> ?_))) ?_ ?_ ?_
 ·have:=hH.2.1;rcases e with e|e|e<;>omega
 ·have:=hH.2.2;rcases e with e|e|e<;>omega
 ·intro k S0 h3 hk q ba bo v;have d:=ba;rw[<-U]at d;refine uS.round (g:=AE) mix d rfl kr kr kr ?_;simp only[go_sem];refine⟨d,?_⟩;generalize hB:LRec.mk .busy _ _ _ _ _ _=B;have P:({ B with st:=.ready,pending:=none } :LRec)=L:=by rw[<-hB,<-U]
  have a:But (λi=>i=g.next+2) h3 (h3.set (g.next+2) (.loop B)):=⟨by rw[ym];exact zD _,λj _ R=>zY R⟩;have A:=hW.round bo (λi p=>p) v a;obtain⟨H,ak,b1,N⟩:∃H:Heap,h3.set (g.next+2) (.loop B)=H/\H.next=h3.next/\H.at' (g.next+2)=some (.loop B):=⟨_,rfl,ym _ _ _,zW _ _ _⟩;rw[ak]at A a⊢;have b0:=A;obtain⟨X,J,K,C,E⟩:=A;have w:=Tl (c:=c) (fs:=fs) (al:=al) (O:=O) k;rw[C,yc]at w;rcases Lt (c:=c) (fs:=fs) (al:=al) (O:=O) k with⟨e1,e2⟩ | ⟨e1,tk,e2⟩
  ·have b:∀fr,pL (LpZ (g.next+2) L (zBF c fs al O g.next) (zB4 c fs al O g.next) k S0 h3) (g.next+2) .normal fr H:=λfr=>by
    refine Lp.finZ hW P q v N (S':=S0) (λi p=>.inl p) ⟨a.1,λi p f=>a.2 i p λe=>f (.inl e)⟩ ⟨X,J,K,by rw[w];exact e2,E⟩
   have hl:∀h,mC prog 157 .nilsl h=some (.int .i64 0):=λh=>wa (yi.nil (sz:=2)) underlying157;have h0:decide ((0:Int)>0)=false:=rfl;simp only[go_sem,e1,hl,h0];exact b _
  ·obtain⟨x,xs,V⟩:=lT e1;rw[V]at e2;have o:x.length=2:=jw (k:Int) (gG c fs al O k) x (by rw[V];simp);have bs:∃l,x=KB (k:Int) l:=by
    have:x∈vbs (k:Int) (gG c fs al O k):=by rw[V];simp
    obtain⟨l,_,e⟩:=zM.1 this;exact⟨l,e.symm⟩
   have a9:(Qk c fs al O 6).head? =some x:=by
    have:=Tj (c:=c) (fs:=fs) (al:=al) (O:=O) (m:=k+1) (x:=x) (by rw[w,V];rfl) (6- (k+1))
    rwa [show k+1+(6- (k+1))=6 by omega]at this
   have hl:∀h,mC prog 157 (.sl 2 (x::xs) tk) h=some (.int .i64 ((x::xs).length:Int)):=λh=>wa (yi.mk (sz:=2) tk) underlying157;have h0:decide (((x::xs).length:Int)>0)=true:=zS (by simp only[zm];omega);have ha:yt prog 157 (.sl 2 (x::xs) tk) (.int .i64 0)=some (.iptr x 0):=yn (i:=0) (yi.mk (sz:=2) tk) sx so rfl;have y:yW true 2 x 0=some (.agg x):=zJ o ow;have s:yX prog 137 (.ptr g.next 0) (.agg x) H=some (H.set g.next (.row x)):=qp J (by rw[so,o]) (by rw[o];rfl) ow (by obtain⟨l,rfl⟩:=bs;rfl)
   have t:yX prog 4 (.ptr (g.next+1) 0) (.bool true) (H.set g.next (.row x))=some ((H.set g.next (.row x)).set (g.next+1) (.row [.bool true])):=by
    rw[yU (by rw[zY ow];exact K) zGr (by simp) rfl rfl];rfl
   have b:∀fr,pL (LpZ (g.next+2) L (zBF c fs al O g.next) (zB4 c fs al O g.next) k S0 h3) (g.next+2) .ret fr ((H.set g.next (.row x)).set (g.next+1) (.row [.bool true])):=λfr=>by
    have b2:=a.1;refine Lp.retZ hV P q v ?_ (S':=S0) (λi p=>.inl p) ⟨by rw[ym,ym];omega,λi p f=> ?_⟩ ⟨x,by rw[ym,ym];omega,by rw[zY ow,zW],zW _ _ _,a9,E⟩
    ·rw[zY ow,zY ow];exact N
    ·rw[zY λe=>f (.inr ((E i).2 (.inr e))),zY λe=>f (.inr ((E i).2 (.inl e))),a.2 i p λe=>f (.inl e)]
   simp only[go_sem,e2,hl,h0,ha,y,s,t];exact b _
 ·intro S' I S hb z;obtain⟨X,J,K,C,E⟩:=z;have u:Ext g I:=Ext.of_but Y hb λj R=>by rcases R with rfl|rfl<;>omega
  have b3:qd prog 137 []=some (.agg QV):=by simp[qd,cR,fT,ur,QV,D.notTuple,D.cells]
  obtain⟨W,Z,r1,r2,E1⟩:∃F,I.set g.next (.row QV)=F/\F.at' g.next=some (.row QV)/\F.at' (g.next+1)=some (.row [.bool false])/\Ext g F:=⟨_,rfl,zW _ _ _,by rw[zY ow];exact K,u.set (zD _) _⟩;have s:yX prog 137 (.ptr g.next 0) (.agg QV) I=some W:=by
   rw[qp J (by rw[so];rfl) rfl (by decide) rfl,Z]
  obtain⟨F2,ad,r3,r4,E2⟩:∃F,W.set (g.next+1) (.row [.bool false])=F/\F.at' g.next=some (.row QV)/\F.at' (g.next+1)=some (.row [.bool false])/\Ext g F:=⟨_,rfl,by rw[zY ow];exact r1,zW _ _ _,E1.set ow _⟩;have t:yX prog 4 (.ptr (g.next+1) 0) (.bool false) W=some F2:=by
   rw[yU r2 zGr (by simp) rfl rfl,<-ad];rfl
  have y:yW true 2 QV 0=some (.agg QV):=zJ rfl ow;have a8:Q (.tuple [.agg QV,.bool false]) F2:=hQ _ _ ⟨E2,⟨⟨trivial,trivial,trivial⟩,trivial,trivial⟩,by rw[C];rfl⟩;exact au
 ·intro S' I S hb z;obtain⟨x,X,J,K,C,E⟩:=z;have u:Ext g I:=Ext.of_but Y hb λj R=>by rcases R with rfl|rfl<;>omega
  have T:x∈Qk c fs al O 6:=t7 C;obtain⟨p1,p2,p3⟩:=Wp x T;have o:x.length=2:=by
   obtain⟨i,_,h⟩:=z5.1 T;exact jw _ _ x h
  have y:yW true 2 x 0=some (.agg x):=zJ o ow;have a8:Q (.tuple [.agg x,.bool true]) I:=hQ _ _ ⟨u,by
   simp only[qD,qY,below,qO,p3];exact⟨tY (yC _) _ p2,trivial,trivial⟩,by
   simp only[qD,qY,p3,Ax,C];rfl⟩
  exact au
theorem AA{d x yd:D}{y:Cho}(K:uc c d)(sm:c.Sm)(hx:yi 12 (mV fs) x)(a9:fs.length<=256)(a0:∀f∈fs,f.Ok)(hy:BL y yd)(ck:y.Sm)
  (b8:∀a∈y.ts,a.ts≠[]->a.Ok) (hk:oY fs fs.length<=y.ts.length) (ho:(qJ y fs fs.length).outs.length<=y.own.length) (g:Heap):
  zE prog 75 [d,x,yd] g λr h'=>Ext g h'/\∃sc m1 m2,r=.iptr sc 0/\Stt c fs (alS fs y) (qJ y fs fs.length).M (qJ y fs fs.length).O sc m1 m2/\StH (qJ y fs fs.length).M (qJ y fs fs.length).O m1 m2 h'/\g.next<=m1/\g.next<=m2:=by
 have a8:=K;obtain⟨a,b,e,p,rfl,ha,hb,he,hp⟩:=K;obtain⟨ta,oa,rfl,cg,cf⟩:=hy;have b9:=pi hx;obtain⟨x1,x2,_⟩:=yP hx;have c4:yW true 4 [a,b,e,p] 0=some (.agg [a,b,e,p]):=zJ rfl ow;obtain⟨sc,I⟩:∃sc,[a,b,e,p,x,.map g.next,.map (g.next+1)]=sc:=⟨_,rfl⟩;have ch:qd prog 211 [(0,.agg [a,b,e,p]),(1,x),(2,.map g.next),(3,.map (g.next+1))]=some (.agg sc):=by
  rw[<-I];clear I x1 x2 b9;rcases hx with⟨rfl,_⟩ | ⟨tk,rfl⟩ <;>simp[qd,Pd,HY,ur,wo,D.notTuple,D.cells]
 obtain⟨G,hG,E,A⟩:∃G:Heap,(g.new g.next (.map [])).new (g.next+1) (.map [])=G/\Ext g G/\StH [] [] g.next (g.next+1) G:=
  ⟨_,rfl,((Ext.refl g).new (zD _) _).new ow _,⟨by rw[zi ow];exact z8 _ _ _,z8 _ _ _⟩,by rw[qL _ (by rw[za];exact zD _)];omega,by rw[qL _ (by rw[za];exact zD _)];omega⟩
 have c2:sc[5]? =some (.map g.next):=by rw[<-I];rfl
 have c3:sc[6]? =some (.map (g.next+1)):=by rw[<-I];rfl
 have J:Stt c fs (alS fs y) (qJ y fs fs.length).M (qJ y fs fs.length).O sc g.next (g.next+1):=⟨⟨a,b,e,p,x,I.symm,a8,hx,ha⟩,sm,a9,a0,λi hi=>by rw[Vj _ (zD _) i,ip hi],λi z Q=>by
  unfold alS at Q;split at Q
  ·cases Q
  ·split at Q
   ·split at Q
    ·rename_i h1 U;cases Q;have U:=yK U;unfold nX at U⊢;rw[zC]at U⊢;cases hq:y.ts[oY fs i]? with
     |none=>rw[hq]at U;simp[mkA]at U
     |some z=>rw[hq]at U;exact b8 z (zg hq) λe=>by simp[e]at U
    ·cases Q
   ·cases Q⟩
 clear a8;refine zu zM4 ?_;simp only[f75,zA]
 repeat' first|simp only[go_sem,za, *]|apply bc<;>intro K
 clear hG ch I;refine zd (λi fr h=>fr 1=x/\fr 5=.iptr [ta,oa] 0/\fr 7=.iptr sc 0/\fr 8=.int .i64 ((oY fs i:Nat):Int)/\fr 19=x/\fr 20=.int .i64 (fs.length:Int)/\fr 21=.int .i64 (i:Int)/\∃u,fr 9=u/\rY h 1 (wn (qJ y fs i).outs) u/\(∀j,sr u j->g.next<=j)/\Ext g h/\StH (qJ y fs i).M (qJ y fs i).O g.next (g.next+1) h) fs.length ow ?_ ?_ ?_
 ·have Q:oY fs 0=0:=rfl;have q:∃u,D.nilsl=u/\rY G 1 (wn (qJ y fs 0).outs) u/\(∀j,sr u j->g.next<=j)/\Ext g G/\StH (qJ y fs 0).M (qJ y fs 0).O g.next (g.next+1) G:=⟨_,rfl,.inl ⟨rfl,rfl⟩,λj F=>F.elim,E,A⟩;simp only[go_sem,zT,zV,zI,Q];exact q
 ·clear E A;rintro i fr h S e1 ew ⟨f1,f5,f7,f8,b0,b5,b6,u,f9,W,v,E,A⟩;have a1:=tP hx S;have hw:yW true 12 fs[i].cells 0=some (.agg fs[i].cells):=zJ rfl ow;have ad:=Vi (a0 _ (zH S));have m:=lN (y:=y) S;have C:=bW S;have ag:=Jv (fs:=fs) (i:=i+1) (fs.length- (i+1)) ow;have T:=IG (y:=y) (fs:=fs) (i:=i+1) (fs.length- (i+1)) ow;rw[show i+1+(fs.length- (i+1))=fs.length by omega]at ag T;have c0:=VM (y:=y) (fs:=fs) i ow;have cm:=VG (fs:=fs) i ow;have k0:fs[i].cells[0]? =some (.int .i64 fs[i].kind):=rfl;have k2:fs[i].cells[2]? =some (.str fs[i].out):=rfl;generalize fs[i]=f at *
  generalize qJ y fs i=s at *
  have ak:h.next<(h.new h.next (.row f.cells)).next:=by rw[za];omega
  obtain⟨H,hH,X,w,o,l,cc⟩:∃H:Heap,h.new h.next (.row f.cells)=H/\H.at' h.next=some (.row f.cells)/\Ext g H/\rY H 1 (wn s.outs) u/\StH s.M s.O g.next (g.next+1) H/\h.next<H.next:=
   ⟨_,rfl,z8 _ _ _,E.new E.1 _,W.loc ow λj F=>zi (by have:=(W.tok F).1;omega),A.ext ((Ext.refl h).new (zD _) _),ak⟩
  obtain⟨n0,cb⟩:∃n,h.next=n:=⟨_,rfl⟩;have b7:=E.1;rw[cb]at hH X cc b7 ak;have cx:g.next+1<n0:=by have:=A.2.2;omega
  have bs:=ad h n0;rw[hH]at bs;clear ad E A W ak a0 hH J;have k:qJ y fs (i+1)=s->∃N,u=N/\rY H 1 (wn (qJ y fs (i+1)).outs) N/\(∀j,sr N j->g.next<=j)/\Ext g H/\StH (qJ y fs (i+1)).M (qJ y fs (i+1)).O g.next (g.next+1) H:=λe=>by
   rw[e];exact⟨u,rfl,o,v,w,l⟩
  cases b1:(f.kind==1)with
  |true=>
   rw[b1]at m C;simp only[qS]at m C;have ai:oY fs i<y.ts.length:=ow;have a2:=ox cg ai;have a7:nX y (oY fs i)=y.ts[oY fs i]:=by unfold nX;rw[zC,zB ai];rfl
   have bo:=ck.ts _ (zH ai);rw[a7]at m;have cs:IntKind.i64.wrap (((oY fs i:Nat):Int)+1)=((oY fs (i+1):Nat):Int):=by rw[C];exact qR (by unfold lim;omega)
   clear C ag a7 T;generalize y.ts[oY fs i]=z at *
   have cw:=uf bo.sl;obtain⟨z1,z2,_⟩:=yP bo.sl;cases b2:decide ((z.ts.length:Int)>0)with
   |false=>
    rw[b2]at m;have q:=k (by rw[m];rfl);clear m k o v w l
    repeat' first|simp only[go_sem, *]|apply bc<;>intro K
   |true=>
    rw[b2,ip rfl]at m;have ca:uJ prog 208 (.map g.next) (.int .i64 (i:Int)) z.d H=some (H.set g.next (.map (kmD (D.int .i64) (bS (i:Int) z.d s.M)))):=TR zEo l.1.1 MB Cu (i:Int) z.d;have q:∃N,u=N/\rY (H.set g.next (.map (kmD (D.int .i64) (bS (i:Int) z.d s.M)))) 1 (wn (qJ y fs (i+1)).outs) N/\(∀j,sr N j->g.next<=j)/\Ext g (H.set g.next (.map (kmD (D.int .i64) (bS (i:Int) z.d s.M))))/\StH (qJ y fs (i+1)).M (qJ y fs (i+1)).O g.next (g.next+1) (H.set g.next (.map (kmD (D.int .i64) (bS (i:Int) z.d s.M)))):=by
     rw[m];refine⟨u,rfl,o.loc (zD _) λj F=>zY λe=> ?_,v,w.set (zD _) _,⟨zW _ _ _,by rw[zY ow];exact l.1.2⟩,l.2⟩;have:=(o.tok F).2;rw[e,l.1.1]at this;cases this
    clear m k o v w l
    repeat' first|simp only[go_sem, *]|apply bc<;>intro K
    refine yI kr ?_
    repeat' first|simp only[go_sem,qQ, *]|apply bc<;>intro K
  |false=>
   rw[b1]at m C;simp only[zl,yy,uB]at m C;rw[<-C]at f8;clear C ag;cases b2:(f.kind==2)with
   |false=>
    rw[b2]at m;have q:=k m;clear m k o v w l
    repeat' first|simp only[go_sem, *]|apply bc<;>intro K
   |true=>
    rw[b2,ip rfl]at m;have L:=jQ o.isSl ow f.out H;have cv:=wh o.isSl;obtain⟨u1,u2,_⟩:=yP o.isSl;cases b3:(s.outs.any λz=>z==f.out)with
    |true=>
     rw[b3,ip rfl]at m;have q:=k m;rw[b3]at L;clear m k o v w l
     repeat' first|simp only[go_sem, *]|apply bc<;>intro K|(refine zE.mono L ?_;rintro r h ⟨hq,rfl⟩)
    |false=>
     rw[b3]at m L;simp only[zl,yy]at m;have ba:s.outs.length<y.own.length:=by
      rw[m,zR,t6]at T;omega
     have a3:=rP cf ba;have bk:mL y s.outs.length=y.own[s.outs.length]:=by unfold mL;rw[zC,zB ba];rfl
     rw[bk]at m;clear bk T;generalize y.own[s.outs.length]=nm at *
     have cp:=gu f.out;have R:∀(B:Heap)(O2:KV),B.next=H.next->rY B 1 (wn s.outs) u->Ext g B->StH s.M O2 g.next (g.next+1) B->(qJ y fs (i+1)).M=s.M->(qJ y fs (i+1)).O=O2->(qJ y fs (i+1)).outs=s.outs++ [f.out]->
       ∃d' V,qg prog false B.next 45 u (.sl 1 [[.str f.out]] .full) B=some (d',V)/\∃N,d'=N/\rY V 1 (wn (qJ y fs (i+1)).outs) N/\(∀j,sr N j->g.next<=j)/\Ext g V/\StH (qJ y fs (i+1)).M (qJ y fs (i+1)).O g.next (g.next+1) V:=λB O2 hn W E Y q1 q2 q3=>by
      obtain⟨d',V,v1,v2,v3,v4,v5,v6,v7⟩:=W.app4 (P:=prog) (t:=45) (ys:=[[.str f.out]]) (x:=.sl 1 [[.str f.out]] .full) uK aU pz ow (by simp) (.inr ⟨by simp,_,rfl⟩) (by rw[qw,oP];unfold lim;simp;omega) (by rw[qw];unfold lim;simp;omega);have cu:=E.1;have t1:∀j,sr u j->j≠g.next/\j≠g.next+1:=λj F=>by
       have:=(W.tok F).2;exact⟨λe=>(by rw[e,Y.1.1]at this;cases this),λe=>(by rw[e,Y.1.2]at this;cases this)⟩
      refine⟨d',V,v1,d',rfl,by rw[q3,Me];exact v2,λj F=>by have:=v5 j F;omega,⟨by omega,λj F=>by rw[v4 j ow λe=>by have:=v j e;omega,E.2 j F]⟩,by rw[q1,q2];exact⟨⟨by rw[v4 _ Y.2.1 λe=>(t1 _ e).1 rfl];exact Y.1.1,by rw[v4 _ Y.2.2 λe=>(t1 _ e).2 rfl];exact Y.1.2⟩,by have:=Y.2.1;omega,by have:=Y.2.2;omega⟩⟩
     cases b4:(nm== [])with
     |true=>
      rw[b4]at m;obtain⟨d',V,v1,q⟩:=R H s.O rfl o w l (by rw[m]) (by rw[m];rfl) (by rw[m]);clear m k o v w l R
      repeat' first|simp only[go_sem, *]|apply bc<;>intro K|(refine zE.mono L ?_;rintro r h ⟨hq,rfl⟩)
     |false=>
      rw[b4]at m;obtain⟨B,a5,bb,a6,a4,Z,c1⟩:∃B:Heap,H.set (g.next+1) (.map (kvD (cK f.out nm s.O)))=B/\B.next=H.next/\rY B 1 (wn s.outs) u/\Ext g B/\StH s.M (cK f.out nm s.O) g.next (g.next+1) B/\B.at' n0=some (.row f.cells):=
       ⟨_,rfl,ym _ _ _,o.loc (zD _) λj F=>zY λe=>(by have:=(o.tok F).2;rw[e,l.1.2]at this;cases this),w.set ow _,⟨⟨by rw[zY ow];exact l.1.1,zW _ _ _⟩,l.2⟩,by rw[zY ow];exact X⟩
      have ca:uJ prog 209 (.map (g.next+1)) (.str f.out) (.str nm) H=some B:=by rw[<-a5];exact TT l.1.2 MC Rg f.out nm
      obtain⟨d',V,v1,q⟩:=R B _ bb a6 a4 Z (by rw[m]) (by rw[m];rfl) (by rw[m]);clear m k o v w l R a5 bb a6 a4 Z
      repeat' first|simp only[go_sem, *]|apply bc<;>intro K|(refine zE.mono L ?_;rintro r h ⟨hq,rfl⟩)
      refine yI kr ?_
      repeat' first|simp only[go_sem,qQ, *]|apply bc<;>intro K
 ·clear E A;rintro fr h e1 ⟨f1,f5,f7,f8,b0,b5,b6,u,f9,W,v,E,A⟩;have cl:Ext g h/\∃bx m1 m2,D.iptr sc 0=.iptr bx 0/\Stt c fs (alS fs y) (qJ y fs fs.length).M (qJ y fs fs.length).O bx m1 m2/\StH (qJ y fs fs.length).M (qJ y fs fs.length).O m1 m2 h/\g.next<=m1/\g.next<=m2:=⟨E,sc,g.next,g.next+1,rfl,J,A,zD _,by omega⟩;clear W v E A J;exact au
def Hd(c:Cat)(fs:List Fac)(y:Cho):List (List D):=Qk c fs (alS fs y) (qJ y fs fs.length).O 6
section
variable{c:Cat}{fs:List Fac}{y:Cho}{d x yd:D}(I:CIn c fs y d x yd)
include I
def CIn.start{p:Bool}(h:uT c fs y p=0)(g:Heap):zE prog 75 [d,x,yd] g λr h'=>Ext g h'/\∃sc m1 m2,r=.iptr sc 0/\Stt c fs (alS fs y) (qJ y fs fs.length).M (qJ y fs fs.length).O sc m1 m2/\StH (qJ y fs fs.length).M (qJ y fs fs.length).O m1 m2 h'/\g.next<=m1/\g.next<=m2:=by
 have h1:=I.n16 h;obtain⟨_,k1,k2,k3⟩:=RL h I.ysm;exact AA I.cat I.sm I.x ow I.ok I.cho I.ysm (λa b e=>(k3 a b e).1) ow ow g
end
variable{c:Cat}{fs:List Fac}{d x:D}
def Mz{y:Cho} :∀x∈Hd c fs y,wr x:=Wp
def Vio.cells(v:Vio):List D:=[.int .i64 v.row,.sl 1 (wY v.facts) .no]
def vcs(l:List Vio):List (List D):=l.map Vio.cells
def HI(c:Cat)(fs:List Fac)(al:Nat->Option Alt)(O:KV)(k:Nat):List Vio:=(List.range k).flatMap λi:Nat=>(gG c fs al O i).map λl=>⟨(i:Int),l⟩
def p0(c:Cat)(fs:List Fac)(y:Cho):List Vio:=HI c fs (alS fs y) (qJ y fs fs.length).O 6
def KZ{O:KV} :Qk c fs al O k=vcs (HI c fs al O k):=by
 unfold Qk HI vcs vbs;rw[List.map_flatMap];congr 1
 funext i
 rw[wF];rfl
def Ka{y:Cho} :Hd c fs y=vcs (p0 c fs y):=KZ
def Zj(c:Cat)(fs:List Fac)(y:Cho):D:=
 if(!(uT c fs y true==0))=true then .tuple [.agg QV,.bool false,.int .i64 (uT c fs y true)]else .tuple [.agg ((Hd c fs y).head?.getD QV),.bool ((Hd c fs y).head?.isSome),.int .i64 0]
def zI8{y:Cho} :∃num l,(Hd c fs y).head?.getD QV= [.int .i64 num,l]/\yi 1 [] .nilsl/\l.flat=true/\wr [.int .i64 num,l]:=by
 cases h:(Hd c fs y).head? with
 |none=>exact⟨0,.nilsl,rfl,.inl ⟨rfl,rfl⟩,rfl,rfl,⟨trivial,trivial,trivial⟩,rfl⟩
 |some x=>
  have a:=t7 h;have b:=Mz x a;obtain⟨i,_,d⟩:=z5.1 a;obtain⟨l,_,rfl⟩:=zM.1 d;exact⟨_,_,rfl,.inl ⟨rfl,rfl⟩,rfl,b⟩
def LB{y:Cho}{d x yd:D}(I:CIn c fs y d x yd)(g:Heap):
  zE prog 90 [d,x,yd] g λr h'=>h'=g/\r=Zj c fs y:=by
 refine xU kr λU=>xS ?_;refine xP λQ hQ=> ?_;have k:=I.check true;have R:=λh=>I.start (p:=true) h;have E:=λh=>I.n16 (p:=true) h;obtain⟨a,b,e,p,rfl,_⟩:=I.cat;obtain⟨Y,X,rfl,_⟩:=I.cho;obtain⟨x1,x2,_⟩:=yP I.x;have a1:yW true 4 [a,b,e,p] 0=some (.agg [a,b,e,p]):=zJ rfl ow;have a0:yW true 2 [Y,X] 0=some (.agg [Y,X]):=zJ rfl ow;have a3:∀m l:D,yW true 2 [m,l] 0=some (.agg [m,l]):=λm l=>zJ rfl ow;have a2:qd prog 137 []=some (.agg [.int .i64 0,.nilsl]):=by simp[qd,cR,fT,ur,D.notTuple,D.cells]
 obtain⟨G,hG,s,j,t⟩:∃G:Heap,g.new g.next (.row [.int .i64 0,.nilsl])=G/\Ext g G/\G.at' g.next=some (.row [.int .i64 0,.nilsl])/\g.next<G.next:=⟨_,rfl,(Ext.refl g).new (zD _) _,z8 _ _ _,by rw[za];omega⟩;have u:∀h' v z n,Ext g h'->wr v->Zj c fs y=.tuple [.agg v,.bool z,.int .i64 n]->Q (.tuple [.agg v,.bool z,.int .i64 n]) h':=λh' v z n q N e=>hQ _ _ ⟨q,by
  simp only[qD,qY,below,qO,N.2.2];exact⟨tY (yC _) _ N.2.1,trivial,trivial,trivial⟩,by simp only[qD,qY,N.2.2];exact e.symm⟩
 refine zu zM9 ?_;simp only[f90,zA];cases B:(uT c fs y true==0)with
 |false=>
  have i:Zj c fs y=.tuple [.agg [.int .i64 0,.nilsl],.bool false,.int .i64 (uT c fs y true)]:=by unfold Zj;rw[B];rfl
  have V:yX prog 137 (.ptr g.next 0) (.agg [.int .i64 0,.nilsl]) G=some G:=by
   rw[qp j (by rw[so];rfl) rfl (by decide) rfl,sR j]
  have w:=u G _ _ _ s (show wr [.int .i64 0,.nilsl]from⟨rfl,⟨trivial,trivial,trivial⟩,rfl⟩) i
  repeat' first|simp only[go_sem, *]|apply bc<;>intro S|(refine zE.mono (k _) ?_;rintro r h ⟨C,rfl⟩)
 |true=>
  have h0:uT c fs y true=0:=by simpa using B
  have i:Zj c fs y=.tuple [.agg ((Hd c fs y).head?.getD QV),.bool ((Hd c fs y).head?.isSome),.int .i64 0]:=by unfold Zj;rw[B];rfl
  have hs:=R h0;have hn:=E h0;rw[h0]at k B
  repeat' first|simp only[go_sem, *]|apply bc<;>intro S|(refine zE.mono (k _) ?_;rintro r h ⟨C,rfl⟩)
  subst C
  rename Heap=>G
  refine(hs _).mono ?_;rintro r h1 ⟨q,sc,m1,m2,rfl,hS,hH,_,_⟩
  repeat' first|simp only[go_sem, *]|apply bc<;>intro S
  refine(Be hS hn hH).mono ?_;rintro r f ⟨C,rfl⟩;subst C;have hh:Ax (Qk c fs (alS fs y) (qJ y fs fs.length).O 6)=.tuple [.agg ((Hd c fs y).head?.getD QV),.bool ((Hd c fs y).head?.isSome)]:=rfl;rw[hh];obtain⟨num,l,T,_,ak,o⟩:=zI8 (c:=c) (fs:=fs) (y:=y);have ai:g.next<f.next:=zq t q.1;have P:f.at' g.next=some (.row [.int .i64 0,.nilsl]):=by rw[q.2 _ t];exact j
  have A:yX prog 137 (.ptr f.next 0) (.agg [.int .i64 num,l]) (f.new f.next (.row [.int .i64 0,.nilsl]))=some (f.new f.next (.row [.int .i64 num,l])):=qK so ow rfl rfl o.1;obtain⟨H,L,M,ag,K⟩:∃H:Heap,f.new f.next (.row [.int .i64 num,l])=H/\H.at' g.next=some (.row [.int .i64 0,.nilsl])/\H.at' f.next=some (.row [.int .i64 num,l])/\Ext g H:=⟨_,rfl,by rw[zi ow];exact P,z8 _ _ _,(s.trans q).new ow _⟩;rw[L]at A;obtain⟨F,Z,ad,J⟩:∃F:Heap,H.set g.next (.row [.int .i64 num,l])=F/\F.at' g.next=some (.row [.int .i64 num,l])/\Ext g F:=⟨_,rfl,zW _ _ _,K.set (zD _) _⟩
  have W:yX prog 137 (.ptr g.next 0) (.agg [.int .i64 num,l]) H=some F:=by
   rw[qp (cs':=[.int .i64 num,l]) M (by rw[so];rfl) rfl (by simp) o.1,Z]
  rw[T]at i;have w:=u F _ _ _ J o i;rw[T];exact au
section
variable{c:Cat}{fs:List Fac}{al:Nat->Option Alt}{O:KV}
def QH{l:List Int} :l∈gG c fs al O i↔∃z∈cd c fs al O i,n7 z=l:=by
 unfold gG;rw[JV JT,ZN,zM]
def HJ{v:Vio} :v∈HI c fs al O k↔∃i:Nat,i<k/\v.row=(i:Int)/\v.facts∈gG c fs al O i:=by
 unfold HI;rw[z5];constructor
 ·rintro⟨i,a,h⟩;obtain⟨l,d,rfl⟩:=zM.1 h;exact⟨i,qT.1 a,rfl,d⟩
 ·rintro⟨i,a,h1,b⟩;refine⟨i,qT.2 a,zM.2 ⟨v.facts,b,?_⟩⟩;cases v;simp only at h1;rw[h1]
end
variable{c:Cat}{fs:List Fac}{al:Nat->Option Alt}
def HK{y:Cho}{v:Vio} :v∈p0 c fs y↔∃i:Nat,i<6/\v.row=(i:Int)/\∃z∈cd c fs (alS fs y) (qJ y fs fs.length).O i,n7 z=v.facts:=by
 unfold p0;rw[HJ];constructor
 ·rintro⟨i,h1,a,h3⟩;exact⟨i,h1,a,QH.1 h3⟩
 ·rintro⟨i,h1,a,h3⟩;exact⟨i,h1,a,QH.2 h3⟩
end Go.V
