/- Rules of the machine of abstract values, part 9. No condition. -/
import Derived.Test.YthcjhnmnhfgdiaaGreatDoorW32
set_option linter.all false
set_option maxHeartbeats 8000000
namespace Go.V
def dH (h0 h:Heap) (sz:Nat) (xs:List (List D)) (d:D):Prop:=Ext h0 h/\((d= .nilsl/\xs= [])\/∃id,d= .rs id sz 0 xs.length/\h.at' id=some (.row xs.flatten)/\h0.next<=id/\id<h.next/\xs≠[])
section
variable {h0 h h':Heap} {sz:Nat} {xs:List (List D)} {d:D}
def dH.start (a:Ext h0 h) (sz:Nat):dH h0 h sz [] .nilsl:=⟨a, .inl ⟨rfl,rfl⟩⟩
def dH.ext (b:dH h0 h sz xs d) (a:Ext h h'):dH h0 h' sz xs d:=by
 refine⟨b.1.trans a,?_⟩;rcases b.2 with h1| ⟨id,rfl,h1,c,h3,e⟩
 ·exact .inl h1
 ·exact .inr ⟨id,rfl,by rw[a.2 _ h3];exact h1,c,Nat.lt_of_lt_of_le h3 a.1,e⟩
def dH.flat (a:dH h0 h sz xs d):d.flat=true/\d.cells= [d]/\d.notTuple=true:=by
 rcases a.2 with⟨rfl,_⟩ | ⟨t,rfl,_⟩ <;>exact⟨rfl,rfl,rfl⟩
def dH.trunc (b:dH h0 h sz xs d) (a:∀y∈xs,y.length=sz) (x:D):qZ d x h=h:=by
 rcases b.2 with⟨rfl,_⟩ | ⟨id,rfl,h1,_⟩
 ·rfl
 ·unfold qZ;simp only;split
  ·rfl
  ·rw[h1];simp only;rw[iq (by rw[qF a];simp)]
variable {P:Program}{cs:List D}
def dJ {e x:TypeId} (a:P.underlying e=some (.slice x)):uh P e cs= .row cs:=by simp[uh,a]
variable {ys:List (List D)}{tk:Tk}
def dH.app {t e:TypeId} (r:dH h0 h sz xs d) (v:qQ P t=some e) (A:gT P e=true) (z:szT P e=sz) (x:0<sz) (hr:∀cs,uh P e cs= .row cs) (g:∀y∈xs,y.length=sz) (p:∀y∈ys,y.length=sz) (c:ys≠[])
  (j:(xs.length+ys.length)*yf P e<=lim) (m:xs.length+ys.length<=lim):∃a G,zt P true h.next t d (.sl sz ys tk) h=some (a,G)/\dH h0 G sz (xs++ys) a/\qZ d (.sl sz ys tk) h=h:=by
 have f:=r.trunc g (.sl sz ys tk)
 suffices∃a G,zt P true h.next t d (.sl sz ys tk) h=some (a,G)/\dH h0 G sz (xs++ys) a from by
  obtain⟨a,G,B,C⟩:=this;exact⟨a,G,B,C,f⟩
 clear f;have l:ys.flatten.length=ys.length*sz:=qF p;have q:0<ys.length:=List.length_pos_iff.2 c;obtain⟨b,u⟩:=r;simp only[zt,v,A,z,Qx,if_true,l,Nat.mul_div_cancel _ x];have n:∀o,Ext h0 (h.new h.next o):=λo=>b.new b.1 o;rcases u with⟨rfl,rfl⟩ | ⟨id,rfl,h1,D,h3,E⟩
 ·refine⟨.rs h.next sz 0 ys.length,h.new h.next (.row ys.flatten),?_,n _, .inr ⟨h.next,by simp,by rw[zK];rfl,b.1,by rw[zF];omega,by simpa using c⟩⟩;simp only[qg];rw[iq ow,ip (by simp only[Bool.and_eq_true,decide_eq_true_eq];simp only[List.length_nil,Nat.zero_add] at j m;exact⟨j,m⟩)];simp[hr]
 ·have k:xs.flatten.length=xs.length*sz:=qF g;have s:Ext h0 ((h.del id).new h.next (.row (xs.flatten++ys.flatten))):=by
   refine⟨Nat.le_trans b.1 (by show h.next<=max h.next _;omega),λi w=> ?_⟩;rw[zH (by have:=b.1;omega),yJ ow];exact b.2 i w
  refine⟨.rs h.next sz 0 (xs.length+ys.length),(h.del id).new h.next (.row (xs.flatten++ys.flatten)),?_,s, .inr ⟨h.next,by simp,by rw[zK,List.flatten_append],b.1,by show h.next<max h.next (h.next+1);omega,by simp[c]⟩⟩;simp only[qg,Bool.true_and,decide_true];rw[ip (by simp only[Bool.and_eq_true,decide_eq_true_eq];exact⟨j,m⟩)];simp only[h1,k,if_true,hr]
end
structure Own2 (h0 h:Heap) (s1:Nat) (xs:List (List D)) (d:D) (s2:Nat) (ys:List (List D)) (e:D):Prop where
 a:Own h0 h s1 xs d
 b:Own h0 h s2 ys e
 ap:∀i,wB d i->wB e i->False
section
variable {h0 h h':Heap} {s1 s2:Nat} {xs ys:List (List D)} {d e:D}
def Own2.start (a:Ext h0 h) (s1 s2:Nat):Own2 h0 h s1 [] .nilsl s2 [] .nilsl:=⟨Own.start a _,Own.start a _,λi h=>h.elim⟩
def Own2.ext (c:Own2 h0 h s1 xs d s2 ys e) (f:Ext h h'):Own2 h0 h' s1 xs d s2 ys e:=⟨c.a.ext f,c.b.ext f,c.ap⟩
def Own2.swap (c:Own2 h0 h s1 xs d s2 ys e):Own2 h0 h s2 ys e s1 xs d:=⟨c.b,c.a,λi q p=>c.ap i p q⟩
variable {P:Program}{tk:Tk}{t u:TypeId}{K:D->Heap->Prop}
def Own2.appH {zs:List (List D)} {w:HidR K} (g:Own2 h0 h s1 xs d s2 ys e) (v:qQ P t=some u) (B:gT P u=true) (A:szT P u=s1) (z:0<s1) (p:∀y∈zs,y.length=s1) (m:zs≠[])
  (s:(xs.length+zs.length)*yf P u<=lim) (x:xs.length+zs.length<=lim) (r:∀l h',Own2 h0 h' s1 (xs++zs) l s2 ys e->K l h'):K5 (zt P false h.next t d (.sl s1 zs tk) h) K w:=
 g.a.2.1.app2 v B A z p m s x λl h' o n j tk c f=>r l h' ⟨⟨⟨Nat.le_trans g.a.1.1 n,λi k=>by rw[j i (Nat.lt_of_lt_of_le k g.a.1.1) (λq=>by have:=g.a.2.2 i q;omega)];exact g.a.1.2 i k⟩,o,λi k=>Nat.le_trans g.a.1.1 (tk i k)⟩,
  ⟨⟨Nat.le_trans g.a.1.1 n,λi k=>by rw[j i (Nat.lt_of_lt_of_le k g.a.1.1) (λq=>by have:=g.a.2.2 i q;omega)];exact g.a.1.2 i k⟩,g.b.2.1.loc n λi k=>j i (g.b.2.1.tok k).1 λq=>g.ap i q k,g.b.2.2⟩,
  λi C E=>by have:=tk i C;have:=(g.b.2.1.tok E).1;omega⟩
end
structure Lcl (W:Nat->(Nat->Prop)->Heap->Prop):Prop where
 here:∀k S h,W k S h->∀i,S i->i<h.next
 loc:∀k S h h',W k S h->h.next<=h'.next->(∀i,S i->h'.at' i=h.at' i)->W k S h'
def YLp (id:Nat) (L:LRec) (W:Nat->(Nat->Prop)->Heap->Prop) (k:Nat) (S:Nat->Prop) (h:Heap):Prop:=
 id<h.next/\h.at' id=some (.loop L)/\∃S0,W k S0 h/\¬S0 id/\∀i,S i↔(i=id\/S0 i)
def LpK (id:Nat) (L:LRec) (W:Nat->(Nat->Prop)->Heap->Prop) (k:Nat) (S0:Nat->Prop) (h:Heap) (r:D) (h':Heap):Prop:=
 r= .bool true/\∃S',(∀i,S' i->S0 i\/h.next<=i)/\But (λi=>i=id\/S0 i) h h'/\h'.at' id=some (.loop L)/\W (k+1) S' h'
section
variable {P:Program} {W:Nat->(Nat->Prop)->Heap->Prop} {id n:Nat} {L:LRec} {el:Nat->List D}
def YLp.yld (s:Lcl W) (go:∀k S0 h3,k<n->id<h3.next->h3.at' id=some (.loop L)->W k S0 h3->¬S0 id->yg P id (el k) h3 (LpK id L W k S0 h3)):Yld P id n el (YLp id L W) λ_ _=>False:=by
 refine⟨λk S h y i b=> ?_,λk S h h' y m g=> ?_,λS h o=>o.elim,λS h h' o=>o.elim,λk S h g y=> ?_⟩
 ·obtain⟨c,_,S0,d,_,a⟩:=y;rcases(a i).1 b with rfl|v
  ·exact c
  ·exact s.here _ _ _ d i v
 ·obtain⟨c,j,S0,d,f,a⟩:=y;exact⟨by omega,by rw[g id ((a id).2 (.inl rfl))];exact j,S0,s.loc _ _ _ _ d m λi b=>g i ((a i).2 (.inr b)),f,a⟩
 ·obtain⟨c,j,S0,d,f,a⟩:=y;refine(go k S0 h g c j d f).mono ?_;rintro r h' ⟨rfl,S',p,l,t,u⟩;refine⟨λi=>i=id\/S' i,λi b=> ?_,⟨l.1,λi b m=>l.2 i b λe=>m ((a i).2 e)⟩, .inl ⟨rfl,Nat.lt_of_lt_of_le c l.1,t,S',u,λe=> ?_,λi=>Iff.rfl⟩⟩
  ·rcases b with rfl|b
   ·exact .inl ((a _).2 (.inl rfl))
   ·exact(p i b).imp (λq=>(a i).2 (.inr q)) λq=>q
  ·rcases p _ e with q|q
   ·exact f q
   ·omega
variable {S0 S':Nat->Prop}{k:Nat}{fr:Frm}
def Lp.fin (f:Lcl W) {B:LRec} (b:({ B with st:= .ready,pending:=none } :LRec)=L) {h3 a:Heap} (d:id<h3.next) (j:¬S0 id) (hid:a.at' id=some (.loop B)) (c:∀i,S' i->S0 i\/h3.next<=i) (g:But (λi=>i=id\/S0 i) h3 a) (l:W (k+1) S' a) :
  wK (LpK id L W k S0 h3) id .normal fr a:=by
 refine wA hid ⟨rfl,S',c,g.set (.inl (.inl rfl)) _,by rw[zD,b],f.loc _ _ _ _ l (Nat.le_refl _) λi h=>zE λe=> ?_⟩;subst e;rcases c _ h with q|q
 ·exact j q
 ·omega
variable {f:FuncId}{args:List D}{h:Heap}{S:Nat->Prop}
def ww {a:Nat} (s:h.next=a) {Q:Exit->Frm->Heap->Prop} (d:Lcl W) (v:L.st= .ready) (u:L.pending=none) (p:W 0 S h)
  (g:Yld P a n el (YLp a L W) (λ_ _=>False)->YLp a L W 0 (λi=>i=a\/S i) (h.new a (.loop L))->zA P f args (h.new a (.loop L)) λ_ h'=>∃S',(∀j,S' j->(j=a\/S j)\/(h.new a (.loop L)).next<=j)/\But (λi=>i=a\/S i) (h.new a (.loop L)) h'/\YLp a L W n S' h')
  (go:∀k S0 h3,k<n->a<h3.next->h3.at' a=some (.loop L)->W k S0 h3->¬S0 a->yg P a (el k) h3 (LpK a L W k S0 h3))
  (m:∀S' c,(∀j,S' j->S j\/a<=j)->But S h c->W n S' c->Q .normal fr c):
  zA P f args (h.new a (.loop L)) λ_ h'=>∃r,h'.at' a=some (.loop r)/\r.st≠ .busy/\cM r.pending Q fr (h'.del a):=by
 subst s;have E:(h.new h.next (.loop L)).next=h.next+1:=zF _ _;have o:¬S h.next:=λe=>Nat.lt_irrefl _ (d.here _ _ _ p _ e);refine(g (YLp.yld d go) ⟨by omega,zK _ _ _,S,d.loc _ _ _ _ p ow λi l=>zH (by have:=d.here _ _ _ p _ l;omega),o,λi=>Iff.rfl⟩).mono ?_;rintro r c ⟨S',C,x,D,z,S0,A,w,B⟩;refine⟨L,z,(by rw[v];intro q;cases q),?_⟩;rw[u,uz];refine m S0 _ (λj y=> ?_) ⟨by have:=x.1;show h.next<=c.next;omega,λi l t=> ?_⟩ (d.loc _ _ _ _ A (Nat.le_refl _) λi l=>yJ λe=>by subst e;exact w l)
 ·rcases C j ((B j).2 (.inr y)) with(q|q)|q
  ·subst q;exact absurd y w
  ·exact .inl q
  ·exact .inr ow
 ·have b:i≠h.next:=ow;rw[yJ b,x.2 i ow (λe=>e.elim b t),zH b]
end
def WK (m1:Nat) (o1:Obj) (m2:Nat) (o2:Obj) (W:Nat->(Nat->Prop)->Heap->Prop) (k:Nat) (S:Nat->Prop) (h:Heap):Prop:=
 ∃S1,W k S1 h/\(m1<h.next/\m2<h.next)/\(h.at' m1=some o1/\h.at' m2=some o2)/\(¬S1 m1/\¬S1 m2)/\∀i,S i↔(i=m1\/i=m2\/S1 i)
def WK.lcl {m1 m2:Nat} {o1 o2:Obj} {W:Nat->(Nat->Prop)->Heap->Prop} (j:Lcl W):Lcl (WK m1 o1 m2 o2 W):=by
 refine⟨λk S h y i d=> ?_,λk S h h' y n e=> ?_⟩
 ·obtain⟨S1,b,⟨f,g⟩,_,_,c⟩:=y;rcases(c i).1 d with rfl|rfl|q
  ·exact f
  ·exact g
  ·exact j.here _ _ _ b i q
 ·obtain⟨S1,b,⟨f,g⟩,⟨l,c⟩,m,a⟩:=y;exact⟨S1,j.loc _ _ _ _ b n λi d=>e i ((a i).2 (.inr (.inr d))),⟨by omega,by omega⟩,⟨by rw[e m1 ((a m1).2 (.inl rfl))];exact l,by rw[e m2 ((a m2).2 (.inr (.inl rfl)))];exact c⟩,m,a⟩
variable {k i id sz n:Nat}{S S0 S':Nat->Prop}{h h' g:Heap}{P:Program}{cs args cap:List D}{ys xs:List (List D)}{tk:Tk}{t u:TypeId}{K:D->Heap->Prop}{fr:Frm}{f:FuncId}{α β:Type}{d x:D}
def WK.start {m1 m2:Nat} {o1 o2:Obj} {W:Nat->(Nat->Prop)->Heap->Prop} (b:W k S h) (h1:m1<h.next) (a:m2<h.next) (e1:h.at' m1=some o1) (e2:h.at' m2=some o2) (c:¬S m1) (d:¬S m2):WK m1 o1 m2 o2 W k (λi=>i=m1\/i=m2\/S i) h:=
 ⟨S,b,⟨h1,a⟩,⟨e1,e2⟩,⟨c,d⟩,λ_=>Iff.rfl⟩
def WK.stop {m1 m2:Nat} {o1 o2:Obj} {W:Nat->(Nat->Prop)->Heap->Prop} (e1:h.at' m1=some o1) (e2:h.at' m2=some o2) (m:∀i,S' i->(i=m1\/i=m2\/S i)\/h.next<=i) (b:But (λi=>i=m1\/i=m2\/S i) h h') (n:WK m1 o1 m2 o2 W k S' h'):
  ∃S1,(∀i,S1 i->S i\/h.next<=i)/\But S h h'/\W k S1 h':=by
 obtain⟨S1,c,_,⟨d,f⟩,⟨g,j⟩,l⟩:=n;refine⟨S1,λi a=> ?_,⟨b.1,λi a r=> ?_⟩,c⟩
 ·rcases m i ((l i).2 (.inr (.inr a))) with(rfl|rfl|q)|q
  ·exact absurd a g
  ·exact absurd a j
  ·exact .inl q
  ·exact .inr q
 ·by_cases o:i=m1
  ·subst o;rw[d,e1]
  ·by_cases p:i=m2
   ·subst p;rw[f,e2]
   ·exact b.2 i a λe=>by rcases e with q|q|q<;>contradiction
def WK.st {m1 m2:Nat} {o1 o2:Obj} {W:Nat->(Nat->Prop)->Heap->Prop} (c:WK m1 o1 m2 o2 W k S h):(h.at' m1=some o1/\h.at' m2=some o2)/\(m1<h.next/\m2<h.next):=by
 obtain⟨S1,_,b,a,_⟩:=c;exact⟨a,b⟩
def pW {α β:Type} (l:List α) (f:α->List β) (a:Nat):Nat:=((l.take a).flatMap f).length
def QP {l:List α} {f:α->List β} {a:Nat} (h:a<l.length):pW l f (a+1)=pW l f a+(f l[a]).length:=by
 unfold pW;rw[List.take_succ_eq_append_getElem h,List.flatMap_append,List.length_append];simp
def kV (l:List α) (f:α->List β):pW l f 0=0:=by simp[pW]
def lL (l:List α) (f:α->List β):pW l f l.length=(l.flatMap f).length:=by simp[pW]
def G9 {l:List α} {f:α->List β} {a b:Nat} (h:a<l.length) (c:b<(f l[a]).length):(l.flatMap f)[pW l f a+b]? =some (f l[a])[b]:=by
 have:l.flatMap f=(l.take a).flatMap f++(f l[a]++(l.drop (a+1)).flatMap f):=by
  conv=>lhs;rw[<-List.take_append_drop a l,List.drop_eq_getElem_cons h,List.flatMap_append,List.flatMap_cons]
 rw[this,List.getElem?_append_right (by unfold pW;omega)];unfold pW;rw[Nat.add_sub_cancel_left,List.getElem?_append_left c,List.getElem?_eq_getElem]
def zGa {l:List α} {f:α->List β} {a b:Nat} (h:a<l.length) (c:b<(f l[a]).length):pW l f a+b<(l.flatMap f).length:=(List.getElem?_eq_some_iff.1 (G9 h c)).1
open Go.Proofs.Tryz
open Go.Proofs
set_option maxRecDepth 100000
structure Trm where
 a:List UInt8
 b:List UInt8
def Trm.cells (l:Trm):List D:=[.str l.a, .str l.b]
def yU (l:List Trm):List (List D):=l.map Trm.cells
def yQ (l:List Trm):(yU l).length=l.length:=List.length_map ..
def gG {l:List Trm} (h:i<l.length):(yU l)[i]? =some l[i].cells:=by simp[yU,h]
def yp {l:List Trm} (a:zd 2 (yU l) d) (h:Heap):sD prog 128 d h=some (.int .i64 l.length):=by rw[ye a underlying128,yQ]
def uH {l:List Trm} {d:D} (a:zd 2 (yU l) d) {i:Nat} (b:i<l.length):zP prog 128 d (.int .i64 (i:Int))=some (.iptr l[i].cells 0):=zW a yY yt (gG b)
def zS (a b:Trm):Int:=orL [o7 a.a b.a,o7 a.b b.b]
def nT (a b:Trm) (g:Heap):zA prog 236 [.agg a.cells, .agg b.cells] g λr h'=>h'=g/\r= .int .i64 (zS a b):=by
 have h1:=XU a.a b.a;have f:=XU a.b b.b;have h3:=zBc (l:=[o7 a.a b.a,o7 a.b b.b]) (zd.mk .full) (by simp);have hr:=λnid=>zGT (o7 a.a b.a) (o7 a.b b.b) nid;have c:orL [o7 a.a b.a,o7 a.b b.b]=zS a b:=rfl;rw[c] at h3;have d:∀h:Heap,HLe Heap.emp h:=λh i j e=>by cases e
 refine xO mix func236 zEk rfl rfl ?_;simp only[f236,gJ];simp only[Trm.cells]
 repeat' first|simp only[go_sem, *]|apply bc<;>intro c
 refine zM Heap.emp [(0, .no,true),(1, .no,true),(2, .no,true),(3, .no,true),(5, .no,true),(6, .st,true),(7, .no,true),(8, .st,true),(4, .no,true),(9, .no,true),(10, .no,true),(11, .no,true),(12, .no,true)] kr kr (λi j e=>by cases e) ?_
 repeat' first|simp only[go_sem, *]|apply bc<;>intro c|(refine zA.mono (h1 _) ?_;rintro r h ⟨rfl,rfl⟩)|(refine zA.mono (f _) ?_;rintro r h ⟨rfl,rfl⟩)|(refine zA.mono (h3 _) ?_;rintro r h ⟨rfl,rfl⟩)
def Xe (x y:Trm) (c:Bool):pj prog .eql 130 c (.agg [.str x.a, .str x.b]) (.agg [.str y.a, .str y.b])=some (.bool (x.a==y.a&&x.b==y.b)):=by
 have d:eqT prog 130=some [.s, .s]:=by kernel_rfl
 simp only[pj,d,RX,eqK,Option.map_some,Bool.and_true,tI]
def Ig {l:List Trm} (q:zd 2 (yU l) d) (D:l.length<=1048576) (n:Trm) (g:Heap):
  zA prog 373 [d, .agg [.str n.a, .str n.b]] g λr h'=>h'=g/\r= .int .i64 (Zf (λx:Trm=>n.a==x.a&&n.b==x.b) l):=by
 have s:=yp q;have heq:=Xe n;obtain⟨p,t⟩:∃p:Trm->Bool,(λx:Trm=>n.a==x.a&&n.b==x.b)=p:=⟨_,rfl⟩;have m:∀x,(n.a==x.a&&n.b==x.b)=p x:=λx=>by rw[<-t]
 rw[t];refine xO mix func373 zEt rfl rfl ?_;simp only[f373,gJ];simp only[go_sem, *];refine zC (λi fr h=>fr 0=d/\fr 3= .iptr [.str n.a, .str n.b] 0/\fr 7= .int .i64 (l.length:Int)/\fr 8= .int .i64 (i:Int)/\h=g/\∀j (e:j<l.length),j<i->p l[j]=false) l.length ow ?_ ?_ ?_
 ·simp only[go_sem,true_and,and_true,Int.ofNat_zero];exact λj e h0=>absurd h0 (Nat.not_lt_zero _)
 ·rintro i fr h c e1 C ⟨v,w,y,z,rfl,e⟩;have u:=uH q c;simp only[Trm.cells] at u;have o:=heq l[i];rw[m] at o;cases k:p l[i] with
  |true=>
   have B:=pN (p:=p) c e k;rw[k] at o;simp only[go_sem, *];refine zU kr ?_;simp only[go_sem, *]
  |false=>
   have A:=qG (p:=p) c e k;rw[k] at o;simp only[go_sem, *];refine zU kr ?_;simp only[go_sem, *];exact A
 ·rintro fr h e1 ⟨v,w,y,z,rfl,e⟩;have B:=pO (p:=p) λj f=>e j f f;exact au
def Vm {l:List Trm} (e:zd 2 (yU l) d) (i:l.length<=1048576) (n:Trm) (g:Heap):
  zA prog 301 [d, .agg [.str n.a, .str n.b]] g λr h'=>h'=g/\r= .bool (l.any λx:Trm=>n.a==x.a&&n.b==x.b):=by
 have c:=Ig e i n;have f:=p9 (l:=l) (p:=λx:Trm=>n.a==x.a&&n.b==x.b);refine xO mix func301 zFu rfl rfl ?_;simp only[f301,gJ]
 repeat' first|simp only[go_sem, *]|apply bc<;>intro j|(refine zA.mono (c _) ?_;rintro r h ⟨rfl,rfl⟩)
def Xf {l:List Trm} (n:zd 2 (yU l) d) (C:l.length<=1048576) {p:Trm->Bool} (z:∀s∈l,∀h,zA prog f ([]++ [.agg s.cells]++cap) h λr h'=>h'=h/\r= .bool (p s)) (g:Heap):
  zA prog 372 [d, .fn (.func f) [] cap] g λr h'=>h'=g/\r= .int .i64 (Zf p l):=by
 have o:=yp n;refine xO mix func372 zEX rfl rfl ?_;simp only[f372,gJ]
 repeat' first|simp only[go_sem, *]|apply bc<;>intro m
 refine zC (λi fr h=>fr 1= .fn (.func f) [] cap/\fr 0=d/\fr 6=d/\fr 7= .int .i64 (l.length:Int)/\fr 8= .int .i64 (i:Int)/\h=g/\∀j (b:j<l.length),j<i->p l[j]=false) l.length ow ?_ ?_ ?_
 ·simp only[go_sem,true_and,and_true,Int.ofNat_zero];exact λj b h0=>by omega
 ·rintro i fr h a e1 B ⟨u,t,v,w,x,rfl,b⟩;have q:=uH n a;have e:=z _ (List.getElem_mem a);simp only[List.nil_append,List.cons_append,Trm.cells] at e;simp only[Trm.cells] at q;cases k:p l[i] with
  |true=>
   have A:=pN a b k;rw[k] at e
   repeat' first|simp only[go_sem, *]|apply bc<;>intro m|(refine zA.mono (e _) ?_;rintro r h ⟨rfl,rfl⟩)
  |false=>
   have y:=qG (p:=p) a b k;rw[k] at e
   repeat' first|simp only[go_sem, *]|apply bc<;>intro m|(refine zA.mono (e _) ?_;rintro r h ⟨rfl,rfl⟩)
   exact y
 ·rintro fr h e1 ⟨u,t,v,w,x,rfl,b⟩;have A:=pO (p:=p) λj c=>b j c c;exact au
def dK {l:List Trm} (b:zd 2 (yU l) d) (e:l.length<=1048576) {p:Trm->Bool} (i:∀s∈l,∀h,zA prog f ([]++ [.agg s.cells]++cap) h λr h'=>h'=h/\r= .bool (p s)) (g:Heap):
  zA prog 299 [d, .fn (.func f) [] cap] g λr h'=>h'=g/\r= .bool (l.any p):=by
 have a:=Xf b e i;have c:=p9 (l:=l) (p:=p);refine xO mix func299 zFE rfl rfl ?_;simp only[f299,gJ]
 repeat' first|simp only[go_sem, *]|apply bc<;>intro j|(refine zA.mono (a _) ?_;rintro r h ⟨rfl,rfl⟩)
def FA (x:Trm) (h:Heap) (id:Nat):zQ prog 130 (.ptr id 0) (.agg [.str x.a, .str x.b]) (h.new id (.row [.str [], .str []]))=some (h.new id (.row [.str x.a, .str x.b])):=zf yt ow rfl rfl rfl
def tj:List Trm->List Trm->Int
 | [],[]=>0
 | [],_::_=> -1
 |_::_,[]=>1
 |x::xs,y::ys=>if(!(zS x y==0))=true then zS x y else tj xs ys
theorem Xg:∀ {a b:List Trm} {i:Nat} (f:i<a.length) (g:i<b.length),(∀j (h1:j<a.length) (d:j<b.length),j<i->zS a[j] b[j]=0)->zS a[i] b[i]≠0->tj a b=zS a[i] b[i]
 |x::xs,y::ys,0,_,_,_,h0=>by
  have c:zS x y≠0:=h0;simp[tj,c]
 |x::xs,y::ys,i+1,f,g,h,h0=>by
  have e:zS x y=0:=h 0 (by simp) (by simp) ow;have:=Xg (a:=xs) (b:=ys) (i:=i) (by simpa using f) (by simpa using g) (λj h1 d h3=>h (j+1) (Nat.succ_lt_succ h1) (Nat.succ_lt_succ d) ow) (by simpa using h0);simp only[tj,e,List.getElem_cons_succ];simpa using this
theorem dL:∀ {a b:List Trm},(∀j (h1:j<a.length) (c:j<b.length),zS a[j] b[j]=0)->tj a b=if b.length<a.length then 1 else if a.length<b.length then -1 else 0
 | [],[],_=>rfl
 | [],y::ys,_=>by simp[tj]
 |x::xs,[],_=>by simp[tj]
 |x::xs,y::ys,d=>by
  have e:zS x y=0:=d 0 (by simp) (by simp);have:=dL (a:=xs) (b:=ys) (λj h1 c=>d (j+1) (Nat.succ_lt_succ h1) (Nat.succ_lt_succ c));simp only[tj,e,List.length_cons];simpa using this
def cW {a b:List Trm} (G:zd 2 (yU a) d) (H:zd 2 (yU b) x) (X:a.length<=1048576) (Y:b.length<=1048576) (g:Heap):
  zA prog 298 [d,x, .fn (.func 236) [] []] g λr h'=>h'=g/\r= .int .i64 (tj a b):=by
 refine xU kr λhh=> ?_;have I:∀k:Int,below g.next (.int .i64 k):=λk=>by simp[below,zh]
 have l:=λp q h=>nT p q h;simp only[Trm.cells] at l;have V:=yp G;have W:=yp H;have z:=Ext.refl g;obtain⟨R,s⟩:∃R,tj a b=R:=⟨_,rfl⟩;rw[s];refine xO mix func298 zEp rfl rfl ?_;simp only[f298,gJ]
 repeat' first|simp only[go_sem, *]|apply bc<;>intro B
 refine zC (λk fr h=>fr 0=d/\fr 1=x/\fr 2= .fn (.func 236) [] []/\fr 11=d/\fr 12= .int .i64 (a.length:Int)/\fr 13= .int .i64 (k:Int)/\Ext g h/\k<=b.length/\∀j (h1:j<a.length) (f:j<b.length),j<k->zS a[j] b[j]=0) a.length ow ?_ ?_ ?_
 ·simp only[go_sem,true_and,and_true,Int.ofNat_zero];exact⟨z,Nat.zero_le _,λj h1 f m=>absurd m (Nat.not_lt_zero _)⟩
 ·rintro k fr h o Q ew ⟨S,T,U,u,v,w,y,D,m⟩;have O:=uH G o;have F:=FA a[k] h h.next;have e:=y.new y.1 (.row a[k].cells);simp only[Trm.cells] at O e;by_cases C:k<b.length
  ·have P:=uH H C;have t:decide ((k:Int)>=(b.length:Int))=false:=by simp only[decide_eq_false_iff_not];omega
   obtain⟨c,i⟩:∃c,h.new h.next (.row [.str a[k].a, .str a[k].b])=c:=⟨_,rfl⟩;rw[i] at F e;have N:=zK h h.next (.row [.str a[k].a, .str a[k].b]);rw[i] at N;have L:=FA b[k] c c.next;have A:=e.new e.1 (.row b[k].cells);simp only[Trm.cells] at P A;have n2:=zK c c.next (.row [.str b[k].a, .str b[k].b]);have K:h.next<c.next:=by rw[<-i,zF];omega
   have n3:(c.new c.next (.row [.str b[k].a, .str b[k].b])).at' h.next=some (.row [.str a[k].a, .str a[k].b]):=by rw[zH ow];exact N
   cases M:(zS a[k] b[k]==0) with
   |true=>
    have Z:∀j (h1:j<a.length) (f:j<b.length),j<k+1->zS a[j] b[j]=0:=λj h1 f h3=>by
     rcases Nat.lt_succ_iff_lt_or_eq.1 h3 with q|rfl
     ·exact m j h1 f q
     ·simpa using M
    have J:k+1<=b.length:=C
    repeat' first|simp only[go_sem, *]|apply bc<;>intro B|(refine zA.mono (l _ _ _) ?_;rintro r h ⟨E,rfl⟩)
    exact Z
   |false=>
    have n:=Xg o C m (by simpa using M);rw[s] at n
    repeat' first|simp only[go_sem, *]|apply bc<;>intro B|(refine zA.mono (l _ _ _) ?_;rintro r h ⟨E,rfl⟩)
  ·have t:decide ((k:Int)>=(b.length:Int))=true:=by simp only[decide_eq_true_eq];omega
   have n:=dL (a:=a) (b:=b) (λj h1 f=>m j h1 f ow);rw[ip ow,s] at n;exact au
 ·rintro fr h Q ⟨S,T,U,u,v,w,y,D,m⟩;have n:=dL (a:=a) (b:=b) (λj h1 f=>m j h1 f h1);rw[iq ow,s] at n;cases t:decide ((a.length:Int)<(b.length:Int)) with
  |true=>
   rw[ip (by have:=of_decide_eq_true t;omega)] at n
   repeat' first|simp only[go_sem, *]|apply bc<;>intro B
  |false=>
   rw[iq (by have:=of_decide_eq_false t;omega)] at n;exact au
def nU (a b:List Trm):Int:=orL [qI a.length b.length,tj a b]
def Xh {a b:List Trm} (f:zd 2 (yU a) d) (i:zd 2 (yU b) x) (c:a.length<=1048576) (e:b.length<=1048576) (g:Heap):
  zA prog 239 [d,x] g λr h'=>h'=g/\r= .int .i64 (nU a b):=by
 have m:=yp f;have n:=yp i;have h1:=fp a.length b.length;have k:=cW f i c e;have h3:=zBc (l:=[qI a.length b.length,tj a b]) (zd.mk .full) (by simp);have hr:=λnid=>zGT (qI a.length b.length) (tj a b) nid;have j:orL [qI a.length b.length,tj a b]=nU a b:=rfl;rw[j] at h3;refine xO mix func239 zFn rfl rfl ?_;simp only[f239,gJ]
 repeat' first|simp only[go_sem, *]|apply bc<;>intro j|(refine zA.mono (h1 _) ?_;rintro r h ⟨rfl,rfl⟩)|(refine zA.mono (k _) ?_;rintro r h ⟨rfl,rfl⟩)|(refine zA.mono (h3 _) ?_;rintro r h ⟨rfl,rfl⟩)
def zDT (l:List Trm) (n:Trm):Bool:=l.any λx:Trm=>n.a==x.a&&n.b==x.b
def DT {l:List Trm} (e:zd 2 (yU l) d) (f:l.length<=1048576) (n:Trm) (g:Heap):
  zA prog 300 [.agg n.cells, .iptr [d] 0] g λr h'=>h'=g/\r= .bool (!(zDT l n)):=by
 have c:=Vm e f n;have i:(l.any λx:Trm=>n.a==x.a&&n.b==x.b)=zDT l n:=rfl;rw[i] at c;refine xO mix func300 zFW rfl rfl ?_;simp only[f300,gJ];simp only[Trm.cells]
 repeat' first|simp only[go_sem, *]|apply bc<;>intro c|(refine zA.mono (c _) ?_;rintro r h ⟨rfl,rfl⟩)
def lM (a b:List Trm):Bool:= !(b.any λn=> !(zDT a n))
def Zk {a b:List Trm} (j:zd 2 (yU a) d) (k:zd 2 (yU b) x) (e:a.length<=1048576) (i:b.length<=1048576) (g:Heap):
  zA prog 241 [d,x] g λr h'=>h'=g/\r= .bool (lM a b):=by
 have c:=dK k i (f:=300) (cap:=[.iptr [d] 0]) λn _ h=>DT j e n h;have l:(b.any λn=> !(zDT a n))= !(lM a b):=by simp[lM]
 rw[l] at c;refine xO mix func241 zEP rfl rfl ?_;simp only[f241,gJ];rcases j with⟨rfl,_⟩ | ⟨_,rfl⟩
 ·repeat' first|simp only[go_sem, *]|apply bc<;>intro c|(refine zA.mono (c _) ?_;rintro r h ⟨rfl,rfl⟩)
 ·repeat' first|simp only[go_sem, *]|apply bc<;>intro c|(refine zA.mono (c _) ?_;rintro r h ⟨rfl,rfl⟩)
open List hiding max min map and or get le lt range extract
open Nat(zero_le le_refl le_trans lt_irrefl le_of_lt lt_of_lt_of_le lt_of_le_of_lt lt_succ_iff_lt_or_eq le_of_lt_succ)
structure QC {β:Type} (c:β->β->Int):Prop where
 anti:∀x y,c x y<0↔0<c y x
 trans:∀x y z,c x y<=0->c y z<=0->c x z<=0
def QC.refl {c:β->β->Int} (h:QC c) (x:β):c x x=0:=by
 have:=h.anti x x;omega
def QC.eq0 {c:β->β->Int} (h:QC c) {x y:β} (e:c x y=0):c y x=0:=by
 have h1:=h.anti x y;have a:=h.anti y x;omega
def QC.ltle {c:β->β->Int} (h:QC c) {x y z:β} (h1:c x y<0) (d:c y z<=0):c x z<0:=by
 have a:=h.trans x y z ow d;rcases Int.lt_or_eq_of_le a with q|q
 ·exact q
 ·have b:=h.trans y z x d (by rw[h.eq0 q];exact Int.le_refl _);have:=(h.anti x y).1 h1;omega
def QC.lelt {c:β->β->Int} (h:QC c) {x y z:β} (h1:c x y<=0) (d:c y z<0):c x z<0:=by
 have a:=h.trans x y z h1 ow;rcases Int.lt_or_eq_of_le a with q|q
 ·exact q
 ·have b:=h.trans z x y (by rw[h.eq0 q];exact Int.le_refl _) h1;have:=(h.anti y z).1 d;omega
def QC.key {β γ:Type} {c:β->β->Int} (h:QC c) (f:γ->β):QC λx y=>c (f x) (f y):=⟨λ_ _=>h.anti _ _,λ_ _ _=>h.trans _ _ _⟩
def Xi (a b:Int):Int:=if a=0 then b else a
def QC.lex {c d:β->β->Int} (h:QC c) (k:QC d):QC λx y=>Xi (c x y) (d x y) where
 anti x y:=by
  have h1:=h.anti x y;have h2:=h.anti y x;have h3:=k.anti x y;simp only[Xi];split<;>split<;>omega
 trans x y z h1 h2:=by
  simp only[Xi] at *
  by_cases e1:c x y=0
  ·by_cases e2:c y z=0
   ·rw[ip e1] at h1;rw[ip e2] at h2;have e3:c x z=0:=by
     have a:=h.trans x y z ow ow;have b:=h.trans z y x (by rw[h.eq0 e2];omega) (by rw[h.eq0 e1];omega);have:=h.anti z x;have:=h.anti x z;omega
    rw[ip e3];exact k.trans x y z h1 h2
   ·rw[iq e2] at h2;have:=h.lelt (x:=x) (y:=y) (z:=z) ow ow;rw[iq ow];omega
  ·rw[iq e1] at h1;by_cases e2:c y z=0
   ·have:=h.ltle (x:=x) (y:=y) (z:=z) ow ow;rw[iq ow];omega
   ·rw[iq e2] at h2;have:=h.ltle (x:=x) (y:=y) (z:=z) ow ow;rw[iq ow];omega
def jW {β:Type} (c:β->β->Int):List β->List β->Int
 | [],[]=>0
 | [],_::_=> -1
 |_::_,[]=>1
 |x::xs,y::ys=>Xi (c x y) (jW c xs ys)
theorem Xj {c:β->β->Int} (h:QC c):∀x y,jW c x y<0↔0<jW c y x
 | [],[]=>by simp[jW]
 | [],_::_=>by simp[jW]
 |_::_,[]=>by simp[jW]
 |a::x,b::y=>by
  have h1:=h.anti a b;have d:=h.anti b a;have h3:=Xj h x y;simp only[jW,Xi];split<;>split<;>omega
theorem bq {c:β->β->Int} (h:QC c):∀x y z,jW c x y<=0->jW c y z<=0->jW c x z<=0
 | [],_,[],_,_=>by simp[jW]
 | [],_,_::_,_,_=>by simp[jW]
 |_::_,[],_,h1,_=>by simp[jW] at h1
 |_::_,_::_,[],_,e=>by simp[jW] at e
 |a::x,b::y,d::z,h1,e=>by
  have f:=bq h x y z;simp only[jW,Xi] at *
  by_cases e1:c a b=0
  ·by_cases e2:c b d=0
   ·rw[ip e1] at h1;rw[ip e2] at e;have e3:c a d=0:=by
     have p:=h.trans a b d ow ow;have q:=h.trans d b a (by rw[h.eq0 e2];omega) (by rw[h.eq0 e1];omega);have:=h.anti d a;have:=h.anti a d;omega
    rw[ip e3];exact f h1 e
   ·rw[iq e2] at e;have:=h.lelt (x:=a) (y:=b) (z:=d) ow ow;rw[iq ow];omega
  ·rw[iq e1] at h1;by_cases e2:c b d=0
   ·have:=h.ltle (x:=a) (y:=b) (z:=d) ow ow;rw[iq ow];omega
   ·rw[iq e2] at e;have:=h.ltle (x:=a) (y:=b) (z:=d) ow ow;rw[iq ow];omega
def QC.list {c:β->β->Int} (h:QC c):QC (jW c):=⟨Xj h,bq h⟩
theorem Zl {c:β->β->Int} (h:∀x y,c x y=0->x=y):∀x y,jW c x y=0->x=y
 | [],[],_=>rfl
 | [],_::_,e=>by simp[jW] at e
 |_::_,[],e=>by simp[jW] at e
 |a::x,b::y,e=>by
  simp only[jW,Xi] at e;split at e
  ·rename_i q;rw[h _ _ q,Zl h x y e]
  ·exact absurd e (by assumption)
section
variable {β:Type} {c:β->β->Int}
def srt (c:β->β->Int) (l:List β):List β:=l.mergeSort λa b=> !(decide (c b a<0))
def ql (l:List β):(srt c l).Perm l:=mergeSort_perm _ _
def kW {l:List β} {x:β} :x∈srt c l↔x∈l:=(ql l).mem_iff
def br (h:QC c) (l:List β):(srt c l).Pairwise λa b=>¬c b a<0:=by
 have:=pairwise_mergeSort (le:=λa b=> !(decide (c b a<0))) (λx y z h1 i=>by
  simp only[Bool.not_eq_true',decide_eq_false_iff_not] at *
  have e:=h.anti y x;have f:=h.anti z y;have g:=h.anti z x;have:=h.trans x y z ow ow;omega) (λx y=>by
  have:=h.anti x y;simp only[Bool.or_eq_true,Bool.not_eq_true',decide_eq_false_iff_not];omega) l
 exact this.imp λd=>by simpa using d
theorem lN (h:QC c) (i:∀x y,c x y=0->x=y):∀ {l m:List β},l.Perm m->l.Pairwise (λa b=>¬c b a<0)->m.Pairwise (λa b=>¬c b a<0)->l=m
 | [],m,d,_,_=>(nil_perm.1 d).symm
 |x::l,[],d,_,_=>by cases perm_nil.1 d
 |x::l,y::m,d,h1,g=>by
  have j:x∈y::m:=d.mem_iff.1 (by simp);have k:y∈x::l:=d.mem_iff.2 (by simp);have e:x=y:=by
   rcases mem_cons.1 j with q|q
   ·exact q
   ·rcases mem_cons.1 k with f|f
    ·exact f.symm
    ·have n:=(pairwise_cons.1 h1).1 y f;have o:=(pairwise_cons.1 g).1 x q;have p:=h.anti x y;exact i _ _ (by have:=h.anti y x;omega)
  subst e;rw[lN h i (perm_cons x |>.1 d) (pairwise_cons.1 h1).2 (pairwise_cons.1 g).2]
def T5 (h:QC c) (d:∀x y,c x y=0->x=y) {l m:List β} (e:m.Perm l) (f:m.Pairwise λa b=>¬c b a<0):m=srt c l:=lN h d (e.trans (ql l).symm) f (br h l)
def LW (h:QC c) (a:∀x y,c x y=0->x=y) {l m:List β} (b:m.Perm l):srt c m=srt c l:=T5 h a ((ql m).trans b) (br h m)
def qJ (c:β->β->Int) (l:List β):Nat->List β
 |0=>[]
 |n+1=>match l[n]? with
  |none=>qJ c l n
  |some x=>match n with
   |0=>[x]
   |k+1=>match l[k]? with
    |none=>qJ c l (k+1)
    |some y=>if(c x y==0)=true then qJ c l (k+1) else qJ c l (k+1)++ [x]
def cpt (c:β->β->Int) (l:List β):List β:=qJ c l l.length
def lO {l:List β} (h:0<l.length):qJ c l 1= [l[0]]:=by simp[qJ,h]
def tQ {l:List β} (h:k+1<l.length):qJ c l (k+2)=if(c l[k+1] l[k]==0)=true then qJ c l (k+1) else qJ c l (k+1)++ [l[k+1]]:=by
 have h1:l[k+1]? =some l[k+1]:=getElem?_eq_getElem h;have a:l[k]? =some l[k]:=getElem?_eq_getElem ow;rw[qJ];simp only[h1,a]
def Vn {l:List β} {x y:β} (h1:l[k+1]? =some x) (a:l[k]? =some y):qJ c l (k+2)=if(c x y==0)=true then qJ c l (k+1) else qJ c l (k+1)++ [x]:=by
 rw[qJ];simp only[h1,a]
theorem sy {l:List β} :∀n,(qJ c l n).length<=n
 |0=>le_refl _
 |1=>by
  rw[qJ];split
  ·simp[qJ]
  ·simp
 |k+2=>by
  have a:=sy (l:=l) (k+1);rw[qJ];split
  ·omega
  ·simp only;split
   ·omega
   ·split
    ·omega
    ·rw[length_append];simp only[length_cons,length_nil];omega
theorem Zm {l:List β} (h:0<l.length):∀n,n<=l.length->0<n->0<(qJ c l n).length
 |1,_,_=>by rw[lO h];simp
 |k+2,a,_=>by
  rw[tQ ow];have:=Zm h (k+1) ow ow;split
  ·exact this
  ·rw[length_append];omega
theorem ov {l:List β} :∀n,∀x∈qJ c l n,x∈l
 |0,x,h=>by cases h
 |n+1,x,h=>by
  rw[qJ] at h;split at h
  ·exact ov n x h
  ·rename_i y e1;split at h
   ·cases mem_singleton.1 h;exact mem_of_getElem? e1
   ·split at h
    ·exact ov _ x h
    ·split at h
     ·exact ov _ x h
     ·rcases mem_append.1 h with h|h
      ·exact ov _ x h
      ·cases mem_singleton.1 h;exact mem_of_getElem? e1
theorem Zn (a:∀x y,c x y=0->x=y) {l:List β} :∀n,n<=l.length->∀x,x∈l.take n->x∈qJ c l n
 |0,_,x,h=>by simp at h
 |1,b,x,h=>by rw[lO ow];rw[take_one] at h;simp[head?_eq_getElem?,show 0<l.length by omega] at h;simp[h]
 |k+2,b,x,h=>by
  rw[tQ ow];rw[take_succ_eq_append_getElem ow] at h;rcases mem_append.1 h with h|h
  ·have:=Zn a (k+1) ow x h;split
   ·exact this
   ·exact mem_append_left _ this
  ·cases mem_singleton.1 h;split
   ·rename_i q;have d:c l[k+1] l[k]=0:=by simpa using q
    rw[a _ _ d];exact Zn a (k+1) ow _ (mem_take_iff_getElem.2 ⟨k,by omega,rfl⟩)
   ·simp
def DU (a:∀x y,c x y=0->x=y) {l:List β} {x:β} :x∈cpt c l↔x∈l:=
 ⟨ov _ _,λh=>Zn a _ (le_refl _) x (by rw[take_length];exact h)⟩
end
def wx (l:List Trm):∀x∈yU l,x.length=2:=λx a=>by
 obtain⟨y,_,rfl⟩:=mem_map.1 a;rfl
def T6 (a b:List UInt8):(o7 a b==0)=(a==b):=by
 unfold o7;split
 ·rename_i h
  have:a≠b:=λe=>by subst e;rw[Za,decide_eq_true_eq] at h;exact absurd h (List.lt_irrefl _)
  simp[this]
 ·split
  ·rename_i h;simp[h]
  ·rename_i h;simp[h]
def ox (x y:Trm):(zS x y==0)=(x.a==y.a&&x.b==y.b):=by
 unfold zS orL;have h1:=T6 x.a y.a;have c:=T6 x.b y.b;split
 ·rename_i h;rw[h] at h1;rw[<-h1,<-c];simp only[orL];split
  ·rename_i q;rw[q];rfl
  ·simp
 ·rename_i h;rw[<-h1];simp[h]
def Ih (l m:List Trm):(yU (l++m)).flatten=(yU l).flatten++(yU m).flatten:=by simp[yU]
theorem QQ {l:List Trm} (h0:l≠[]) (hl:l.length<=1048576) (L:g.at' id=some (.row (yU l).flatten)):
  zA prog 237 [.rs id 2 0 l.length] g λr h'=>r= .rs id 2 0 (cpt zS l).length/\∃rest,h'=g.set id (.row ((yU (cpt zS l)).flatten++rest)):=by
 have a8:=λ(h:Heap)=>tU (P:=prog) (t:=128) (sz:=2) (id:=id) (off:=0) (len:=l.length) (h:=h) underlying128;have A:0<l.length:=length_pos_iff.2 h0;have a4:∀x:Trm,([.str x.a, .str x.b]:List D).all D.flat=true:=λx=>rfl;have f:∀n,n<=l.length->(∀i (h:i+1<l.length),i+1<n->(zS l[i+1] l[i]==0)=false)->qJ zS l n=l.take n:=λn hn hh=>by
  induction n with
  |zero=>rfl
  |succ n ih=>
   cases n with
   |zero=>rw[lO A,take_one];simp[head?_eq_getElem?,A]
   |succ k=>
    rw[tQ ow,iq (by rw[hh k ow ow];exact Bool.false_ne_true),ih ow λi h1 N=>hh i h1 ow];exact(take_succ_eq_append_getElem ow).symm
 refine xP λQ W=> ?_;have d:(∀i (h:i+1<l.length),i+1<l.length->(zS l[i+1] l[i]==0)=false)->Q (.rs id 2 0 l.length) g:=λhh=>W _ _ (by
  have e:cpt zS l=l:=by
   have:=f l.length (le_refl _) hh;rw[take_length] at this;exact this
  rw[e];exact⟨rfl,[],by rw[append_nil,uY L]⟩)
 refine xO mix func237 zE8 rfl rfl ?_;simp only[f237,gJ];cases q1:decide ((l.length:Int)<2) with
 |true=>
  have hd:=d λi h1 N=>by have:=of_decide_eq_true q1;omega
  clear d W;simp only[go_sem, *]
 |false=>
 simp only[go_sem, *];refine yF (λi fr h=>fr 0= .rs id 2 0 l.length/\fr 3= .int .i64 ((i+1:Nat):Int)/\h=g/\i+1<=l.length/\∀j (h:j+1<l.length),j+1<i+1->(zS l[j+1] l[j]==0)=false) l.length ?_ ?_
 ·simp only[go_sem,true_and,and_true,Int.ofNat_zero];exact⟨rfl,A,λj h1 N=>by omega⟩
 rintro i fr h hi ⟨f0,f3,rfl,ad,U⟩;by_cases I:i+1<l.length
 ·have e1:decide (((i+1:Nat):Int)<(l.length:Int))=true:=decide_eq_true ow;have ew:IntKind.i64.wrap (((i+1:Nat):Int)+1)=((i+2:Nat):Int):=zq (by unfold lim;omega);have V:IntKind.i64.wrap (((i+1:Nat):Int)-1)=((i:Nat):Int):=by rw[zj ow ow];omega
  have a1:=z6 (P:=prog) (sz:=2) (id:=id) yY yt (k:= .i64) I;have a2:=z6 (P:=prog) (sz:=2) (id:=id) yY yt (k:= .i64) (show i<l.length by omega);have p1:=sG (wx l) ow (gG I);have p2:=sG (wx l) ow (gG (show i<l.length by omega));have T:=Xe l[i+1] l[i];have w:=ox l[i+1] l[i];rw[<-w] at T;clear w;simp only[Trm.cells] at p1 p2;cases v:(zS l[i+1] l[i]==0) with
  |false=>
   rw[v] at T;have hn:∀j (h:j+1<l.length),j+1<i+2->(zS l[j+1] l[j]==0)=false:=λj h1 N=>by
    by_cases e:j=i
    ·subst e;exact v
    ·exact U j h1 ow
   clear U d f q1 h0 v;simp only[go_sem, *];refine zU kr ?_;simp only[go_sem, *];exact⟨by omega,I,hn⟩
  |true=>
   rw[v] at T;have G:qJ zS l (i+2)=l.take (i+1):=by
    rw[tQ I,ip v,f (i+1) ow λj h1 N=>U j h1 N]
   have ak:=uK (P:=prog) (t:=128) (sz:=2) (id:=id) (h:=h) mi yY yt (k:= .i64) ad;clear U d f q1 h0 v;simp only[go_sem, *];refine zU kr ?_;simp only[go_sem, *];refine yF (λm fr h'=>fr 0= .rs id 2 0 l.length/\fr 4= .rs id 2 ((i+1)*2) (l.length- (i+1))/\fr 5= .int .i64 ((m+1:Nat):Int)/\i+1+(m+1)<=l.length/\∃ys:List Trm,ys.length=l.length/\h'=h.set id (.row (yU ys).flatten)/\
    (qJ zS l (i+2+m)).length<=i+1+m/\fr 3= .int .i64 (((qJ zS l (i+2+m)).length:Nat):Int)/\ys.take (qJ zS l (i+2+m)).length=qJ zS l (i+2+m)/\ys.drop (i+1+m)=l.drop (i+1+m)) l.length ?_ ?_
   ·have E:(qJ zS l (i+2)).length=i+1:=by rw[G,length_take];omega
    have F:qJ zS l (i+2+0)=qJ zS l (i+2):=rfl;have B:i+1+(0+1)<=l.length/\∃ys:List Trm,ys.length=l.length/\h=h.set id (.row (yU ys).flatten)/\
     (qJ zS l (i+2+0)).length<=i+1+0/\D.int .i64 ((i+1:Nat):Int)= .int .i64 (((qJ zS l (i+2+0)).length:Nat):Int)/\ys.take (qJ zS l (i+2+0)).length=qJ zS l (i+2+0)/\ys.drop (i+1+0)=l.drop (i+1+0):=
     ⟨by omega,l,rfl,(uY L).symm,by rw[F,E];omega,by rw[F,E],by rw[F,E,G],rfl⟩
    clear E F G;simp only[go_sem,true_and,and_true,Int.ofNat_zero];obtain⟨r0,ys,r1,r2,r3,r4,r5,r6⟩:=B;exact⟨f0,rfl,r0,ys,r1,r2,r3,f3.trans r4,r5,r6⟩
   clear G ak T p1 p2 a1 a2 f0 f3 e1 ew V;rintro m ba N hm ⟨f0,f4,f5,bb,ys,J,rfl,S,f3,q,p⟩;have C:(h.set id (.row (yU ys).flatten)).at' id=some (.row (yU ys).flatten):=zD _ _ _;have a5:=λ(H:Heap)=>tU (P:=prog) (t:=128) (sz:=2) (id:=id) (off:=(i+1)*2) (len:=l.length- (i+1)) (h:=H) underlying128;by_cases ag:m+1<l.length- (i+1)
   ·have e1:decide (((m+1:Nat):Int)<((l.length- (i+1):Nat):Int))=true:=decide_eq_true ow;have ew:IntKind.i64.wrap (((m+1:Nat):Int)+1)=((m+2:Nat):Int):=zq (by unfold lim;omega);have V:IntKind.i64.wrap (((m+1:Nat):Int)-1)=((m:Nat):Int):=by rw[zj ow ow];omega
    have a1:=wP (P:=prog) (sz:=2) (id:=id) (off:=(i+1)*2) yY yt (k:= .i64) ag;have a2:=wP (P:=prog) (sz:=2) (id:=id) (off:=(i+1)*2) yY yt (k:= .i64) (show m<l.length- (i+1) by omega);obtain⟨x,hx⟩:∃x,l[i+1+m+1]? =some x:=⟨_,getElem?_eq_getElem ow⟩;obtain⟨y,hy⟩:∃y,l[i+1+m]? =some y:=⟨_,getElem?_eq_getElem ow⟩;have g1:ys[i+1+(m+1)]? =some x:=by
     have:=congrArg (λz=>z[1]?) p;simp only[getElem?_drop] at this;rw[show i+1+(m+1)=i+1+m+1 by omega,this,hx]
    have g2:ys[i+1+m]? =some y:=by
     have:=congrArg (λz=>z[0]?) p;simp only[getElem?_drop,Nat.add_zero] at this;rw[this,hy]
    have cg:∀ (k:Nat) (x:Trm),ys[k]? =some x->(yU ys)[k]? =some x.cells:=λk x e=>by simp[yU,e]
    have p1:=pU (wx ys) ow (cg _ _ g1);have p2:=pU (wx ys) ow (cg _ _ g2);have o:qJ zS l (i+2+(m+1))=if(zS x y==0)=true then qJ zS l (i+2+m) else qJ zS l (i+2+m)++ [x]:=by
     have:=Vn (c:=zS) hx hy;rw[show i+2+(m+1)=i+1+m+2 by omega,this,show i+2+m=i+1+m+1 by omega]
    have u:∀zs:List Trm,zs.drop (i+1+m)=l.drop (i+1+m)->zs.drop (i+1+(m+1))=l.drop (i+1+(m+1)):=λzs e=>by
     have:=congrArg (List.drop 1) e;simpa [drop_drop,Nat.add_assoc] using this
    generalize hR:qJ zS l (i+2+m)=R at *
    have T:=Xe x y;have w:=ox x y;rw[<-w] at T;have aj:∀c,pj prog .neq 130 c (.agg [.str x.a, .str x.b]) (.agg [.str y.a, .str y.b])=some (.bool (!(zS x y==0))):=λc=>by
     have he:eqT prog 130=some [.s, .s]:=by kernel_rfl
     rw[w];simp only[pj,he,RX,eqK,Option.map_some,Bool.and_true,tI]
    clear w T;simp only[Trm.cells] at p1 p2;cases v:(zS x y==0) with
    |true=>
     rw[v] at aj;rw[ip v] at o;have B:m<l.length/\i+1+(m+1+1)<=l.length/\∃zs:List Trm,zs.length=l.length/\h.set id (.row (yU ys).flatten)=h.set id (.row (yU zs).flatten)/\
      (qJ zS l (i+2+(m+1))).length<=i+1+(m+1)/\D.int .i64 ((R.length:Nat):Int)= .int .i64 (((qJ zS l (i+2+(m+1))).length:Nat):Int)/\zs.take (qJ zS l (i+2+(m+1))).length=qJ zS l (i+2+(m+1))/\zs.drop (i+1+(m+1))=l.drop (i+1+(m+1)):=
      ⟨by omega,by omega,ys,J,rfl,by rw[o];omega,by rw[o],by rw[o];exact q,u _ p⟩
     clear q p u o g1 g2 cg hx hy hR S v;simp only[go_sem, *];refine zU kr ?_;simp only[go_sem, *]
    |false=>
     rw[v] at aj;rw[iq (by rw[v];exact Bool.false_ne_true)] at o;have X:R.length<l.length:=ow;have a3:=z6 (P:=prog) (sz:=2) (id:=id) yY yt (k:= .i64) X;have a6:=fY (P:=prog) (t:=130) C (wx ys) ow yt (i:=R.length) (by rw[yQ,J];exact X) (x:=[.str x.a, .str x.b]) rfl rfl;have M:(yU ys).set R.length [.str x.a, .str x.b]=yU (ys.set R.length x):=by
      have:([.str x.a, .str x.b]:List D)=x.cells:=rfl;rw[this,yU,yU,map_set]
     rw[M,pT] at a6;have a9:IntKind.i64.wrap (((R.length:Nat):Int)+1)=((R.length+1:Nat):Int):=zq (by unfold lim;omega);have B:m<l.length/\i+1+(m+1+1)<=l.length/\∃zs:List Trm,zs.length=l.length/\h.set id (.row (yU (ys.set R.length x)).flatten)=h.set id (.row (yU zs).flatten)/\
      (qJ zS l (i+2+(m+1))).length<=i+1+(m+1)/\D.int .i64 ((R.length+1:Nat):Int)= .int .i64 (((qJ zS l (i+2+(m+1))).length:Nat):Int)/\zs.take (qJ zS l (i+2+(m+1))).length=qJ zS l (i+2+(m+1))/\zs.drop (i+1+(m+1))=l.drop (i+1+(m+1)):=by
      have O:(R++ [x]).length=R.length+1:=by simp
      refine⟨by omega,by omega,ys.set R.length x,by simpa using J,rfl,by rw[o,O];omega,by rw[o,O],?_,?_⟩
      ·rw[o,O,take_succ_eq_append_getElem (by rw[length_set];omega),getElem_set_self,take_set_of_le (le_refl _),q]
      ·rw[drop_set_of_lt ow];exact u _ p
     clear q p u o g1 g2 cg hx hy hR S v M;simp only[go_sem, *];refine zU kr ?_;exact au
   ·have e1:decide (((m+1:Nat):Int)<((l.length- (i+1):Nat):Int))=false:=decide_eq_false ow;have ai:i+2+m=l.length:=ow;have Y:qJ zS l (i+2+m)=cpt zS l:=by rw[ai];rfl
    rw[Y] at q f3 S;have K:(cpt zS l).length<=l.length:=sy _;have ak:=λ(H:Heap)=>uK (P:=prog) (t:=128) (sz:=2) (id:=id) (h:=H) mi yY yt (k:= .i64) K;have bk:=λ(H:Heap)=>tN (P:=prog) (t:=128) (h:=H) mi yY (id:=id) (sz:=2) yt (k:= .i64) K;obtain⟨rest,Z⟩:=dG (P:=prog) (sz:=2) (t:=128) yY qw rfl rfl C (wx ys) (n:=(cpt zS l).length) (by rw[yQ];omega);have a0:(yU ys).take (cpt zS l).length=yU (cpt zS l):=by rw[yU,<-map_take,q];rfl
    rw[a0,pT,yQ,J] at Z;have a7:=W (.rs id 2 0 (cpt zS l).length) (h.set id (.row ((yU (cpt zS l)).flatten++rest))) ⟨rfl,rest,rfl⟩;clear q p ai Y a0 W;exact au
 ·have e1:decide (((i+1:Nat):Int)<(l.length:Int))=false:=decide_eq_false ow;have hd:=d λj h1 N=>U j h1 ow;clear U d f q1 h0 W;exact au
def Ii (l:List Trm) (n:Nat):below n (.sl 2 (yU l) .no):=z7 (Nat.zero_le _) _ (yG (sz:=2) (xs:=yU l) (λx a=>by
 obtain⟨y,_,rfl⟩:=List.mem_map.1 a;exact⟨rfl,by simp[Trm.cells,zh,below],rfl⟩) .no).2
def dM {cs rest:List D} (a:∀x∈xs,x.length=sz) (c:xs.length=n) (b:cs=xs.flatten++rest):frz id cs (.rs id sz 0 n)= .sl sz xs .no:=by
 subst b c;simp only[frz];rw[ip ⟨trivial,by rw[List.length_append,qF a];omega⟩,List.drop_zero,List.take_append_of_le_length (by rw[qF a];omega),List.take_of_length_le (by rw[qF a];omega),sZ a]
def Vo (h:Heap) (i:Nat) (o:Obj):(h.set i o).del i=h.del i:=by
 unfold Heap.set Heap.del;simp only[Heap.mk.injEq,true_and]
 funext j
 by_cases e:j=i<;>simp[e]
def Vp {l:List Trm} (h0:l≠[]) (b:l.length<=1048576) (a:g.at' id=some (.row (yU l).flatten)):
  zA prog 237 [.rs id 2 0 l.length] g λr h'=>h'=g.del id/\r= .sl 2 (yU (cpt zS l)) .no:=
 zA.freezeD ((QQ h0 b a).mono (by
  rintro r h' ⟨rfl,rest,rfl⟩;exact⟨id,_,zD _ _ _,by rw[Vo],dM (wx _) (yQ _) rfl⟩))
def LX {l:List Trm} (c:zd 2 (yU l) d) (h0:l≠[]) (j:l.length<=1048576) (h:Heap):
  zA prog 160 [d] h λr h'=>r= .rs h.next 2 0 l.length/\h'=h.new h.next (.row (yU l).flatten):=by
 rcases c with⟨rfl,f⟩ | ⟨tk,rfl⟩
 ·exact absurd (List.map_eq_nil_iff.1 f) h0
 have b:0<l.length:=List.length_pos_iff.2 h0;have e:pj prog .eql 128 true (.sl 2 (yU l) tk) .nilsl=some (.bool false):=by rw[uC (zd.mk tk) underlying128];rfl
 have i:=λnid h=>qe (P:=prog) (nid:=nid) (h:=h) yY qw yt rfl rfl (by omega:0<2);have a:zt prog true h.next 128 (.sl 2 [] .full) (.sl 2 (yU l) tk) h=some (.rs h.next 2 0 l.length,h.new h.next (.row (yU l).flatten)):=by
  rw[tu yY hA yt ow (wx l) (by rw[rc,yQ];unfold lim;omega) (by rw[yQ];unfold lim;omega),yQ,iq ow,uX underlying130]
 refine xO mix func160 Aa rfl rfl ?_;simp only[f160,gJ];simp only[qZ,go_sem,zEE,e,i,a]
def LY:QC o7 where
 anti x y:=by
  unfold o7;rw[Za,Za];rcases Std.lt_trichotomy x y with h|h|h
  ·have:=List.lt_asymm h;have n:¬x=y:=λe=>by subst e;exact this h
   simp[h,this,n,Ne.symm n]
  ·subst h;simp[List.lt_irrefl]
  ·have:=List.lt_asymm h;have n:¬x=y:=λe=>by subst e;exact this h
   simp[h,this,n,Ne.symm n]
 trans x y z h1 h2:=by
  unfold o7 at *
  rw[Za] at *
  have le1:x<y\/x=y:=by
   split at h1
   ·rename_i q;exact .inl (by simpa using q)
   ·split at h1
    ·rename_i q;exact .inr (by simpa using q)
    ·omega
  have le2:y<z\/y=z:=by
   split at h2
   ·rename_i q;exact .inl (by simpa using q)
   ·split at h2
    ·rename_i q;exact .inr (by simpa using q)
    ·omega
  have le3:x<z\/x=z:=by
   rcases le1 with a|rfl
   ·rcases le2 with b|rfl
    ·exact .inl (List.lt_trans a b)
    ·exact .inl a
   ·exact le2
  rcases le3 with a|rfl
  ·simp[a]
  ·simp[List.lt_irrefl]
def rn (x y:Trm):zS x y=Xi (o7 x.a y.a) (o7 x.b y.b):=by
 unfold zS Xi;simp only[orL];split
 ·split
  ·rename_i q;exact q.symm
  ·rfl
 ·rfl
def oH:QC zS:=by
 have:=(LY.key Trm.a).lex (LY.key Trm.b);exact⟨λx y=>by rw[rn,rn];exact this.anti x y,λx y z=>by rw[rn,rn,rn];exact this.trans x y z⟩
def lP (x y:Trm) (h:zS x y=0):x=y:=by
 have:=ox x y;rw[h] at this
 have:(x.a==y.a&&x.b==y.b)=true:=this.symm;cases x;cases y;simp only[Bool.and_eq_true,beq_iff_eq] at this;obtain⟨rfl,rfl⟩:=this;rfl
end Go.V
