/- Rules of the machine of abstract values, part 9. No condition. -/
import Derived.Test.YthcjhnmnhfgdiaaGreatDoorW32
set_option linter.all false
set_option maxHeartbeats 8000000
namespace Go.V
def fi (h0 h:Heap) (sz:Nat) (xs:List (List D)) (d:D):Prop:=Ext h0 h/\((d= .nilsl/\xs= [])\/∃id,d= .rs id sz 0 xs.length/\h.at' id=some (.row xs.flatten)/\h0.next<=id/\id<h.next/\xs≠[])
section
variable {h0 h h':Heap} {sz:Nat} {xs:List (List D)} {d:D}
def fi.start (a:Ext h0 h) (sz:Nat):fi h0 h sz [] .nilsl:=⟨a, .inl ⟨rfl,rfl⟩⟩
def fi.ext (b:fi h0 h sz xs d) (a:Ext h h'):fi h0 h' sz xs d:=by
 refine⟨b.1.trans a,?_⟩;rcases b.2 with h1| ⟨id,rfl,h1,c,h3,e⟩
 ·exact .inl h1
 ·exact .inr ⟨id,rfl,by rw[a.2 _ h3];exact h1,c,Nat.lt_of_lt_of_le h3 a.1,e⟩
def fi.flat (a:fi h0 h sz xs d):d.flat=true/\d.cells= [d]/\d.notTuple=true:=by
 rcases a.2 with⟨rfl,_⟩ | ⟨t,rfl,_⟩ <;>exact⟨rfl,rfl,rfl⟩
def fi.trunc (b:fi h0 h sz xs d) (a:∀y∈xs,y.length=sz) (x:D):qY d x h=h:=by
 rcases b.2 with⟨rfl,_⟩ | ⟨id,rfl,h1,_⟩
 ·rfl
 ·unfold qY;simp only;split
  ·rfl
  ·rw[h1];simp only;rw[iq (by rw[qD a];simp)]
variable {P:Program}{cs:List D}
def fj {e x:TypeId} (a:P.underlying e=some (.slice x)):uZ P e cs= .row cs:=by simp[uZ,a]
variable {ys:List (List D)}{tk:Tk}
def fi.app {t e:TypeId} (r:fi h0 h sz xs d) (v:qO P t=some e) (A:gB P e=true) (z:szT P e=sz) (x:0<sz) (hr:∀cs,uZ P e cs= .row cs) (g:∀y∈xs,y.length=sz) (p:∀y∈ys,y.length=sz) (c:ys≠[])
  (j:(xs.length+ys.length)*ye P e<=lim) (m:xs.length+ys.length<=lim):∃a G,zu P true h.next t d (.sl sz ys tk) h=some (a,G)/\fi h0 G sz (xs++ys) a/\qY d (.sl sz ys tk) h=h:=by
 have f:=r.trunc g (.sl sz ys tk)
 suffices∃a G,zu P true h.next t d (.sl sz ys tk) h=some (a,G)/\fi h0 G sz (xs++ys) a from by
  obtain⟨a,G,B,C⟩:=this;exact⟨a,G,B,C,f⟩
 clear f;have l:ys.flatten.length=ys.length*sz:=qD p;have q:0<ys.length:=List.length_pos_iff.2 c;obtain⟨b,u⟩:=r;simp only[zu,v,A,z,R7,if_true,l,Nat.mul_div_cancel _ x];have n:∀o,Ext h0 (h.new h.next o):=λo=>b.new b.1 o;rcases u with⟨rfl,rfl⟩ | ⟨id,rfl,h1,D,h3,E⟩
 ·refine⟨.rs h.next sz 0 ys.length,h.new h.next (.row ys.flatten),?_,n _, .inr ⟨h.next,by simp,by rw[zK];rfl,b.1,by rw[zF];omega,by simpa using c⟩⟩;simp only[qf];rw[iq ow,ip (by simp only[Bool.and_eq_true,decide_eq_true_eq];simp only[List.length_nil,Nat.zero_add] at j m;exact⟨j,m⟩)];simp[hr]
 ·have k:xs.flatten.length=xs.length*sz:=qD g;have s:Ext h0 ((h.del id).new h.next (.row (xs.flatten++ys.flatten))):=by
   refine⟨Nat.le_trans b.1 (by show h.next<=max h.next _;omega),λi w=> ?_⟩;rw[zG (by have:=b.1;omega),yI ow];exact b.2 i w
  refine⟨.rs h.next sz 0 (xs.length+ys.length),(h.del id).new h.next (.row (xs.flatten++ys.flatten)),?_,s, .inr ⟨h.next,by simp,by rw[zK,List.flatten_append],b.1,by show h.next<max h.next (h.next+1);omega,by simp[c]⟩⟩;simp only[qf,Bool.true_and,decide_true];rw[ip (by simp only[Bool.and_eq_true,decide_eq_true_eq];exact⟨j,m⟩)];simp only[h1,k,if_true,hr]
end
structure Own2 (h0 h:Heap) (s1:Nat) (xs:List (List D)) (d:D) (s2:Nat) (ys:List (List D)) (e:D):Prop where
 a:Own h0 h s1 xs d
 b:Own h0 h s2 ys e
 ap:∀i,wX d i->wX e i->False
section
variable {h0 h h':Heap} {s1 s2:Nat} {xs ys:List (List D)} {d e:D}
def Own2.start (a:Ext h0 h) (s1 s2:Nat):Own2 h0 h s1 [] .nilsl s2 [] .nilsl:=⟨Own.start a _,Own.start a _,λi h=>h.elim⟩
def Own2.ext (c:Own2 h0 h s1 xs d s2 ys e) (f:Ext h h'):Own2 h0 h' s1 xs d s2 ys e:=⟨c.a.ext f,c.b.ext f,c.ap⟩
def Own2.swap (c:Own2 h0 h s1 xs d s2 ys e):Own2 h0 h s2 ys e s1 xs d:=⟨c.b,c.a,λi q p=>c.ap i p q⟩
variable {P:Program}{tk:Tk}{t u:TypeId}{K:D->Heap->Prop}
def Own2.appH {zs:List (List D)} {w:HidR K} (g:Own2 h0 h s1 xs d s2 ys e) (v:qO P t=some u) (B:gB P u=true) (A:szT P u=s1) (z:0<s1) (p:∀y∈zs,y.length=s1) (m:zs≠[])
  (s:(xs.length+zs.length)*ye P u<=lim) (x:xs.length+zs.length<=lim) (r:∀l h',Own2 h0 h' s1 (xs++zs) l s2 ys e->K l h'):L4 (zu P false h.next t d (.sl s1 zs tk) h) K w:=
 g.a.2.1.app2 v B A z p m s x λl h' o n j tk c f=>r l h' ⟨⟨⟨Nat.le_trans g.a.1.1 n,λi k=>by rw[j i (Nat.lt_of_lt_of_le k g.a.1.1) (λq=>by have:=g.a.2.2 i q;omega)];exact g.a.1.2 i k⟩,o,λi k=>Nat.le_trans g.a.1.1 (tk i k)⟩,
  ⟨⟨Nat.le_trans g.a.1.1 n,λi k=>by rw[j i (Nat.lt_of_lt_of_le k g.a.1.1) (λq=>by have:=g.a.2.2 i q;omega)];exact g.a.1.2 i k⟩,g.b.2.1.loc n λi k=>j i (g.b.2.1.tok k).1 λq=>g.ap i q k,g.b.2.2⟩,
  λi C E=>by have:=tk i C;have:=(g.b.2.1.tok E).1;omega⟩
end
structure Lcl (W:Nat->(Nat->Prop)->Heap->Prop):Prop where
 here:∀k S h,W k S h->∀i,S i->i<h.next
 loc:∀k S h h',W k S h->h.next<=h'.next->(∀i,S i->h'.at' i=h.at' i)->W k S h'
def YLp (id:Nat) (L:LRec) (W:Nat->(Nat->Prop)->Heap->Prop) (k:Nat) (S:Nat->Prop) (h:Heap):Prop:=
 id<h.next/\h.at' id=some (.loop L)/\∃S0,W k S0 h/\¬S0 id/\∀i,S i↔(i=id\/S0 i)
def LpK (id:Nat) (L:LRec) (W:Nat->(Nat->Prop)->Heap->Prop) (k:Nat) (S0:Nat->Prop) (h:Heap) (r:D) (h':Heap):Prop:=
 r= .bool true/\∃S',(∀i,S' i->S0 i\/h.next<=i)/\But (λi=>i=id\/S0 i) h h'/\h'.at' id=some (.loop L)/\W (k+1) S' h'
section
variable {P:Program} {W:Nat->(Nat->Prop)->Heap->Prop} {id n:Nat} {L:LRec} {el:Nat->List D}
def YLp.yld (s:Lcl W) (go:∀k S0 h3,k<n->id<h3.next->h3.at' id=some (.loop L)->W k S0 h3->¬S0 id->yo P id (el k) h3 (LpK id L W k S0 h3)):Yld P id n el (YLp id L W) λ_ _=>False:=by
 refine⟨λk S h y i b=> ?_,λk S h h' y m g=> ?_,λS h o=>o.elim,λS h h' o=>o.elim,λk S h g y=> ?_⟩
 ·obtain⟨c,_,S0,d,_,a⟩:=y;rcases(a i).1 b with rfl|v
  ·exact c
  ·exact s.here _ _ _ d i v
 ·obtain⟨c,j,S0,d,f,a⟩:=y;exact⟨by omega,by rw[g id ((a id).2 (.inl rfl))];exact j,S0,s.loc _ _ _ _ d m λi b=>g i ((a i).2 (.inr b)),f,a⟩
 ·obtain⟨c,j,S0,d,f,a⟩:=y;refine(go k S0 h g c j d f).mono ?_;rintro r h' ⟨rfl,S',p,l,t,u⟩;refine⟨λi=>i=id\/S' i,λi b=> ?_,⟨l.1,λi b m=>l.2 i b λe=>m ((a i).2 e)⟩, .inl ⟨rfl,Nat.lt_of_lt_of_le c l.1,t,S',u,λe=> ?_,λi=>Iff.rfl⟩⟩
  ·rcases b with rfl|b
   ·exact .inl ((a _).2 (.inl rfl))
   ·exact(p i b).imp (λq=>(a i).2 (.inr q)) λq=>q
  ·rcases p _ e with q|q
   ·exact f q
   ·omega
variable {S0 S':Nat->Prop}{k:Nat}{fr:Frm}
def Lp.fin (f:Lcl W) {B:LRec} (b:({ B with st:= .ready,pending:=none } :LRec)=L) {h3 a:Heap} (d:id<h3.next) (j:¬S0 id) (hid:a.at' id=some (.loop B)) (c:∀i,S' i->S0 i\/h3.next<=i) (g:But (λi=>i=id\/S0 i) h3 a) (l:W (k+1) S' a) :
  wh (LpK id L W k S0 h3) id .normal fr a:=by
 refine qy hid ⟨rfl,S',c,g.set (.inl (.inl rfl)) _,by rw[zC,b],f.loc _ _ _ _ l (Nat.le_refl _) λi h=>zE λe=> ?_⟩;subst e;rcases c _ h with q|q
 ·exact j q
 ·omega
variable {f:FuncId}{args:List D}{h:Heap}{S:Nat->Prop}
def uS {a:Nat} (s:h.next=a) {Q:Exit->Frm->Heap->Prop} (d:Lcl W) (v:L.st= .ready) (u:L.pending=none) (p:W 0 S h)
  (g:Yld P a n el (YLp a L W) (λ_ _=>False)->YLp a L W 0 (λi=>i=a\/S i) (h.new a (.loop L))->zA P f args (h.new a (.loop L)) λ_ h'=>∃S',(∀j,S' j->(j=a\/S j)\/(h.new a (.loop L)).next<=j)/\But (λi=>i=a\/S i) (h.new a (.loop L)) h'/\YLp a L W n S' h')
  (go:∀k S0 h3,k<n->a<h3.next->h3.at' a=some (.loop L)->W k S0 h3->¬S0 a->yo P a (el k) h3 (LpK a L W k S0 h3))
  (m:∀S' c,(∀j,S' j->S j\/a<=j)->But S h c->W n S' c->Q .normal fr c):
  zA P f args (h.new a (.loop L)) λ_ h'=>∃r,h'.at' a=some (.loop r)/\r.st≠ .busy/\dp r.pending Q fr (h'.del a):=by
 subst s;have E:(h.new h.next (.loop L)).next=h.next+1:=zF _ _;have o:¬S h.next:=λe=>Nat.lt_irrefl _ (d.here _ _ _ p _ e);refine(g (YLp.yld d go) ⟨by omega,zK _ _ _,S,d.loc _ _ _ _ p ow λi l=>zG (by have:=d.here _ _ _ p _ l;omega),o,λi=>Iff.rfl⟩).mono ?_;rintro r c ⟨S',C,x,D,z,S0,A,w,B⟩;refine⟨L,z,(by rw[v];intro q;cases q),?_⟩;rw[u,ur];refine m S0 _ (λj y=> ?_) ⟨by have:=x.1;show h.next<=c.next;omega,λi l t=> ?_⟩ (d.loc _ _ _ _ A (Nat.le_refl _) λi l=>yI λe=>by subst e;exact w l)
 ·rcases C j ((B j).2 (.inr y)) with(q|q)|q
  ·subst q;exact absurd y w
  ·exact .inl q
  ·exact .inr ow
 ·have b:i≠h.next:=ow;rw[yI b,x.2 i ow (λe=>e.elim b t),zG b]
end
def WK (m1:Nat) (o1:Obj) (m2:Nat) (o2:Obj) (W:Nat->(Nat->Prop)->Heap->Prop) (k:Nat) (S:Nat->Prop) (h:Heap):Prop:=
 ∃S1,W k S1 h/\(m1<h.next/\m2<h.next)/\(h.at' m1=some o1/\h.at' m2=some o2)/\(¬S1 m1/\¬S1 m2)/\∀i,S i↔(i=m1\/i=m2\/S1 i)
def WK.lcl {m1 m2:Nat} {o1 o2:Obj} {W:Nat->(Nat->Prop)->Heap->Prop} (j:Lcl W):Lcl (WK m1 o1 m2 o2 W):=by
 refine⟨λk S h y i d=> ?_,λk S h h' y n e=> ?_⟩
 ·obtain⟨S1,b,⟨f,g⟩,_,_,c⟩:=y;rcases(c i).1 d with rfl|rfl|q
  ·exact f
  ·exact g
  ·exact j.here _ _ _ b i q
 ·obtain⟨S1,b,⟨f,g⟩,⟨l,c⟩,m,a⟩:=y;exact⟨S1,j.loc _ _ _ _ b n λi d=>e i ((a i).2 (.inr (.inr d))),⟨by omega,by omega⟩,⟨by rw[e m1 ((a m1).2 (.inl rfl))];exact l,by rw[e m2 ((a m2).2 (.inr (.inl rfl)))];exact c⟩,m,a⟩
variable {k i id sz n:Nat}{S S0 S':Nat->Prop}{h h' g:Heap}{P:Program}{cs args cap:List D}{ys xs:List (List D)}{tk:Tk}{t u:TypeId}{K:D->Heap->Prop}{fr:Frm}{f:FuncId}{α β:Type}{d x:D}
def WK.start {m1 m2:Nat} {o1 o2:Obj} {W:Nat->(Nat->Prop)->Heap->Prop} (b:W k S h) (h1:m1<h.next) (a:m2<h.next) (e1:h.at' m1=some o1) (e2:h.at' m2=some o2) (c:¬S m1) (d:¬S m2):WK m1 o1 m2 o2 W k (λi=>i=m1\/i=m2\/S i) h:=
 ⟨S,b,⟨h1,a⟩,⟨e1,e2⟩,⟨c,d⟩,λ_=>Iff.rfl⟩
def WK.stop {m1 m2:Nat} {o1 o2:Obj} {W:Nat->(Nat->Prop)->Heap->Prop} (e1:h.at' m1=some o1) (e2:h.at' m2=some o2) (m:∀i,S' i->(i=m1\/i=m2\/S i)\/h.next<=i) (b:But (λi=>i=m1\/i=m2\/S i) h h') (n:WK m1 o1 m2 o2 W k S' h'):
  ∃S1,(∀i,S1 i->S i\/h.next<=i)/\But S h h'/\W k S1 h':=by
 obtain⟨S1,c,_,⟨d,f⟩,⟨g,j⟩,l⟩:=n;refine⟨S1,λi a=> ?_,⟨b.1,λi a r=> ?_⟩,c⟩
 ·rcases m i ((l i).2 (.inr (.inr a))) with(rfl|rfl|q)|q
  ·exact absurd a g
  ·exact absurd a j
  ·exact .inl q
  ·exact .inr q
 ·by_cases o:i=m1
  ·subst o;rw[d,e1]
  ·by_cases p:i=m2
   ·subst p;rw[f,e2]
   ·exact b.2 i a λe=>by rcases e with q|q|q<;>contradiction
def WK.st {m1 m2:Nat} {o1 o2:Obj} {W:Nat->(Nat->Prop)->Heap->Prop} (c:WK m1 o1 m2 o2 W k S h):(h.at' m1=some o1/\h.at' m2=some o2)/\(m1<h.next/\m2<h.next):=by
 obtain⟨S1,_,b,a,_⟩:=c;exact⟨a,b⟩
def pY {α β:Type} (l:List α) (f:α->List β) (a:Nat):Nat:=((l.take a).flatMap f).length
def Rf {l:List α} {f:α->List β} {a:Nat} (h:a<l.length):pY l f (a+1)=pY l f a+(f l[a]).length:=by
 unfold pY;rw[List.take_succ_eq_append_getElem h,List.flatMap_append,List.length_append];simp
def bT (l:List α) (f:α->List β):pY l f 0=0:=by simp[pY]
def fo (l:List α) (f:α->List β):pY l f l.length=(l.flatMap f).length:=by simp[pY]
def GB {l:List α} {f:α->List β} {a b:Nat} (h:a<l.length) (c:b<(f l[a]).length):(l.flatMap f)[pY l f a+b]? =some (f l[a])[b]:=by
 have:l.flatMap f=(l.take a).flatMap f++(f l[a]++(l.drop (a+1)).flatMap f):=by
  conv=>lhs;rw[<-List.take_append_drop a l,List.drop_eq_getElem_cons h,List.flatMap_append,List.flatMap_cons]
 rw[this,List.getElem?_append_right (by unfold pY;omega)];unfold pY;rw[Nat.add_sub_cancel_left,List.getElem?_append_left c,List.getElem?_eq_getElem]
def zFR {l:List α} {f:α->List β} {a b:Nat} (h:a<l.length) (c:b<(f l[a]).length):pY l f a+b<(l.flatMap f).length:=(List.getElem?_eq_some_iff.1 (GB h c)).1
open Go.Proofs.Tryz
open Go.Proofs
set_option maxRecDepth 100000
structure Trm where
 a:List UInt8
 b:List UInt8
def Trm.cells (l:Trm):List D:=[.str l.a, .str l.b]
def yT (l:List Trm):List (List D):=l.map Trm.cells
def yQ (l:List Trm):(yT l).length=l.length:=List.length_map ..
def jw {l:List Trm} (h:i<l.length):(yT l)[i]? =some l[i].cells:=by simp[yT,h]
def yr {l:List Trm} (a:zZ 2 (yT l) d) (h:Heap):tU prog 128 d h=some (.int .i64 l.length):=by rw[yc a underlying128,yQ]
def uT {l:List Trm} (a:zZ 2 (yT l) d) (b:i<l.length):zQ prog 128 d (.int .i64 (i:Int))=some (.iptr l[i].cells 0):=zb a yX yv (jw b)
def zR (a b:Trm):Int:=orL [om a.a b.a,om a.b b.b]
def nG (a b:Trm) (g:Heap):zA prog 236 [.agg a.cells, .agg b.cells] g λr h'=>h'=g/\r= .int .i64 (zR a b):=by
 have h1:=Yz a.a b.a;have f:=Yz a.b b.b;have h3:=zAa (l:=[om a.a b.a,om a.b b.b]) (zZ.mk .full) (by simp);have hr:=λnid=>zFK (om a.a b.a) (om a.b b.b) nid;have c:orL [om a.a b.a,om a.b b.b]=zR a b:=rfl;rw[c] at h3;have d:∀h:Heap,HLe Heap.emp h:=λh i j e=>by cases e
 refine xO mix func236 zDZ rfl rfl ?_;simp only[f236,gJ];simp only[Trm.cells]
 repeat' first|simp only[go_sem, *]|apply bc<;>intro c
 refine zO Heap.emp [(0, .no,true),(1, .no,true),(2, .no,true),(3, .no,true),(5, .no,true),(6, .st,true),(7, .no,true),(8, .st,true),(4, .no,true),(9, .no,true),(10, .no,true),(11, .no,true),(12, .no,true)] kr kr (λi j e=>by cases e) ?_
 repeat' first|simp only[go_sem, *]|apply bc<;>intro c|(refine zA.mono (h1 _) ?_;rintro r h ⟨rfl,rfl⟩)|(refine zA.mono (f _) ?_;rintro r h ⟨rfl,rfl⟩)|(refine zA.mono (h3 _) ?_;rintro r h ⟨rfl,rfl⟩)
def Y9 (x y:Trm) (c:Bool):pb prog .eql 130 c (.agg [.str x.a, .str x.b]) (.agg [.str y.a, .str y.b])=some (.bool (x.a==y.a&&x.b==y.b)):=by
 have d:eqT prog 130=some [.s, .s]:=by kernel_rfl
 simp only[pb,d,Tn,eqK,Option.map_some,Bool.and_true,tE]
def Jg {l:List Trm} (q:zZ 2 (yT l) d) (D:l.length<=1048576) (n:Trm) (g:Heap):
  zA prog 373 [d, .agg [.str n.a, .str n.b]] g λr h'=>h'=g/\r= .int .i64 (Zr (λx:Trm=>n.a==x.a&&n.b==x.b) l):=by
 have s:=yr q;have heq:=Y9 n;obtain⟨p,t⟩:∃p:Trm->Bool,(λx:Trm=>n.a==x.a&&n.b==x.b)=p:=⟨_,rfl⟩;have m:∀x,(n.a==x.a&&n.b==x.b)=p x:=λx=>by rw[<-t]
 rw[t];refine xO mix func373 zDi rfl rfl ?_;simp only[f373,gJ];simp only[go_sem, *];refine zD (λi fr h=>fr 0=d/\fr 3= .iptr [.str n.a, .str n.b] 0/\fr 7= .int .i64 (l.length:Int)/\fr 8= .int .i64 (i:Int)/\h=g/\∀j (e:j<l.length),j<i->p l[j]=false) l.length ow ?_ ?_ ?_
 ·simp only[go_sem,true_and,and_true,Int.ofNat_zero];exact λj e h0=>absurd h0 (Nat.not_lt_zero _)
 ·rintro i fr h c e1 C ⟨v,w,y,z,rfl,e⟩;have u:=uT q c;simp only[Trm.cells] at u;have o:=heq l[i];rw[m] at o;cases k:p l[i] with
  |true=>
   have B:=p4 (p:=p) c e k;rw[k] at o;simp only[go_sem, *];refine zU kr ?_;simp only[go_sem, *]
  |false=>
   have A:=qM (p:=p) c e k;rw[k] at o;simp only[go_sem, *];refine zU kr ?_;simp only[go_sem, *];exact A
 ·rintro fr h e1 ⟨v,w,y,z,rfl,e⟩;have B:=p5 (p:=p) λj f=>e j f f;exact au
def VA {l:List Trm} (e:zZ 2 (yT l) d) (i:l.length<=1048576) (n:Trm) (g:Heap):
  zA prog 301 [d, .agg [.str n.a, .str n.b]] g λr h'=>h'=g/\r= .bool (l.any λx:Trm=>n.a==x.a&&n.b==x.b):=by
 have c:=Jg e i n;have f:=p0 (l:=l) (p:=λx:Trm=>n.a==x.a&&n.b==x.b);refine xO mix func301 zEk rfl rfl ?_;simp only[f301,gJ]
 repeat' first|simp only[go_sem, *]|apply bc<;>intro j|(refine zA.mono (c _) ?_;rintro r h ⟨rfl,rfl⟩)
def XA {l:List Trm} (n:zZ 2 (yT l) d) (C:l.length<=1048576) {p:Trm->Bool} (z:∀s∈l,∀h,zA prog f ([]++ [.agg s.cells]++cap) h λr h'=>h'=h/\r= .bool (p s)) (g:Heap):
  zA prog 372 [d, .fn (.func f) [] cap] g λr h'=>h'=g/\r= .int .i64 (Zr p l):=by
 have o:=yr n;refine xO mix func372 zDN rfl rfl ?_;simp only[f372,gJ]
 repeat' first|simp only[go_sem, *]|apply bc<;>intro m
 refine zD (λi fr h=>fr 1= .fn (.func f) [] cap/\fr 0=d/\fr 6=d/\fr 7= .int .i64 (l.length:Int)/\fr 8= .int .i64 (i:Int)/\h=g/\∀j (b:j<l.length),j<i->p l[j]=false) l.length ow ?_ ?_ ?_
 ·simp only[go_sem,true_and,and_true,Int.ofNat_zero];exact λj b h0=>by omega
 ·rintro i fr h a e1 B ⟨u,t,v,w,x,rfl,b⟩;have q:=uT n a;have e:=z _ (List.getElem_mem a);simp only[List.nil_append,List.cons_append,Trm.cells] at e;simp only[Trm.cells] at q;cases k:p l[i] with
  |true=>
   have A:=p4 a b k;rw[k] at e
   repeat' first|simp only[go_sem, *]|apply bc<;>intro m|(refine zA.mono (e _) ?_;rintro r h ⟨rfl,rfl⟩)
  |false=>
   have y:=qM (p:=p) a b k;rw[k] at e
   repeat' first|simp only[go_sem, *]|apply bc<;>intro m|(refine zA.mono (e _) ?_;rintro r h ⟨rfl,rfl⟩)
   exact y
 ·rintro fr h e1 ⟨u,t,v,w,x,rfl,b⟩;have A:=p5 (p:=p) λj c=>b j c c;exact au
def fp {l:List Trm} (b:zZ 2 (yT l) d) (e:l.length<=1048576) {p:Trm->Bool} (i:∀s∈l,∀h,zA prog f ([]++ [.agg s.cells]++cap) h λr h'=>h'=h/\r= .bool (p s)) (g:Heap):
  zA prog 299 [d, .fn (.func f) [] cap] g λr h'=>h'=g/\r= .bool (l.any p):=by
 have a:=XA b e i;have c:=p0 (l:=l) (p:=p);refine xO mix func299 zD3 rfl rfl ?_;simp only[f299,gJ]
 repeat' first|simp only[go_sem, *]|apply bc<;>intro j|(refine zA.mono (a _) ?_;rintro r h ⟨rfl,rfl⟩)
def GC (x:Trm) (h:Heap) (id:Nat):zP prog 130 (.ptr id 0) (.agg [.str x.a, .str x.b]) (h.new id (.row [.str [], .str []]))=some (h.new id (.row [.str x.a, .str x.b])):=zg yv ow rfl rfl rfl
def tf:List Trm->List Trm->Int
 | [],[]=>0
 | [],_::_=> -1
 |_::_,[]=>1
 |x::xs,y::ys=>if(!(zR x y==0))=true then zR x y else tf xs ys
theorem XB:∀ {a b:List Trm} {i:Nat} (f:i<a.length) (g:i<b.length),(∀j (h1:j<a.length) (d:j<b.length),j<i->zR a[j] b[j]=0)->zR a[i] b[i]≠0->tf a b=zR a[i] b[i]
 |x::xs,y::ys,0,_,_,_,h0=>by
  have c:zR x y≠0:=h0;simp[tf,c]
 |x::xs,y::ys,i+1,f,g,h,h0=>by
  have e:zR x y=0:=h 0 (by simp) (by simp) ow;have:=XB (a:=xs) (b:=ys) (i:=i) (by simpa using f) (by simpa using g) (λj h1 d h3=>h (j+1) (Nat.succ_lt_succ h1) (Nat.succ_lt_succ d) ow) (by simpa using h0);simp only[tf,e,List.getElem_cons_succ];simpa using this
theorem fq:∀ {a b:List Trm},(∀j (h1:j<a.length) (c:j<b.length),zR a[j] b[j]=0)->tf a b=if b.length<a.length then 1 else if a.length<b.length then -1 else 0
 | [],[],_=>rfl
 | [],y::ys,_=>by simp[tf]
 |x::xs,[],_=>by simp[tf]
 |x::xs,y::ys,d=>by
  have e:zR x y=0:=d 0 (by simp) (by simp);have:=fq (a:=xs) (b:=ys) (λj h1 c=>d (j+1) (Nat.succ_lt_succ h1) (Nat.succ_lt_succ c));simp only[tf,e,List.length_cons];simpa using this
def cE {a b:List Trm} (G:zZ 2 (yT a) d) (H:zZ 2 (yT b) x) (X:a.length<=1048576) (Y:b.length<=1048576) (g:Heap):
  zA prog 298 [d,x, .fn (.func 236) [] []] g λr h'=>h'=g/\r= .int .i64 (tf a b):=by
 refine xU kr λhh=> ?_;have I:∀k:Int,below g.next (.int .i64 k):=λk=>by simp[below,zf]
 have l:=λp q h=>nG p q h;simp only[Trm.cells] at l;have V:=yr G;have W:=yr H;have z:=Ext.refl g;obtain⟨R,s⟩:∃R,tf a b=R:=⟨_,rfl⟩;rw[s];refine xO mix func298 zDe rfl rfl ?_;simp only[f298,gJ]
 repeat' first|simp only[go_sem, *]|apply bc<;>intro B
 refine zD (λk fr h=>fr 0=d/\fr 1=x/\fr 2= .fn (.func 236) [] []/\fr 11=d/\fr 12= .int .i64 (a.length:Int)/\fr 13= .int .i64 (k:Int)/\Ext g h/\k<=b.length/\∀j (h1:j<a.length) (f:j<b.length),j<k->zR a[j] b[j]=0) a.length ow ?_ ?_ ?_
 ·simp only[go_sem,true_and,and_true,Int.ofNat_zero];exact⟨z,Nat.zero_le _,λj h1 f m=>absurd m (Nat.not_lt_zero _)⟩
 ·rintro k fr h o Q ew ⟨S,T,U,u,v,w,y,D,m⟩;have O:=uT G o;have F:=GC a[k] h h.next;have e:=y.new y.1 (.row a[k].cells);simp only[Trm.cells] at O e;by_cases C:k<b.length
  ·have P:=uT H C;have t:decide ((k:Int)>=(b.length:Int))=false:=by simp only[decide_eq_false_iff_not];omega
   obtain⟨c,i⟩:∃c,h.new h.next (.row [.str a[k].a, .str a[k].b])=c:=⟨_,rfl⟩;rw[i] at F e;have N:=zK h h.next (.row [.str a[k].a, .str a[k].b]);rw[i] at N;have L:=GC b[k] c c.next;have A:=e.new e.1 (.row b[k].cells);simp only[Trm.cells] at P A;have n2:=zK c c.next (.row [.str b[k].a, .str b[k].b]);have K:h.next<c.next:=by rw[<-i,zF];omega
   have n3:(c.new c.next (.row [.str b[k].a, .str b[k].b])).at' h.next=some (.row [.str a[k].a, .str a[k].b]):=by rw[zG ow];exact N
   cases M:(zR a[k] b[k]==0) with
   |true=>
    have Z:∀j (h1:j<a.length) (f:j<b.length),j<k+1->zR a[j] b[j]=0:=λj h1 f h3=>by
     rcases Nat.lt_succ_iff_lt_or_eq.1 h3 with q|rfl
     ·exact m j h1 f q
     ·simpa using M
    have J:k+1<=b.length:=C
    repeat' first|simp only[go_sem, *]|apply bc<;>intro B|(refine zA.mono (l _ _ _) ?_;rintro r h ⟨E,rfl⟩)
    exact Z
   |false=>
    have n:=XB o C m (by simpa using M);rw[s] at n
    repeat' first|simp only[go_sem, *]|apply bc<;>intro B|(refine zA.mono (l _ _ _) ?_;rintro r h ⟨E,rfl⟩)
  ·have t:decide ((k:Int)>=(b.length:Int))=true:=by simp only[decide_eq_true_eq];omega
   have n:=fq (a:=a) (b:=b) (λj h1 f=>m j h1 f ow);rw[ip ow,s] at n;exact au
 ·rintro fr h Q ⟨S,T,U,u,v,w,y,D,m⟩;have n:=fq (a:=a) (b:=b) (λj h1 f=>m j h1 f h1);rw[iq ow,s] at n;cases t:decide ((a.length:Int)<(b.length:Int)) with
  |true=>
   rw[ip (by have:=of_decide_eq_true t;omega)] at n
   repeat' first|simp only[go_sem, *]|apply bc<;>intro B
  |false=>
   rw[iq (by have:=of_decide_eq_false t;omega)] at n;exact au
def nH (a b:List Trm):Int:=orL [qJ a.length b.length,tf a b]
def XC {a b:List Trm} (f:zZ 2 (yT a) d) (i:zZ 2 (yT b) x) (c:a.length<=1048576) (e:b.length<=1048576) (g:Heap):
  zA prog 239 [d,x] g λr h'=>h'=g/\r= .int .i64 (nH a b):=by
 have m:=yr f;have n:=yr i;have h1:=fR a.length b.length;have k:=cE f i c e;have h3:=zAa (l:=[qJ a.length b.length,tf a b]) (zZ.mk .full) (by simp);have hr:=λnid=>zFK (qJ a.length b.length) (tf a b) nid;have j:orL [qJ a.length b.length,tf a b]=nH a b:=rfl;rw[j] at h3;refine xO mix func239 zEd rfl rfl ?_;simp only[f239,gJ]
 repeat' first|simp only[go_sem, *]|apply bc<;>intro j|(refine zA.mono (h1 _) ?_;rintro r h ⟨rfl,rfl⟩)|(refine zA.mono (k _) ?_;rintro r h ⟨rfl,rfl⟩)|(refine zA.mono (h3 _) ?_;rintro r h ⟨rfl,rfl⟩)
def zCK (l:List Trm) (n:Trm):Bool:=l.any λx:Trm=>n.a==x.a&&n.b==x.b
def ET {l:List Trm} (e:zZ 2 (yT l) d) (f:l.length<=1048576) (n:Trm) (g:Heap):
  zA prog 300 [.agg n.cells, .iptr [d] 0] g λr h'=>h'=g/\r= .bool (!(zCK l n)):=by
 have c:=VA e f n;have i:(l.any λx:Trm=>n.a==x.a&&n.b==x.b)=zCK l n:=rfl;rw[i] at c;refine xO mix func300 zEK rfl rfl ?_;simp only[f300,gJ];simp only[Trm.cells]
 repeat' first|simp only[go_sem, *]|apply bc<;>intro c|(refine zA.mono (c _) ?_;rintro r h ⟨rfl,rfl⟩)
def mr (a b:List Trm):Bool:= !(b.any λn=> !(zCK a n))
def ZQ {a b:List Trm} (j:zZ 2 (yT a) d) (k:zZ 2 (yT b) x) (e:a.length<=1048576) (i:b.length<=1048576) (g:Heap):
  zA prog 241 [d,x] g λr h'=>h'=g/\r= .bool (mr a b):=by
 have c:=fp k i (f:=300) (cap:=[.iptr [d] 0]) λn _ h=>ET j e n h;have l:(b.any λn=> !(zCK a n))= !(mr a b):=by simp[mr]
 rw[l] at c;refine xO mix func241 zDF rfl rfl ?_;simp only[f241,gJ];rcases j with⟨rfl,_⟩ | ⟨_,rfl⟩
 ·repeat' first|simp only[go_sem, *]|apply bc<;>intro c|(refine zA.mono (c _) ?_;rintro r h ⟨rfl,rfl⟩)
 ·repeat' first|simp only[go_sem, *]|apply bc<;>intro c|(refine zA.mono (c _) ?_;rintro r h ⟨rfl,rfl⟩)
open List hiding max min map and or get le lt range extract
open Nat(zero_le le_refl le_trans lt_irrefl le_of_lt lt_of_lt_of_le lt_of_le_of_lt lt_succ_iff_lt_or_eq le_of_lt_succ)
structure QC {β:Type} (c:β->β->Int):Prop where
 anti:∀x y,c x y<0↔0<c y x
 trans:∀x y z,c x y<=0->c y z<=0->c x z<=0
def QC.refl {c:β->β->Int} (h:QC c) (x:β):c x x=0:=by
 have:=h.anti x x;omega
def QC.eq0 {c:β->β->Int} (h:QC c) {x y:β} (e:c x y=0):c y x=0:=by
 have h1:=h.anti x y;have a:=h.anti y x;omega
def QC.ltle {c:β->β->Int} (h:QC c) {x y z:β} (h1:c x y<0) (d:c y z<=0):c x z<0:=by
 have a:=h.trans x y z ow d;rcases Int.lt_or_eq_of_le a with q|q
 ·exact q
 ·have b:=h.trans y z x d (by rw[h.eq0 q];exact Int.le_refl _);have:=(h.anti x y).1 h1;omega
def QC.lelt {c:β->β->Int} (h:QC c) {x y z:β} (h1:c x y<=0) (d:c y z<0):c x z<0:=by
 have a:=h.trans x y z h1 ow;rcases Int.lt_or_eq_of_le a with q|q
 ·exact q
 ·have b:=h.trans z x y (by rw[h.eq0 q];exact Int.le_refl _) h1;have:=(h.anti y z).1 d;omega
def QC.key {β γ:Type} {c:β->β->Int} (h:QC c) (f:γ->β):QC λx y=>c (f x) (f y):=⟨λ_ _=>h.anti _ _,λ_ _ _=>h.trans _ _ _⟩
def TJ (a b:Int):Int:=if a=0 then b else a
def QC.lex {c d:β->β->Int} (h:QC c) (k:QC d):QC λx y=>TJ (c x y) (d x y) where
 anti x y:=by
  have h1:=h.anti x y;have h2:=h.anti y x;have h3:=k.anti x y;simp only[TJ];split<;>split<;>omega
 trans x y z h1 h2:=by
  simp only[TJ] at *
  by_cases e1:c x y=0
  ·by_cases e2:c y z=0
   ·rw[ip e1] at h1;rw[ip e2] at h2;have e3:c x z=0:=by
     have a:=h.trans x y z ow ow;have b:=h.trans z y x (by rw[h.eq0 e2];omega) (by rw[h.eq0 e1];omega);have:=h.anti z x;have:=h.anti x z;omega
    rw[ip e3];exact k.trans x y z h1 h2
   ·rw[iq e2] at h2;have:=h.lelt (x:=x) (y:=y) (z:=z) ow ow;rw[iq ow];omega
  ·rw[iq e1] at h1;by_cases e2:c y z=0
   ·have:=h.ltle (x:=x) (y:=y) (z:=z) ow ow;rw[iq ow];omega
   ·rw[iq e2] at h2;have:=h.ltle (x:=x) (y:=y) (z:=z) ow ow;rw[iq ow];omega
def jG {β:Type} (c:β->β->Int):List β->List β->Int
 | [],[]=>0
 | [],_::_=> -1
 |_::_,[]=>1
 |x::xs,y::ys=>TJ (c x y) (jG c xs ys)
theorem XD {c:β->β->Int} (h:QC c):∀x y,jG c x y<0↔0<jG c y x
 | [],[]=>by simp[jG]
 | [],_::_=>by simp[jG]
 |_::_,[]=>by simp[jG]
 |a::x,b::y=>by
  have h1:=h.anti a b;have d:=h.anti b a;have h3:=XD h x y;simp only[jG,TJ];split<;>split<;>omega
theorem bU {c:β->β->Int} (h:QC c):∀x y z,jG c x y<=0->jG c y z<=0->jG c x z<=0
 | [],_,[],_,_=>by simp[jG]
 | [],_,_::_,_,_=>by simp[jG]
 |_::_,[],_,h1,_=>by simp[jG] at h1
 |_::_,_::_,[],_,e=>by simp[jG] at e
 |a::x,b::y,d::z,h1,e=>by
  have f:=bU h x y z;simp only[jG,TJ] at *
  by_cases e1:c a b=0
  ·by_cases e2:c b d=0
   ·rw[ip e1] at h1;rw[ip e2] at e;have e3:c a d=0:=by
     have p:=h.trans a b d ow ow;have q:=h.trans d b a (by rw[h.eq0 e2];omega) (by rw[h.eq0 e1];omega);have:=h.anti d a;have:=h.anti a d;omega
    rw[ip e3];exact f h1 e
   ·rw[iq e2] at e;have:=h.lelt (x:=a) (y:=b) (z:=d) ow ow;rw[iq ow];omega
  ·rw[iq e1] at h1;by_cases e2:c b d=0
   ·have:=h.ltle (x:=a) (y:=b) (z:=d) ow ow;rw[iq ow];omega
   ·rw[iq e2] at e;have:=h.ltle (x:=a) (y:=b) (z:=d) ow ow;rw[iq ow];omega
def QC.list {c:β->β->Int} (h:QC c):QC (jG c):=⟨XD h,bU h⟩
theorem ZR {c:β->β->Int} (h:∀x y,c x y=0->x=y):∀x y,jG c x y=0->x=y
 | [],[],_=>rfl
 | [],_::_,e=>by simp[jG] at e
 |_::_,[],e=>by simp[jG] at e
 |a::x,b::y,e=>by
  simp only[jG,TJ] at e;split at e
  ·rename_i q;rw[h _ _ q,ZR h x y e]
  ·exact absurd e (by assumption)
section
variable {β:Type} {c:β->β->Int}
def srt (c:β->β->Int) (l:List β):List β:=l.mergeSort λa b=> !(decide (c b a<0))
def qi (l:List β):(srt c l).Perm l:=mergeSort_perm _ _
def kF {l:List β} {x:β} :x∈srt c l↔x∈l:=(qi l).mem_iff
def bV (h:QC c) (l:List β):(srt c l).Pairwise λa b=>¬c b a<0:=by
 have:=pairwise_mergeSort (le:=λa b=> !(decide (c b a<0))) (λx y z h1 i=>by
  simp only[Bool.not_eq_true',decide_eq_false_iff_not] at *
  have e:=h.anti y x;have f:=h.anti z y;have g:=h.anti z x;have:=h.trans x y z ow ow;omega) (λx y=>by
  have:=h.anti x y;simp only[Bool.or_eq_true,Bool.not_eq_true',decide_eq_false_iff_not];omega) l
 exact this.imp λd=>by simpa using d
theorem mv (h:QC c) (i:∀x y,c x y=0->x=y):∀ {l m:List β},l.Perm m->l.Pairwise (λa b=>¬c b a<0)->m.Pairwise (λa b=>¬c b a<0)->l=m
 | [],m,d,_,_=>(nil_perm.1 d).symm
 |x::l,[],d,_,_=>by cases perm_nil.1 d
 |x::l,y::m,d,h1,g=>by
  have j:x∈y::m:=d.mem_iff.1 (by simp);have k:y∈x::l:=d.mem_iff.2 (by simp);have e:x=y:=by
   rcases mem_cons.1 j with q|q
   ·exact q
   ·rcases mem_cons.1 k with f|f
    ·exact f.symm
    ·have n:=(pairwise_cons.1 h1).1 y f;have o:=(pairwise_cons.1 g).1 x q;have p:=h.anti x y;exact i _ _ (by have:=h.anti y x;omega)
  subst e;rw[mv h i (perm_cons x |>.1 d) (pairwise_cons.1 h1).2 (pairwise_cons.1 g).2]
def TK (h:QC c) (d:∀x y,c x y=0->x=y) {l m:List β} (e:m.Perm l) (f:m.Pairwise λa b=>¬c b a<0):m=srt c l:=mv h d (e.trans (qi l).symm) f (bV h l)
def MY (h:QC c) (a:∀x y,c x y=0->x=y) {l m:List β} (b:m.Perm l):srt c m=srt c l:=TK h a ((qi m).trans b) (bV h m)
def qI (c:β->β->Int) (l:List β):Nat->List β
 |0=>[]
 |n+1=>match l[n]? with
  |none=>qI c l n
  |some x=>match n with
   |0=>[x]
   |k+1=>match l[k]? with
    |none=>qI c l (k+1)
    |some y=>if(c x y==0)=true then qI c l (k+1) else qI c l (k+1)++ [x]
def cpt (c:β->β->Int) (l:List β):List β:=qI c l l.length
def mw {l:List β} (h:0<l.length):qI c l 1= [l[0]]:=by simp[qI,h]
def tM {l:List β} (h:k+1<l.length):qI c l (k+2)=if(c l[k+1] l[k]==0)=true then qI c l (k+1) else qI c l (k+1)++ [l[k+1]]:=by
 have h1:l[k+1]? =some l[k+1]:=getElem?_eq_getElem h;have a:l[k]? =some l[k]:=getElem?_eq_getElem ow;rw[qI];simp only[h1,a]
def VB {l:List β} {x y:β} (h1:l[k+1]? =some x) (a:l[k]? =some y):qI c l (k+2)=if(c x y==0)=true then qI c l (k+1) else qI c l (k+1)++ [x]:=by
 rw[qI];simp only[h1,a]
theorem sv {l:List β} :∀n,(qI c l n).length<=n
 |0=>le_refl _
 |1=>by
  rw[qI];split
  ·simp[qI]
  ·simp
 |k+2=>by
  have a:=sv (l:=l) (k+1);rw[qI];split
  ·omega
  ·simp only;split
   ·omega
   ·split
    ·omega
    ·rw[length_append];simp only[length_cons,length_nil];omega
theorem ZS {l:List β} (h:0<l.length):∀n,n<=l.length->0<n->0<(qI c l n).length
 |1,_,_=>by rw[mw h];simp
 |k+2,a,_=>by
  rw[tM ow];have:=ZS h (k+1) ow ow;split
  ·exact this
  ·rw[length_append];omega
theorem my {l:List β} :∀n,∀x∈qI c l n,x∈l
 |0,x,h=>by cases h
 |n+1,x,h=>by
  rw[qI] at h;split at h
  ·exact my n x h
  ·rename_i y e1;split at h
   ·cases mem_singleton.1 h;exact mem_of_getElem? e1
   ·split at h
    ·exact my _ x h
    ·split at h
     ·exact my _ x h
     ·rcases mem_append.1 h with h|h
      ·exact my _ x h
      ·cases mem_singleton.1 h;exact mem_of_getElem? e1
theorem ZT (a:∀x y,c x y=0->x=y) {l:List β} :∀n,n<=l.length->∀x,x∈l.take n->x∈qI c l n
 |0,_,x,h=>by simp at h
 |1,b,x,h=>by rw[mw ow];rw[take_one] at h;simp[head?_eq_getElem?,show 0<l.length by omega] at h;simp[h]
 |k+2,b,x,h=>by
  rw[tM ow];rw[take_succ_eq_append_getElem ow] at h;rcases mem_append.1 h with h|h
  ·have:=ZT a (k+1) ow x h;split
   ·exact this
   ·exact mem_append_left _ this
  ·cases mem_singleton.1 h;split
   ·rename_i q;have d:c l[k+1] l[k]=0:=by simpa using q
    rw[a _ _ d];exact ZT a (k+1) ow _ (mem_take_iff_getElem.2 ⟨k,by omega,rfl⟩)
   ·simp
def MZ (a:∀x y,c x y=0->x=y) {l:List β} {x:β} :x∈cpt c l↔x∈l:=
 ⟨my _ _,λh=>ZT a _ (le_refl _) x (by rw[take_length];exact h)⟩
end
def wt (l:List Trm):∀x∈yT l,x.length=2:=λx a=>by
 obtain⟨y,_,rfl⟩:=mem_map.1 a;rfl
def TL (a b:List UInt8):(om a b==0)=(a==b):=by
 unfold om;split
 ·rename_i h
  have:a≠b:=λe=>by subst e;rw[ZH,decide_eq_true_eq] at h;exact absurd h (List.lt_irrefl _)
  simp[this]
 ·split
  ·rename_i h;simp[h]
  ·rename_i h;simp[h]
def oZ (x y:Trm):(zR x y==0)=(x.a==y.a&&x.b==y.b):=by
 unfold zR orL;have h1:=TL x.a y.a;have c:=TL x.b y.b;split
 ·rename_i h;rw[h] at h1;rw[<-h1,<-c];simp only[orL];split
  ·rename_i q;rw[q];rfl
  ·simp
 ·rename_i h;rw[<-h1];simp[h]
def Jh (l m:List Trm):(yT (l++m)).flatten=(yT l).flatten++(yT m).flatten:=by simp[yT]
theorem Rg {l:List Trm} (h0:l≠[]) (hl:l.length<=1048576) (L:g.at' id=some (.row (yT l).flatten)):
  zA prog 237 [.rs id 2 0 l.length] g λr h'=>r= .rs id 2 0 (cpt zR l).length/\∃rest,h'=g.set id (.row ((yT (cpt zR l)).flatten++rest)):=by
 have a9:=λ(h:Heap)=>tQ (P:=prog) (t:=128) (sz:=2) (id:=id) (off:=0) (len:=l.length) (h:=h) underlying128;have A:0<l.length:=length_pos_iff.2 h0;have a5:∀x:Trm,([.str x.a, .str x.b]:List D).all D.flat=true:=λx=>rfl;have f:∀n,n<=l.length->(∀i (h:i+1<l.length),i+1<n->(zR l[i+1] l[i]==0)=false)->qI zR l n=l.take n:=λn hn hh=>by
  induction n with
  |zero=>rfl
  |succ n ih=>
   cases n with
   |zero=>rw[mw A,take_one];simp[head?_eq_getElem?,A]
   |succ k=>
    rw[tM ow,iq (by rw[hh k ow ow];exact Bool.false_ne_true),ih ow λi h1 N=>hh i h1 ow];exact(take_succ_eq_append_getElem ow).symm
 refine xP λQ W=> ?_;have d:(∀i (h:i+1<l.length),i+1<l.length->(zR l[i+1] l[i]==0)=false)->Q (.rs id 2 0 l.length) g:=λhh=>W _ _ (by
  have e:cpt zR l=l:=by
   have:=f l.length (le_refl _) hh;rw[take_length] at this;exact this
  rw[e];exact⟨rfl,[],by rw[append_nil,wr L]⟩)
 refine xO mix func237 zDx rfl rfl ?_;simp only[f237,gJ];cases q1:decide ((l.length:Int)<2) with
 |true=>
  have hd:=d λi h1 N=>by have:=of_decide_eq_true q1;omega
  clear d W;simp only[go_sem, *]
 |false=>
 simp only[go_sem, *];refine yF (λi fr h=>fr 0= .rs id 2 0 l.length/\fr 3= .int .i64 ((i+1:Nat):Int)/\h=g/\i+1<=l.length/\∀j (h:j+1<l.length),j+1<i+1->(zR l[j+1] l[j]==0)=false) l.length ?_ ?_
 ·simp only[go_sem,true_and,and_true,Int.ofNat_zero];exact⟨rfl,A,λj h1 N=>by omega⟩
 rintro i fr h hi ⟨f0,f3,rfl,ad,U⟩;by_cases I:i+1<l.length
 ·have e1:decide (((i+1:Nat):Int)<(l.length:Int))=true:=decide_eq_true ow;have ew:IntKind.i64.wrap (((i+1:Nat):Int)+1)=((i+2:Nat):Int):=zw (by unfold lim;omega);have V:IntKind.i64.wrap (((i+1:Nat):Int)-1)=((i:Nat):Int):=by rw[zd ow ow];omega
  have a1:=z8 (P:=prog) (sz:=2) (id:=id) yX yv (k:= .i64) I;have a2:=z8 (P:=prog) (sz:=2) (id:=id) yX yv (k:= .i64) (show i<l.length by omega);have p1:=sD (wt l) ow (jw I);have p2:=sD (wt l) ow (jw (show i<l.length by omega));have T:=Y9 l[i+1] l[i];have w:=oZ l[i+1] l[i];rw[<-w] at T;clear w;simp only[Trm.cells] at p1 p2;cases v:(zR l[i+1] l[i]==0) with
  |false=>
   rw[v] at T;have hn:∀j (h:j+1<l.length),j+1<i+2->(zR l[j+1] l[j]==0)=false:=λj h1 N=>by
    by_cases e:j=i
    ·subst e;exact v
    ·exact U j h1 ow
   clear U d f q1 h0 v;simp only[go_sem, *];refine zU kr ?_;simp only[go_sem, *];exact⟨by omega,I,hn⟩
  |true=>
   rw[v] at T;have G:qI zR l (i+2)=l.take (i+1):=by
    rw[tM I,ip v,f (i+1) ow λj h1 N=>U j h1 N]
   have a0:=uF (P:=prog) (t:=128) (sz:=2) (id:=id) (h:=h) mU yX yv (k:= .i64) ad;clear U d f q1 h0 v;simp only[go_sem, *];refine zU kr ?_;simp only[go_sem, *];refine yF (λm fr h'=>fr 0= .rs id 2 0 l.length/\fr 4= .rs id 2 ((i+1)*2) (l.length- (i+1))/\fr 5= .int .i64 ((m+1:Nat):Int)/\i+1+(m+1)<=l.length/\∃ys:List Trm,ys.length=l.length/\h'=h.set id (.row (yT ys).flatten)/\
    (qI zR l (i+2+m)).length<=i+1+m/\fr 3= .int .i64 (((qI zR l (i+2+m)).length:Nat):Int)/\ys.take (qI zR l (i+2+m)).length=qI zR l (i+2+m)/\ys.drop (i+1+m)=l.drop (i+1+m)) l.length ?_ ?_
   ·have E:(qI zR l (i+2)).length=i+1:=by rw[G,length_take];omega
    have F:qI zR l (i+2+0)=qI zR l (i+2):=rfl;have B:i+1+(0+1)<=l.length/\∃ys:List Trm,ys.length=l.length/\h=h.set id (.row (yT ys).flatten)/\
     (qI zR l (i+2+0)).length<=i+1+0/\D.int .i64 ((i+1:Nat):Int)= .int .i64 (((qI zR l (i+2+0)).length:Nat):Int)/\ys.take (qI zR l (i+2+0)).length=qI zR l (i+2+0)/\ys.drop (i+1+0)=l.drop (i+1+0):=
     ⟨by omega,l,rfl,(wr L).symm,by rw[F,E];omega,by rw[F,E],by rw[F,E,G],rfl⟩
    clear E F G;simp only[go_sem,true_and,and_true,Int.ofNat_zero];obtain⟨r0,ys,r1,r2,r3,r4,r5,r6⟩:=B;exact⟨f0,rfl,r0,ys,r1,r2,r3,f3.trans r4,r5,r6⟩
   clear G a0 T p1 p2 a1 a2 f0 f3 e1 ew V;rintro m bb N hm ⟨f0,f4,f5,bk,ys,J,rfl,S,f3,q,p⟩;have C:(h.set id (.row (yT ys).flatten)).at' id=some (.row (yT ys).flatten):=zC _ _ _;have a6:=λ(H:Heap)=>tQ (P:=prog) (t:=128) (sz:=2) (id:=id) (off:=(i+1)*2) (len:=l.length- (i+1)) (h:=H) underlying128;by_cases ag:m+1<l.length- (i+1)
   ·have e1:decide (((m+1:Nat):Int)<((l.length- (i+1):Nat):Int))=true:=decide_eq_true ow;have ew:IntKind.i64.wrap (((m+1:Nat):Int)+1)=((m+2:Nat):Int):=zw (by unfold lim;omega);have V:IntKind.i64.wrap (((m+1:Nat):Int)-1)=((m:Nat):Int):=by rw[zd ow ow];omega
    have a1:=wK (P:=prog) (sz:=2) (id:=id) (off:=(i+1)*2) yX yv (k:= .i64) ag;have a2:=wK (P:=prog) (sz:=2) (id:=id) (off:=(i+1)*2) yX yv (k:= .i64) (show m<l.length- (i+1) by omega);obtain⟨x,hx⟩:∃x,l[i+1+m+1]? =some x:=⟨_,getElem?_eq_getElem ow⟩;obtain⟨y,hy⟩:∃y,l[i+1+m]? =some y:=⟨_,getElem?_eq_getElem ow⟩;have g1:ys[i+1+(m+1)]? =some x:=by
     have:=congrArg (λz=>z[1]?) p;simp only[getElem?_drop] at this;rw[show i+1+(m+1)=i+1+m+1 by omega,this,hx]
    have g2:ys[i+1+m]? =some y:=by
     have:=congrArg (λz=>z[0]?) p;simp only[getElem?_drop,Nat.add_zero] at this;rw[this,hy]
    have cg:∀ (k:Nat) (x:Trm),ys[k]? =some x->(yT ys)[k]? =some x.cells:=λk x e=>by simp[yT,e]
    have p1:=pM (wt ys) ow (cg _ _ g1);have p2:=pM (wt ys) ow (cg _ _ g2);have o:qI zR l (i+2+(m+1))=if(zR x y==0)=true then qI zR l (i+2+m) else qI zR l (i+2+m)++ [x]:=by
     have:=VB (c:=zR) hx hy;rw[show i+2+(m+1)=i+1+m+2 by omega,this,show i+2+m=i+1+m+1 by omega]
    have u:∀zs:List Trm,zs.drop (i+1+m)=l.drop (i+1+m)->zs.drop (i+1+(m+1))=l.drop (i+1+(m+1)):=λzs e=>by
     have:=congrArg (List.drop 1) e;simpa [drop_drop,Nat.add_assoc] using this
    generalize hR:qI zR l (i+2+m)=R at *
    have T:=Y9 x y;have w:=oZ x y;rw[<-w] at T;have ak:∀c,pb prog .neq 130 c (.agg [.str x.a, .str x.b]) (.agg [.str y.a, .str y.b])=some (.bool (!(zR x y==0))):=λc=>by
     have he:eqT prog 130=some [.s, .s]:=by kernel_rfl
     rw[w];simp only[pb,he,Tn,eqK,Option.map_some,Bool.and_true,tE]
    clear w T;simp only[Trm.cells] at p1 p2;cases v:(zR x y==0) with
    |true=>
     rw[v] at ak;rw[ip v] at o;have B:m<l.length/\i+1+(m+1+1)<=l.length/\∃zs:List Trm,zs.length=l.length/\h.set id (.row (yT ys).flatten)=h.set id (.row (yT zs).flatten)/\
      (qI zR l (i+2+(m+1))).length<=i+1+(m+1)/\D.int .i64 ((R.length:Nat):Int)= .int .i64 (((qI zR l (i+2+(m+1))).length:Nat):Int)/\zs.take (qI zR l (i+2+(m+1))).length=qI zR l (i+2+(m+1))/\zs.drop (i+1+(m+1))=l.drop (i+1+(m+1)):=
      ⟨by omega,by omega,ys,J,rfl,by rw[o];omega,by rw[o],by rw[o];exact q,u _ p⟩
     clear q p u o g1 g2 cg hx hy hR S v;simp only[go_sem, *];refine zU kr ?_;simp only[go_sem, *]
    |false=>
     rw[v] at ak;rw[iq (by rw[v];exact Bool.false_ne_true)] at o;have X:R.length<l.length:=ow;have a3:=z8 (P:=prog) (sz:=2) (id:=id) yX yv (k:= .i64) X;have a7:=fJ (P:=prog) (t:=130) C (wt ys) ow yv (i:=R.length) (by rw[yQ,J];exact X) (x:=[.str x.a, .str x.b]) rfl rfl;have M:(yT ys).set R.length [.str x.a, .str x.b]=yT (ys.set R.length x):=by
      have:([.str x.a, .str x.b]:List D)=x.cells:=rfl;rw[this,yT,yT,map_set]
     rw[M,rI] at a7;have ba:IntKind.i64.wrap (((R.length:Nat):Int)+1)=((R.length+1:Nat):Int):=zw (by unfold lim;omega);have B:m<l.length/\i+1+(m+1+1)<=l.length/\∃zs:List Trm,zs.length=l.length/\h.set id (.row (yT (ys.set R.length x)).flatten)=h.set id (.row (yT zs).flatten)/\
      (qI zR l (i+2+(m+1))).length<=i+1+(m+1)/\D.int .i64 ((R.length+1:Nat):Int)= .int .i64 (((qI zR l (i+2+(m+1))).length:Nat):Int)/\zs.take (qI zR l (i+2+(m+1))).length=qI zR l (i+2+(m+1))/\zs.drop (i+1+(m+1))=l.drop (i+1+(m+1)):=by
      have O:(R++ [x]).length=R.length+1:=by simp
      refine⟨by omega,by omega,ys.set R.length x,by simpa using J,rfl,by rw[o,O];omega,by rw[o,O],?_,?_⟩
      ·rw[o,O,take_succ_eq_append_getElem (by rw[length_set];omega),getElem_set_self,take_set_of_le (le_refl _),q]
      ·rw[drop_set_of_lt ow];exact u _ p
     clear q p u o g1 g2 cg hx hy hR S v M;simp only[go_sem, *];refine zU kr ?_;exact au
   ·have e1:decide (((m+1:Nat):Int)<((l.length- (i+1):Nat):Int))=false:=decide_eq_false ow;have ai:i+2+m=l.length:=ow;have Y:qI zR l (i+2+m)=cpt zR l:=by rw[ai];rfl
    rw[Y] at q f3 S;have K:(cpt zR l).length<=l.length:=sv _;have a0:=λ(H:Heap)=>uF (P:=prog) (t:=128) (sz:=2) (id:=id) (h:=H) mU yX yv (k:= .i64) K;have bo:=λ(H:Heap)=>tJ (P:=prog) (t:=128) (h:=H) mU yX (id:=id) (sz:=2) yv (k:= .i64) K;obtain⟨rest,Z⟩:=fh (P:=prog) (sz:=2) (t:=128) yX qt rfl rfl C (wt ys) (n:=(cpt zR l).length) (by rw[yQ];omega);have a4:(yT ys).take (cpt zR l).length=yT (cpt zR l):=by rw[yT,<-map_take,q];rfl
    rw[a4,rI,yQ,J] at Z;have a8:=W (.rs id 2 0 (cpt zR l).length) (h.set id (.row ((yT (cpt zR l)).flatten++rest))) ⟨rfl,rest,rfl⟩;clear q p ai Y a4 W;exact au
 ·have e1:decide (((i+1:Nat):Int)<(l.length:Int))=false:=decide_eq_false ow;have hd:=d λj h1 N=>U j h1 ow;clear U d f q1 h0 W;exact au
def Ji (l:List Trm) (n:Nat):below n (.sl 2 (yT l) .no):=zx (Nat.zero_le _) _ (yB (sz:=2) (xs:=yT l) (λx a=>by
 obtain⟨y,_,rfl⟩:=List.mem_map.1 a;exact⟨rfl,by simp[Trm.cells,zf,below],rfl⟩) .no).2
def fw {cs rest:List D} (a:∀x∈xs,x.length=sz) (c:xs.length=n) (b:cs=xs.flatten++rest):frz id cs (.rs id sz 0 n)= .sl sz xs .no:=by
 subst b c;simp only[frz];rw[ip ⟨trivial,by rw[List.length_append,qD a];omega⟩,List.drop_zero,List.take_append_of_le_length (by rw[qD a];omega),List.take_of_length_le (by rw[qD a];omega),sW a]
def VC (h:Heap) (i:Nat) (o:Obj):(h.set i o).del i=h.del i:=by
 unfold Heap.set Heap.del;simp only[Heap.mk.injEq,true_and]
 funext j
 by_cases e:j=i<;>simp[e]
def VD {l:List Trm} (h0:l≠[]) (b:l.length<=1048576) (a:g.at' id=some (.row (yT l).flatten)):
  zA prog 237 [.rs id 2 0 l.length] g λr h'=>h'=g.del id/\r= .sl 2 (yT (cpt zR l)) .no:=
 zA.freezeD ((Rg h0 b a).mono (by
  rintro r h' ⟨rfl,rest,rfl⟩;exact⟨id,_,zC _ _ _,by rw[VC],fw (wt _) (yQ _) rfl⟩))
def Ma {l:List Trm} (c:zZ 2 (yT l) d) (h0:l≠[]) (j:l.length<=1048576) (h:Heap):
  zA prog 160 [d] h λr h'=>r= .rs h.next 2 0 l.length/\h'=h.new h.next (.row (yT l).flatten):=by
 rcases c with⟨rfl,f⟩ | ⟨tk,rfl⟩
 ·exact absurd (List.map_eq_nil_iff.1 f) h0
 have b:0<l.length:=List.length_pos_iff.2 h0;have e:pb prog .eql 128 true (.sl 2 (yT l) tk) .nilsl=some (.bool false):=by rw[wv (zZ.mk tk) underlying128];rfl
 have i:=λnid h=>qe (P:=prog) (nid:=nid) (h:=h) yX qt yv rfl rfl (by omega:0<2);have a:zu prog true h.next 128 (.sl 2 [] .full) (.sl 2 (yT l) tk) h=some (.rs h.next 2 0 l.length,h.new h.next (.row (yT l).flatten)):=by
  rw[tr yX jm yv ow (wt l) (by rw[rV,yQ];unfold lim;omega) (by rw[yQ];unfold lim;omega),yQ,iq ow,uP underlying130]
 refine xO mix func160 BX rfl rfl ?_;simp only[f160,gJ];simp only[qY,go_sem,zC4,e,i,a]
def Mb:QC om where
 anti x y:=by
  unfold om;rw[ZH,ZH];rcases Std.lt_trichotomy x y with h|h|h
  ·have:=List.lt_asymm h;have n:¬x=y:=λe=>by subst e;exact this h
   simp[h,this,n,Ne.symm n]
  ·subst h;simp[List.lt_irrefl]
  ·have:=List.lt_asymm h;have n:¬x=y:=λe=>by subst e;exact this h
   simp[h,this,n,Ne.symm n]
 trans x y z h1 h2:=by
  unfold om at *
  rw[ZH] at *
  have le1:x<y\/x=y:=by
   split at h1
   ·rename_i q;exact .inl (by simpa using q)
   ·split at h1
    ·rename_i q;exact .inr (by simpa using q)
    ·omega
  have le2:y<z\/y=z:=by
   split at h2
   ·rename_i q;exact .inl (by simpa using q)
   ·split at h2
    ·rename_i q;exact .inr (by simpa using q)
    ·omega
  have le3:x<z\/x=z:=by
   rcases le1 with a|rfl
   ·rcases le2 with b|rfl
    ·exact .inl (List.lt_trans a b)
    ·exact .inl a
   ·exact le2
  rcases le3 with a|rfl
  ·simp[a]
  ·simp[List.lt_irrefl]
def rZ (x y:Trm):zR x y=TJ (om x.a y.a) (om x.b y.b):=by
 unfold zR TJ;simp only[orL];split
 ·split
  ·rename_i q;exact q.symm
  ·rfl
 ·rfl
def oD:QC zR:=by
 have:=(Mb.key Trm.a).lex (Mb.key Trm.b);exact⟨λx y=>by rw[rZ,rZ];exact this.anti x y,λx y z=>by rw[rZ,rZ,rZ];exact this.trans x y z⟩
def mz (x y:Trm) (h:zR x y=0):x=y:=by
 have:=oZ x y;rw[h] at this
 have:(x.a==y.a&&x.b==y.b)=true:=this.symm;cases x;cases y;simp only[Bool.and_eq_true,beq_iff_eq] at this;obtain⟨rfl,rfl⟩:=this;rfl
end Go.V
