/- A machine of abstract values for programs of the model, further rules, part 5. No condition. -/
import Derived.Test.YthcjhnmnhfgdiaaGreatDoorW39
set_option linter.all false
set_option maxHeartbeats 8000000
namespace Go.V
section
variable {P:Program} {W:Nat->(Nat->Prop)->Heap->Prop} {V:(Nat->Prop)->Heap->Prop} {n:Nat} {L:LRec} {el:Nat->List D}
variable {f:FuncId}{args:List D}{h:Heap}{S U:Nat->Prop}{fr:Frm}
def LO {b:Nat} (O:h.next=b) {B C D:(Nat->Prop)->Heap->Prop} {Q:Exit->Frm->Heap->Prop} (v:Lcl W) (X:Lcl λ_=>V) (p:Lcl λ_=>B) (J:Lcl λ_=>C) (K:Lcl λ_=>D) (T:L.st= .ready) (R:L.pending=none) (N:W 0 S h) (I:B U h) (Z:∀i,S i->¬U i)
  (y:Yld P b n el (YLp b L W) (ZLp b L V)->YLp b L W 0 (λi=>i=b\/S i) (h.new b (.loop L))->B U (h.new b (.loop L))->(∀i,(i=b\/S i)->¬U i)->zA P f args (h.new b (.loop L)) λ_ h'=>∃S' a,(∀j,S' j->(j=b\/S j)\/(h.new b (.loop L)).next<=j)/\(∀j,a j->U j\/(h.new b (.loop L)).next<=j)/\(∀i,S' i->¬a i)/\But (λi=>(i=b\/S i)\/U i) (h.new b (.loop L)) h'/\((YLp b L W n S' h'/\C a h')\/(ZLp b L V S' h'/\D a h')))
  (go:∀k S0 h3,k<n->b<h3.next->h3.at' b=some (.loop L)->W k S0 h3->¬S0 b->yo P b (el k) h3 (LpZ b L W V k S0 h3))
  (H:∀S' a d,(∀j,S' j->S j\/b<=j)->(∀j,a j->U j\/b<=j)->(∀i,S' i->¬a i)->But (λi=>S i\/U i) h d->W n S' d->C a d->Q .normal fr d)
  (t:∀S' a d,(∀j,S' j->S j\/b<=j)->(∀j,a j->U j\/b<=j)->(∀i,S' i->¬a i)->But (λi=>S i\/U i) h d->V S' d->D a d->Q .ret fr d):
  zA P f args (h.new b (.loop L)) λ_ h'=>∃r,h'.at' b=some (.loop r)/\r.st≠ .busy/\dp r.pending Q fr (h'.del b):=by
 subst O;have hn:(h.new h.next (.loop L)).next=h.next+1:=zF _ _;have M:¬S h.next:=λe=>Nat.lt_irrefl _ (v.here _ _ _ N _ e);have u:¬U h.next:=λe=>Nat.lt_irrefl _ (p.here 0 _ _ I _ e);refine(y (YLp.yldZ v X go) ⟨by omega,zK _ _ _,S,v.loc _ _ _ _ N ow λi c=>zG (by have:=v.here _ _ _ N _ c;omega),M,λi=>Iff.rfl⟩ (p.loc 0 _ _ _ I ow λi c=>zG (by have:=p.here 0 _ _ I _ c;omega)) (λi c=>by
  rcases c with rfl|c
  ·exact u
  ·exact Z i c)).mono ?_
 have key:∀ (S' a S0:Nat->Prop) (d:Heap),(∀j,S' j->(j=h.next\/S j)\/(h.new h.next (.loop L)).next<=j)->(∀j,a j->U j\/(h.new h.next (.loop L)).next<=j)->(∀i,S' i->¬a i)->But (λi=>(i=h.next\/S i)\/U i) (h.new h.next (.loop L)) d->¬S0 h.next->(∀i,S' i↔(i=h.next\/S0 i))->(∀j,S0 j->S j\/h.next<=j)/\(∀j,a j->U j\/h.next<=j)/\(∀i,S0 i->¬a i)/\But (λi=>S i\/U i) h (d.del h.next)/\¬a h.next:=by
  intro S' a S0 d A l g w m o;refine⟨λj z=> ?_,λj z=>(l j z).imp (λq=>q) λq=>by omega,λi c=>g i ((o i).2 (.inr c)),⟨by have:=w.1;show h.next<=d.next;omega,λi c x=> ?_⟩,g _ ((o _).2 (.inl rfl))⟩
  ·rcases A j ((o j).2 (.inr z)) with(q|q)|q
   ·subst q;exact absurd z m
   ·exact .inl q
   ·exact .inr ow
  ·have s:i≠h.next:=ow;rw[yI s,w.2 i ow (λe=>e.elim (λe=>e.elim s λq=>x (.inl q)) λq=>x (.inr q)),zG s]
 rintro r d ⟨S',a,A,l,g,w,⟨⟨Y,E,S0,F,m,o⟩,G⟩ | ⟨⟨Y,E,S0,F,m,o⟩,G⟩⟩
 ·obtain⟨k1,k2,k3,k4,k5⟩:=key S' a S0 d A l g w m o;refine⟨L,E,(by rw[T];intro q;cases q),?_⟩;rw[R,ur];exact H S0 a _ k1 k2 k3 k4 (v.loc _ _ _ _ F (Nat.le_refl _) λi c=>yI λe=>by subst e;exact m c) (J.loc 0 _ _ _ G (Nat.le_refl _) λi c=>yI λe=>by subst e;exact k5 c)
 ·obtain⟨k1,k2,k3,k4,k5⟩:=key S' a S0 d A l g w m o;refine⟨_,E,(by intro q;cases q),?_⟩;simp only[mc];exact t S0 a _ k1 k2 k3 k4 (X.loc 0 _ _ _ F (Nat.le_refl _) λi c=>yI λe=>by subst e;exact m c) (K.loc 0 _ _ _ G (Nat.le_refl _) λi c=>yI λe=>by subst e;exact k5 c)
end
open List hiding max min map and or get le lt range extract
open Nat(zero_le le_refl le_trans lt_irrefl le_of_lt lt_of_lt_of_le lt_of_le_of_lt lt_succ_iff_lt_or_eq le_of_lt_succ)
open Go.Proofs
set_option maxRecDepth 100000
def Xo (c:Cat) (fs:List Fac) (p:Part):Option Vio:=(dR c fs (Zj p)).head?
structure Nd where
 var:Int
 kids:List Int
 vio:Option Vio
def rL (c:Cat) (fs:List Fac):Nat->Part->List Part
 |0,p=>if(Xo c fs p).isSome=true then [] else [p]
 |m+1,p=>if(Xo c fs p).isSome=true then [] else match nxV c fs p with
  |none=>[p]
  |some v=>(List.range (szV c fs v)).flatMap λk=>rL c fs m (t6 c fs p v k)
def qd (f:Nat->Nat->List Nd):Nat->Nat->List Int×List Nd
 |0,_=>([],[])
 |k+1,n=>((qd f k n).1++ [((n+(qd f k n).2.length:Nat):Int)],(qd f k n).2++f k (n+(qd f k n).2.length))
def uI (c:Cat) (fs:List Fac):Nat->Part->Nat->List Nd
 |0,p,_=>match Xo c fs p with
  |some v=>[⟨-1,[],some v⟩]
  |none=>[]
 |m+1,p,n=>match Xo c fs p with
  |some v=>[⟨-1,[],some v⟩]
  |none=>match nxV c fs p with
   |none=>[]
   |some v=>⟨(v:Int),(qd (λk n'=>uI c fs m (t6 c fs p v k) n') (szV c fs v) (n+1)).1,none⟩ ::(qd (λk n'=>uI c fs m (t6 c fs p v k) n') (szV c fs v) (n+1)).2
def opn (c:Cat) (fs:List Fac) (p:Part):Nat:=((List.range (ctV c fs)).filter (uC c fs p)).length
variable {c:Cat}{fs:List Fac}{p:Part}{f:FuncId}{args:List D}{h h' g:Heap}{S U S0:Nat->Prop}{fr:Frm}{xs:List (List D)}{sz i nid j:Nat}{d:D}
def j9 {v:Nat} (h:nxV c fs p=some v):v<ctV c fs/\uC c fs p v=true/\∀j,j<v->uC c fs p j=false:=by
 unfold nxV at h;rw[find?_eq_some_iff_getElem] at h;obtain⟨h1,i,b,a,h3⟩:=h;simp at a b;subst a;exact⟨b,h1,λj d=>by have:=h3 j d;simp at this;exact this⟩
def zBG (h:(za c fs).2.2=0):tK c=0:=by
 unfold za at h;split at h
 ·rename_i q;rw[h] at q;exact absurd q (by decide)
 ·rename_i q;exact VM (by simpa using q)
def DM (h:tK c=0) {x:Lic} (b:x∈c.ls):x.name≠[]:=λe=>by
 have h1:c.e1=0:=by
  unfold tK at h;split at h
  ·exact absurd h (by decide)
  ·split at h
   ·rename_i q;rw[h] at q;exact absurd q (by decide)
   ·simp_all
 obtain⟨i,a,rfl⟩:=mem_iff_getElem.1 b;have:=lE h1 i a;unfold atE at this;rw[getElem?_eq_getElem a] at this;simp only[mh] at this;rw[ip (by rw[e];rfl)] at this;cases this
def LP (h:POk c fs p) (h0:(za c fs).2.2=0) {v k:Nat} (j:v<ctV c fs) (a:k<szV c fs v) (w:Nat):deV c fs (t6 c fs p v k) w=(decide (w=v)||deV c fs p w):=by
 unfold t6;unfold szV at a;by_cases f:v<(tV c fs).length
 ·rw[ip f] at a⊢;unfold deV;by_cases b:w<(tV c fs).length
  ·simp only[ip b];by_cases e:w=v
   ·subst e;have d:w<p.ts.length:=by rw[h.tl];exact b
    rw[decide_eq_true rfl,Bool.true_or,getD_eq_getElem?_getD,getElem?_set_self d,Option.getD_some,decide_eq_true_eq];have g:((tV c fs).getD w []).getD k []≠[]:=by
     rw[getD_eq_getElem?_getD (l:=(tV c fs).getD w []),getElem?_eq_getElem a];have i:(tV c fs).getD w []∈tV c fs:=by rw[getD_eq_getElem?_getD,getElem?_eq_getElem b];exact getElem_mem _
     exact((tN _ i).2.ts _ (getElem_mem a)).1
    exact length_pos_iff.2 g
   ·rw[decide_eq_false e,Bool.false_or,getD_eq_getElem?_getD,getElem?_set_ne (λq=>e q.symm),<-getD_eq_getElem?_getD]
  ·simp only[iq b];rw[decide_eq_false (show¬w=v by omega),Bool.false_or]
 ·rw[iq f] at a⊢;unfold deV;by_cases b:w<(tV c fs).length
  ·simp only[ip b];rw[decide_eq_false (show¬w=v by omega),Bool.false_or]
  ·simp only[iq b];by_cases e:w=v
   ·subst e;have d:w- (tV c fs).length<p.own.length:=by rw[h.ol];unfold ctV at j;omega
    rw[decide_eq_true rfl,Bool.true_or,getD_eq_getElem?_getD,getElem?_set_self d,Option.getD_some,kP a];have:=DM (zBG h0) (getElem_mem a);simp[this]
   ·rw[decide_eq_false e,Bool.false_or,getD_eq_getElem?_getD,getElem?_set_ne ow,<-getD_eq_getElem?_getD]
def LQ (g:POk c fs p) (h0:(za c fs).2.2=0) {v k:Nat} (i:nxV c fs p=some v) (f:k<szV c fs v):opn c fs (t6 c fs p v k)<opn c fs p:=by
 obtain⟨h1,d,_⟩:=j9 i;have key:∀l:List Nat,(l.filter (uC c fs (t6 c fs p v k))).length<=(l.filter (uC c fs p)).length/\(v∈l->(l.filter (uC c fs (t6 c fs p v k))).length<(l.filter (uC c fs p)).length):=λl=>by
  induction l with
  |nil=>exact⟨le_refl _,λh=>by cases h⟩
  |cons w l a=>
   have b:uC c fs (t6 c fs p v k) w=(!decide (w=v)&&uC c fs p w):=by
    unfold uC;rw[LP g h0 h1 f];cases decide (w=v)<;>cases decide (1<szV c fs w)<;>cases deV c fs p w<;>rfl
   by_cases e:w=v
   ·subst e;rw[filter_cons,filter_cons,b,d];simp only[decide_true,Bool.not_true,Bool.false_and,Bool.false_eq_true,if_false,if_true,length_cons];exact⟨by omega,λ_=>by omega⟩
   ·rw[filter_cons,filter_cons,b,decide_eq_false e,Bool.not_false,Bool.true_and];split
    ·simp only[length_cons];exact⟨by omega,λh=>by have:=a.2 ((mem_cons.1 h).resolve_left λq=>e q.symm);omega⟩
    ·exact⟨a.1,λh=>a.2 ((mem_cons.1 h).resolve_left λq=>e q.symm)⟩
 exact(key _).2 (mem_range.2 h1)
open Go.Proofs.Tryz
def J9:∀ {a j:Nat} {x:List D},(∀y∈xs,y.length=sz)->xs[a]? =some x->j<sz->xs.flatten[a*sz+j]? =x[j]? :=by
 induction xs with
 |nil=>intro a j x _ h;cases h
 |cons z xs f=>
  intro a j x b h c;have e:=b z mem_cons_self;cases a with
  |zero=>cases h;rw[flatten_cons,Nat.zero_mul,Nat.zero_add,getElem?_append_left ow]
  |succ a=>
   rw[flatten_cons,getElem?_append_right (by rw[Nat.succ_mul];omega),e,show(a+1)*sz+j-sz=a*sz+j by rw[Nat.succ_mul];omega];exact f (λy d=>b y (mem_cons_of_mem _ d)) h c
def IA {w:D} :∀ {a j:Nat} {x:List D},(∀y∈xs,y.length=sz)->xs[a]? =some x->j<sz->xs.flatten.set (a*sz+j) w=(xs.set a (x.set j w)).flatten:=by
 induction xs with
 |nil=>intro a j x _ h;cases h
 |cons z xs f=>
  intro a j x b h c;have e:=b z mem_cons_self;cases a with
  |zero=>cases h;rw[flatten_cons,Nat.zero_mul,Nat.zero_add,set_append_left _ _ ow];rfl
  |succ a=>
   rw[flatten_cons,set_append_right _ _ (by rw[Nat.succ_mul];omega),e,show(a+1)*sz+j-sz=a*sz+j by rw[Nat.succ_mul];omega,f (λy d=>b y (mem_cons_of_mem _ d)) h c];rfl
def GK:Option Vio->List D
 |none=>[.int .i64 0, .nilsl]
 |some v=>v.cells
def ndC (m:Nd×D):List D:= .int .i64 m.1.var::m.2::GK m.1.vio
def LR (m:Nd×D):(ndC m).length=4:=by obtain⟨⟨v,k,o⟩,d⟩:=m;cases o<;>rfl
def og (M:List (Nd×D)):∀x∈M.map ndC,x.length=4:=λx a=>by
 obtain⟨m,_,rfl⟩:=mem_map.1 a;exact LR m
def NdH (nid:Nat) (L:List Nd) (S:Nat->Prop) (h:Heap):Prop:=
 nid<h.next/\∃ (d:D) (M:List (Nd×D)),h.at' nid=some (.row [d])/\TY h 4 (M.map ndC) d/\¬lL d nid/\M.map Prod.fst=L/\(∀m∈M,wW h 1 (qG m.1.kids) m.2)/\(∀ (a b:Nat) m m' i,M[a]? =some m->M[b]? =some m'->wX m.2 i->wX m'.2 i->a=b)/\∀i,S i↔(i=nid\/lL d i\/∃m∈M,wX m.2 i)
def TY.row (o:TY h sz xs d) (a:lL d i):i<h.next/\d= .rs i sz 0 xs.length/\h.at' i=some (.row xs.flatten):=by
 rcases o with⟨rfl,_⟩ | ⟨id,rfl,h1,b,_⟩
 ·exact a.elim
 ·cases a;exact⟨b,rfl,h1⟩
def NdH.here {L:List Nd} (H:NdH nid L S h) (i:Nat) (c:S i):i<h.next:=by
 obtain⟨h0,d,M,h1,a,h3,f,h5,g,b⟩:=H;rcases(b i).1 c with rfl|q| ⟨m,e,q⟩
 ·exact h0
 ·exact(a.row q).1
 ·exact((h5 m e).tok q).1
def NdH.loc {L:List Nd} (H:NdH nid L S h) (f:h.next<=h'.next) (c:∀i,S i->h'.at' i=h.at' i):NdH nid L S h':=by
 obtain⟨h0,d,M,h1,g,h3,j,h5,k,a⟩:=H;exact⟨by omega,d,M,by rw[c _ ((a _).2 (.inl rfl))];exact h1,g.loc f λi b=>c i ((a i).2 (.inr (.inl b))),h3,j,λm e=>(h5 m e).loc f λi b=>c i ((a i).2 (.inr (.inr ⟨m,e,b⟩))),k,a⟩
def NdH.len {L:List Nd} (H:NdH nid L S h):∃d,h.at' nid=some (.row [d])/\∀h',tU prog 35 d h'=some (.int .i64 L.length):=by
 obtain⟨h0,d,M,h1,a,h3,rfl,h5,b,c⟩:=H;refine⟨d,h1,λh'=> ?_⟩;rw[length_map];rcases a with⟨rfl,e⟩ | ⟨id,rfl,_⟩
 ·have:M= []:=by simpa using e
  subst this;exact yc (zZ.nil (sz:=4)) underlying35
 ·rw[tQ underlying35,length_map]
def NdH.app {L:List Nd} (H:NdH nid L S h) (v:Int) (o:Option Vio) (O:L.length<1048576):
  ∃d,h.at' nid=some (.row [d])/\(∀z,qY d z h=h)/\∃r G w,zu prog true h.next 35 d (.sl 4 [ndC (⟨v,[],o⟩, .nilsl)] .full) h=some (r,G)/\zP prog 35 (.ptr nid 0) r G=some w/\G.at' nid=some (.row [d])/\(∀i,i<h.next->¬S i->G.at' i=h.at' i)/\∃S',NdH nid (L++ [⟨v,[],o⟩]) S' w/\(∀i,S' i->S i\/h.next<=i)/\But S h w:=by
 obtain⟨h0,d,M,h1,x,h3,rfl,h5,I,l⟩:=H;have p:(M.map ndC).length=M.length:=length_map ..;rw[length_map] at O;obtain⟨g,j,B,C⟩:=TY.app (P:=prog) (nid:=h.next) (tk:= .full) x mR FE cz ow (λcs=>uP underlying67) (og M) (ys:=[ndC (⟨v,[],o⟩, .nilsl)]) (λy Q=>by rw[mem_singleton.1 Q];exact LR _) (by simp) (by rw[p,Q1];unfold lim;simp;omega) (by rw[p];unfold lim;simp;omega);have E:M.map ndC++ [ndC (⟨v,[],o⟩, .nilsl)]=(M++ [((⟨v,[],o⟩:Nd),D.nilsl)]).map ndC:=by simp
 rw[E] at j;obtain⟨G,J,K,A,c⟩:∃G:Heap,g.new h.next (.row ((M++ [((⟨v,[],o⟩:Nd),D.nilsl)]).map ndC).flatten)=G/\G.next=h.next+1/\G.at' h.next=some (.row ((M++ [((⟨v,[],o⟩:Nd),D.nilsl)]).map ndC).flatten)/\∀i,i<h.next->¬lL d i->G.at' i=h.at' i:=
  ⟨_,rfl,by rw[<-B,zF],zK _ _ _,λi f k=>by rw[zG ow,C i k]⟩
 rw[J] at j;have u:G.at' nid=some (.row [d]):=by rw[c _ h0 h3,h1]
 have N:∀n:Nat,(M++ [((⟨v,[],o⟩:Nd),D.nilsl)]).map ndC≠[]:=λ_=>by simp
 refine⟨d,h1,x.trunc (og M),_,G,G.set nid (.row [.rs h.next 4 0 ((M++ [((⟨v,[],o⟩:Nd),D.nilsl)]).map ndC).length]),j,by rw[zS u BI (by simp) rfl rfl];rfl,u,λi f k=>c i f λe=>k ((l _).2 (.inr (.inl e))),λi=>i=nid\/i=h.next\/∃m∈M,wX m.2 i,⟨by rw[zT];omega,_,M++ [((⟨v,[],o⟩:Nd),D.nilsl)],zC _ _ _, .inr ⟨h.next,rfl,by rw[zE ow];exact A,by rw[zT];omega,N 0⟩,λe=>by cases e;omega,by simp,λm s=> ?_,λa b m F i e1 e2 t1 t2=> ?_,λi=> ?_⟩,λi f=> ?_,⟨by rw[zT];omega,λi f k=> ?_⟩⟩
 ·rcases mem_append.1 s with q|q
  ·refine(h5 m q).loc (by rw[zT];omega) λi f=> ?_;obtain⟨t1,t2⟩:=(h5 m q).tok f;have R:i≠nid:=λe=>by rw[e,h1] at t2;cases t2
   rw[zE R,c i t1 λe=>by rw[(x.row e).2.2] at t2;cases t2]
  ·rw[mem_singleton.1 q];exact .inl ⟨rfl,rfl⟩
 ·have key:∀ (a:Nat) m,(M++ [((⟨v,[],o⟩:Nd),D.nilsl)])[a]? =some m->wX m.2 i->M[a]? =some m:=λa m e t=>by
   rcases Nat.lt_or_ge a M.length with q|q
   ·rw[<-e,getElem?_append_left q]
   ·rw[getElem?_append_right q] at e;have:=mem_singleton.1 (mem_of_getElem? e);subst this;exact t.elim
  exact I a b m F i (key a m e1 t1) (key b F e2 t2) t1 t2
 ·constructor
  ·rintro(q|q| ⟨m,s,q⟩)
   ·exact .inl q
   ·exact .inr (.inl q)
   ·exact .inr (.inr ⟨m,mem_append_left _ s,q⟩)
  ·rintro(q|q| ⟨m,s,q⟩)
   ·exact .inl q
   ·exact .inr (.inl q)
   ·rcases mem_append.1 s with h|h
    ·exact .inr (.inr ⟨m,h,q⟩)
    ·rw[mem_singleton.1 h] at q;exact q.elim
 ·rcases f with rfl|rfl|q
  ·exact .inl ((l _).2 (.inl rfl))
  ·exact .inr (le_refl _)
  ·exact .inl ((l _).2 (.inr (.inr q)))
 ·rw[zE (λe=>k ((l _).2 (.inl e))),c i f λe=>k ((l _).2 (.inr (.inl e)))]
theorem NdH.kid {L:List Nd} (H:NdH nid L S h) {a:Nat} {nd:Nd} (r:L[a]? =some nd) (n:Int) (hl:nd.kids.length<1048576):
  ∃f N,h.at' nid=some (.row [.rs f 4 0 N])/\nid<h.next/\f<h.next/\N=L.length/\∃cs R,h.at' f=some (.row cs)/\cs[a*4+1]? =some R/\∃g G A,zu prog false h.next 45 R (.sl 1 [[.int .i64 n]] .full) h=some (g,G)/\zP prog 45 (.ptr f (a*4+1)) g G=some A/\G.at' nid=some (.row [.rs f 4 0 N])/\G.at' f=some (.row cs)/\∃S',NdH nid (L.set a { nd with kids:=nd.kids++ [n] }) S' A/\(∀i,S' i->S i\/h.next<=i)/\But S h A:=by
 obtain⟨h0,d,M,h1,Y,h3,rfl,h5,O,p⟩:=H;rw[getElem?_map] at r;obtain⟨m,u,rfl⟩:∃m,M[a]? =some m/\m.1=nd:=by
  cases q:M[a]? with
  |none=>rw[q] at r;cases r
  |some m=>rw[q] at r;exact⟨m,rfl,by cases r;rfl⟩
 have o:=mem_of_getElem? u;have Z:=(List.getElem?_eq_some_iff.1 u).1;rcases Y with⟨rfl,e⟩ | ⟨f,rfl,r1,r2,r3⟩
 ·have:M= []:=by simpa using e
  subst this;cases u
 have v:(M.map ndC)[a]? =some (ndC m):=by rw[getElem?_map,u];rfl
 obtain⟨g,G,e1,e2,e3,y,J,W,X⟩:=(h5 m o).app4 (P:=prog) (x:= .sl 1 [[.int .i64 n]] .full) (ys:=qG [n]) yJ YP wc ow lK (.inr ⟨by simp[qG], .full,rfl⟩) (by rw[yN,mO];unfold lim;simp[qG];omega) (by rw[yN];unfold lim;simp[qG];omega);have E:qG m.1.kids++qG [n]=qG (m.1.kids++ [n]):=by simp[qG]
 rw[E] at e2;have U:∀i V,h.at' i=some (.row V)->¬wX m.2 i:=λi V e t=>by rw[((h5 m o).tok t).2] at e;cases e
 have K:G.at' nid=some (.row [.rs f 4 0 (M.map ndC).length]):=by rw[y _ h0 (U _ _ h1),h1]
 have z:G.at' f=some (.row (M.map ndC).flatten):=by rw[y _ r2 (U _ _ r1),r1]
 have F:nid≠f:=λe=>h3 e;have D:(M.map ndC).flatten.length=M.length*4:=by rw[qD (og M),length_map]
 have w:(M.map ndC).flatten.set (a*4+1) g=((M.set a ({ m.1 with kids:=m.1.kids++ [n] },g)).map ndC).flatten:=by
  rw[IA (og M) v ow,map_set];rfl
 refine⟨f,_,h1,h0,r2,by simp,(M.map ndC).flatten,m.2,r1,by rw[J9 (og M) v ow];rfl,g,G,G.set f (.row ((M.set a ({ m.1 with kids:=m.1.kids++ [n] },g)).map ndC).flatten),e1,by rw[zS z BK (by rw[D];omega) W X,w],K,z,λi=>i=nid\/i=f\/∃k∈M.set a ({ m.1 with kids:=m.1.kids++ [n] },g),wX k.2 i,⟨by rw[zT];omega,_,M.set a ({ m.1 with kids:=m.1.kids++ [n] },g),by rw[zE F];exact K, .inr ⟨f,by simp,zC _ _ _,by rw[zT];omega,by rw[map_set];simpa using r3⟩,h3,by rw[map_set],λk l=> ?_,λI b' m1 m2 i q1 q2 t1 t2=> ?_,λi=>Iff.rfl⟩,λi j=> ?_,⟨by rw[zT];exact e3,λi j Q=> ?_⟩⟩
 ·rcases mem_or_eq_of_mem_set l with q|rfl
  ·obtain⟨b,hb,rfl⟩:=mem_iff_getElem.1 l;rw[getElem_set] at q⊢;split
   ·exact e2.loc (by rw[zT];exact le_refl _) λi j=>by rw[zE λe=>by have:=(e2.tok j).2;rw[e,z] at this;cases this]
   ·rename_i B;have C:b<M.length:=by simpa using hb
    have s:M[b]∈M:=getElem_mem _;refine(h5 _ s).loc (by rw[zT];exact e3) λi j=> ?_;obtain⟨t1,t2⟩:=(h5 _ s).tok j;rw[zE (λe=>by rw[e,r1] at t2;cases t2),y i t1 λt=>B (O a b m _ i u (getElem?_eq_getElem C) t j)]
  ·exact e2.loc (by rw[zT];exact le_refl _) λi j=>by rw[zE λe=>by have:=(e2.tok j).2;rw[e,z] at this;cases this]
 ·have key:∀ (c:Nat) k,(M.set a ({ m.1 with kids:=m.1.kids++ [n] },g))[c]? =some k->wX k.2 i->(c=a/\h.next<=i)\/(c≠a/\M[c]? =some k/\i<h.next):=λc k e t=>by
   rw[getElem?_set] at e;split at e
   ·rename_i q;cases e;exact .inl ⟨q.symm,J i t⟩
   ·rename_i q;exact .inr ⟨λe=>q e.symm,e,((h5 k (mem_of_getElem? e)).tok t).1⟩
  rcases key I m1 q1 t1 with⟨k1,k2⟩ | ⟨k1,k2,k3⟩ <;>rcases key b' m2 q2 t2 with⟨l1,T⟩ | ⟨l1,T,l3⟩
  ·omega
  ·omega
  ·omega
  ·exact O I b' m1 m2 i k2 T t1 t2
 ·rcases j with rfl|rfl| ⟨k,l,t⟩
  ·exact .inl ((p _).2 (.inl rfl))
  ·exact .inl ((p _).2 (.inr (.inl rfl)))
  ·rcases mem_or_eq_of_mem_set l with q|rfl
   ·exact .inl ((p _).2 (.inr (.inr ⟨k,q,t⟩)))
   ·exact .inr (J i t)
 ·rw[zE (λe=>Q ((p _).2 (.inr (.inl e)))),y i j λt=>Q ((p _).2 (.inr (.inr ⟨m,o,t⟩)))]
abbrev zCM (p:Part):D:= .agg [tsD p,owD p]
theorem oO (f:Nat->Nat->List Nd):∀k n,(qd f k n).1.length=k
 |0,_=>rfl
 |k+1,n=>by rw[qd,length_append,oO f k n];rfl
def R3 (f:Nat->Nat->List Nd) (n:Nat):∀ {k m:Nat},k<=m->(qd f k n).2.length<=(qd f m n).2.length:=λ{k m} h=>by
 induction m with
 |zero=>rw[Nat.le_zero.1 h];exact le_refl _
 |succ m a=>
  rcases Nat.lt_or_eq_of_le h with q|rfl
  ·refine le_trans (a ow) ?_;rw[qd,length_append];omega
  ·exact le_refl _
section
variable {c:Cat} {fs:List Fac} {ca cb ce cp x td od:D}
def POk.alt (S:SpD c fs ca cb ce cp x td od) (b:POk c fs p):∀t∈p.ts,t.length<=64:=λt e=>by
 obtain⟨i,a,rfl⟩:=mem_iff_getElem.1 e;rcases b.t i _ (getElem?_eq_getElem a) with q|q
 ·rw[q];exact zero_le _
 ·have f:i<(tV c fs).length:=by rw[<-b.tl];exact a
  have d:(tV c fs).getD i []∈tV c fs:=by rw[getD_eq_getElem?_getD,getElem?_eq_getElem f];exact getElem_mem _
  exact((S.t64 _ d).2.ts _ q).2
def POk.cin (S:SpD c fs ca cb ce cp x td od) (b:POk c fs p):CIn c fs (Zj p) (.agg [ca,cb,ce,cp]) x (zCM p):=
 ⟨S.cat,S.sm,S.x,by have:=S.few.1.2;omega,S.few.1.1,S.ok,⟨_,_,rfl,zZ.mk .no,zZ.mk .no⟩,⟨by have:=S.tl;have:=b.tl;show(p.ts.map kN).length<=_;rw[length_map];omega,by have:=S.ol;have:=b.ol;show p.own.length<=_;omega,λa d=>by
  obtain⟨t,e,rfl⟩:=mem_map.1 d;exact⟨by rw[VS];exact LK t,by rw[VS];have:=b.alt S t e;omega⟩⟩⟩
def POk.err (S:SpD c fs ca cb ce cp x td od) (b:POk c fs p):qS c fs (Zj p) true=0:=by
 have h1:(Zj p).ts.length=(tV c fs).length:=by show(p.ts.map kN).length=_;rw[length_map,b.tl]
 have e:(Zj p).own.length=(oV c fs).length:=b.ol;have e1:nY (ov (tV c fs) (Zj p).ts true) (Zj p).ts.length=0:=wH λi a=>by
  rw[h1,<-b.tl] at a;unfold ov
  have:(Zj p).ts[i]? =some (kN p.ts[i]):=by show(p.ts.map kN)[i]? =_;rw[getElem?_map,getElem?_eq_getElem a];rfl
  rw[this];simp only[VS];rcases b.t i _ (getElem?_eq_getElem a) with q|q
  ·rw[q];rfl
  ·split
   ·rfl
   ·rw[iq];simp only[Bool.not_eq_true',Bool.not_eq_false,any_eq_true];simpa using⟨_,q,(lF _ _).2 rfl⟩
 have e2:nY (Mk c (Zj p).own true) (Zj p).own.length=0:=wH λi a=>by
  unfold Mk;have d:(Zj p).own[i]∈p.own:=getElem_mem a;rw[getElem?_eq_getElem a];generalize(Zj p).own[i]=s at d;rcases b.o s d with q| ⟨y,f,q⟩
  ·rw[q];rfl
  ·split
   ·rename_i h;cases h
   ·rename_i h;cases h;split
    ·rfl
    ·rw[iq];simp only[Bool.not_eq_true',Bool.not_eq_false,any_eq_true];simpa using⟨y,f,q⟩
 unfold qS;rw[iq (by rw[S.v0];decide),iq (by rw[h1,e];unfold tV oV;simp),iq (by rw[show nY (ov (za c fs).1 (Zj p).ts true) (Zj p).ts.length=0 from e1];decide)]
 exact e2
def zBH (S:SpD c fs ca cb ce cp x td od) (a:POk c fs p):jI c fs (Zj p)= .tuple [.agg (GK (Xo c fs p)), .bool (Xo c fs p).isSome, .int .i64 0]:=by
 unfold jI;rw[a.err S,LG];unfold Xo vcs;cases dR c fs (Zj p)<;>rfl
end
abbrev vfN (yid nid vid:Nat) (sp:List D):D:= .fn (.func 83) [] [.iptr [.ptr nid 0] 0, .iptr [.iptr sp 0] 0, .iptr [.yld yid] 0, .ptr vid 0]
abbrev elP (Lw:List Part) (k:Nat):List D:=[zCM (Lw.getD k ⟨[],[]⟩)]
def zCN (Y:Nat->(Nat->Prop)->Heap->Prop) (Z:(Nat->Prop)->Heap->Prop) (nid:Nat) (S1 S2:Nat->Prop) (h:Heap) (k:Nat) (L:List Nd) (r:D) (h':Heap):Prop:=
 ∃S1' S2',(∀i,S1' i->S1 i\/h.next<=i)/\(∀i,S2' i->S2 i\/h.next<=i)/\(∀i,S1' i->¬S2' i)/\But (λi=>S1 i\/S2 i) h h'/\((r= .bool true/\Y k S1' h'/\NdH nid L S2' h')\/(r= .bool false/\Z S1' h'/\∃L',NdH nid L' S2' h'))
variable {c:Cat}{fs:List Fac}
def rh {v:Vio} (e:Xo c fs p=some v) (m n:Nat):rL c fs m p= []/\uI c fs m p n= [⟨-1,[],some v⟩]:=by
 cases m<;>simp[rL,uI,e]
def dT (e:Xo c fs p=none) (e2:nxV c fs p=none) (m n:Nat):rL c fs m p= [p]/\uI c fs m p n= []:=by
 cases m<;>simp[rL,uI,e,e2]
def Heap.two (i j:Nat) (h:Heap):Heap:=⟨0,λk=>if k=i\/k=j then h.at' k else none⟩
def LS (i j:Nat) (h:Heap):(Heap.two i j h).at' i=h.at' i:=ip (.inl rfl)
def LU (i j:Nat) (h:Heap):(Heap.two i j h).at' j=h.at' j:=ip (.inr rfl)
def Zk (h1:h'.at' i=h.at' i) (a:h'.at' j=h.at' j):HLe (Heap.two i j h) h':=λk b e=>by
 simp only[Heap.two] at e;split at e
 ·rename_i q;rcases q with rfl|rfl
  ·rw[h1];exact e
  ·rw[a];exact e
 ·cases e
section
variable {c:Cat} {fs:List Fac} {ca cb ce cp x td od:D}
theorem IB (S:SpD c fs ca cb ce cp x td od) {z nid s:Nat} {Lw:List Part} {Y:Nat->(Nat->Prop)->Heap->Prop} {Z:(Nat->Prop)->Heap->Prop} (y:Yld prog z Lw.length (elP Lw) Y Z):∀ (m:Nat) (p:Part),POk c fs p->opn c fs p<=m->∀k,(∀j q,(rL c fs m p)[j]? =some q->Lw[k+j]? =some q)->∀L S1 X h,Y k S1 h->NdH nid L X h->(∀i,S1 i->¬X i)->s<h.next->¬S1 s->¬X s->h.at' s=some (.row [vfN z nid s [ca,cb,ce,cp,x,td,od]])->L.length+(uI c fs m p L.length).length<=1048576->zA prog 83 [zCM p, .iptr [.ptr nid 0] 0, .iptr [.iptr [ca,cb,ce,cp,x,td,od] 0] 0, .iptr [.yld z] 0, .ptr s 0] h (zCN Y Z nid S1 X h (k+(rL c fs m p).length) (L++uI c fs m p L.length)):=by
 intro m
 induction m using Nat.strongRecOn with
 |ind m ih=>
 intro p hp hm k hk L S1 X h hY hN hd v0 v1 v2 hv hB;have dt:∀h,HLe Heap.emp h:=λh i ob e=>by cases e
 have d0:zM true 4 [ca,cb,ce,cp,x,td,od] 0=some (.agg [ca,cb,ce,cp]):=rfl;have w:=R1 (hp.cin S);rw[zBH S hp] at w;obtain⟨d,n1,n2⟩:=hN.len;refine xP λQ hQ=> ?_;cases e0:Xo c fs p with
 |some v=>
  obtain⟨U,V⟩:=rh e0 m L.length;rw[U,V] at hQ;rw[V] at hB;rw[e0] at w;simp only[GK,Vio.cells,Option.isSome] at w;have b9:zP prog 65 (.ptr h.next 0) (.agg [.int .i64 v.row, .sl 1 (qG v.facts) .no]) (h.new h.next (.row [.int .i64 0, .nilsl]))=some (h.new h.next (.row [.int .i64 v.row, .sl 1 (qG v.facts) .no])):=zg uO ow rfl rfl rfl;have hb:zt prog 67 [(0, .int .i64 (-1)),(2, .agg [.int .i64 v.row, .sl 1 (qG v.facts) .no])]=some (.agg (ndC (⟨-1,[],some v⟩, .nilsl))):=by
   simp[zt,bA,jl,qB,yU,ndC,GK,Vio.cells,D.cells,D.notTuple]
  have b4:∀nid H,zI prog false nid 35 1 [(0, .agg (ndC (⟨-1,[],some v⟩, .nilsl)))] H=some (.sl 4 [ndC (⟨-1,[],some v⟩, .nilsl)] .full,H):=λnid H=>zz (x:= .agg (ndC (⟨-1,[],some v⟩, .nilsl))) mR jl cz rfl rfl ow ow rfl rfl;obtain⟨G,hG,hE,bx,c6⟩:∃G:Heap,h.new h.next (.row [.int .i64 v.row, .sl 1 (qG v.facts) .no])=G/\Ext h G/\G.next=h.next+1/\G.at' h.next=some (.row [.int .i64 v.row, .sl 1 (qG v.facts) .no]):=⟨_,rfl,(Ext.refl h).new (le_refl _) _,zF _ _,zK _ _ _⟩;rw[hG] at b9;have B:=hN.loc hE.1 λi o=>hE.2 i (hN.here i o)
  obtain⟨d',a1,a2,r,G1,G2,a3,a4,b1,b2,M,a5,a6,a7⟩:=B.app (-1) (some v) (by simp at hB;omega);rw[bx] at a3;have A:=y.ext hY hE;have ad:Q (.bool true) G2:=hQ _ _ ⟨S1,M,λi o=> .inl o,λi o=>(a6 i o).imp id λq=>by omega,λi h1 R=>by
   rcases a6 i R with q|q
   ·exact hd i h1 q
   ·have:=y.here _ _ _ hY i h1;omega,(hE.but _).trans ⟨a7.1,λi o hn=>a7.2 i o λq=>hn (.inr q)⟩ λi o=> .inl o, .inl ⟨rfl,y.loc _ _ _ _ A a7.1 λi o=>a7.2 i (by have:=y.here _ _ _ A i o;omega) (hd i o),a5⟩⟩
  have E:HLe (Heap.two nid h.next G) G:=Zk rfl rfl;have ag:HLe (Heap.two nid h.next G) G1:=Zk (by rw[b1,a1]) (b2 _ ow λq=>lt_irrefl _ (hN.here _ q));have t1:(Heap.two nid h.next G).at' nid=some (.row [d']):=by rw[LS];exact a1
  have t2:(Heap.two nid h.next G).at' h.next=some (.row [.int .i64 v.row, .sl 1 (qG v.facts) .no]):=by rw[LU];exact c6
  clear hQ hY hN hd v0 v1 v2 hv hB U V e0 hk hm ih B A hG a5 a6 a7 b1 b2;refine xO mix func83 zBu rfl rfl ?_;simp only[f83,gJ]
  repeat' first|simp only[go_sem, *]|apply bc<;>intro C
  refine zO Heap.emp [(0, .st,true),(4, .st,true),(8, .st,true),(1, .no,true),(2, .no,true),(3, .st,true),(5, .no,true),(6, .no,true),(7, .st,true),(9, .st,true),(10, .no,true),(11, .no,true),(12, .no,true),(13, .no,true),(14, .no,true),(15, .no,true),(16, .no,true),(17, .no,true)] kr kr (λi ob e=>by cases e) ?_
  repeat' first|simp only[go_sem, *]|apply bc<;>intro C
  refine Wt _ (λH=>w H) ?_
  repeat' first|simp only[go_sem, *]|apply bc<;>intro C
  refine zO (Heap.two nid h.next G) [(0, .st,true),(1, .no,true),(4, .no,true),(2, .no,true),(3, .no,true),(5, .no,true),(6, .no,true),(7, .no,true),(8, .no,true),(9, .no,false)] kr kr E ?_
  repeat' first|simp only[go_sem, *]|apply bc<;>intro C
 |none=>
  rw[e0] at w;simp only[GK,Option.isSome] at w;have O:=DI S hp;have b9:zP prog 65 (.ptr h.next 0) (.agg [.int .i64 0, .nilsl]) (h.new h.next (.row [.int .i64 0, .nilsl]))=some (h.new h.next (.row [.int .i64 0, .nilsl])):=zg uO ow rfl rfl rfl;obtain⟨G,hG,hE,bx⟩:∃G:Heap,h.new h.next (.row [.int .i64 0, .nilsl])=G/\Ext h G/\G.next=h.next+1:=⟨_,rfl,(Ext.refl h).new (le_refl _) _,zF _ _⟩;rw[hG] at b9;have A:=y.ext hY hE;have B:=hN.loc hE.1 λi o=>hE.2 i (hN.here i o);cases e1:nxV c fs p with
  |none=>
   obtain⟨U,V⟩:=dT e0 e1 m L.length;rw[U,V,append_nil] at hQ;rw[U] at hk;rw[e1] at O;have b8:Lw[k]? =some p:=hk 0 p rfl;have b7:=(List.getElem?_eq_some_iff.1 b8).1;have b6:=y.go k S1 G b7 A;rw[elP,getD_eq_getElem?_getD,b8,Option.getD_some] at b6;have ad:∀r h',(∃S',(∀i,S' i->S1 i\/G.next<=i)/\But S1 G h'/\((r= .bool true/\Y (k+1) S' h')\/(r= .bool false/\Z S' h')))->Q r h':=by
    rintro r h' ⟨S',q1,q2,q3⟩;refine hQ _ _ ⟨S',X,λi o=>(q1 i o).imp id λq=>by omega,λi o=> .inl o,λi h1 R=> ?_,(hE.but _).trans ⟨q2.1,λi o hn=>q2.2 i o λq=>hn (.inl q)⟩ λi o=> .inl o,?_⟩
    ·rcases q1 i h1 with q|q
     ·exact hd i q R
     ·have:=hN.here i R;omega
    ·have cu:=B.loc q2.1 λi o=>q2.2 i (B.here i o) λq=>hd i q o;rcases q3 with⟨rfl,q⟩ | ⟨rfl,q⟩
     ·exact .inl ⟨rfl,q,cu⟩
     ·exact .inr ⟨rfl,q,_,cu⟩
   clear hQ hY hN hd v0 v1 v2 hv hB U V e0 e1 hk b8 b7 hm ih B A;refine xO mix func83 zBu rfl rfl ?_;simp only[f83,gJ]
   repeat' first|simp only[go_sem, *]|apply bc<;>intro C
   refine zO Heap.emp [(0, .st,true),(4, .st,true),(8, .st,true),(1, .no,true),(2, .no,true),(3, .st,true),(5, .no,true),(6, .no,true),(7, .st,true),(9, .st,true),(10, .no,true),(11, .no,true),(12, .no,true),(13, .no,true),(14, .no,true),(15, .no,true),(16, .no,true),(17, .no,true)] kr kr (λi ob e=>by cases e) ?_
   repeat' first|simp only[go_sem, *]|apply bc<;>intro C
   refine Wt _ (λH=>w H) ?_
   repeat' first|simp only[go_sem, *]|apply bc<;>intro C|(refine zA.mono (O _) ?_;rintro r h ⟨hq,rfl⟩)
   subst hq
   repeat' first|simp only[go_sem, *]|apply bc<;>intro C
   refine b6.mono λr h' hq=> ?_;have hq:=ad r h' hq;clear ad b6
   repeat' first|simp only[go_sem, *]|apply bc<;>intro C
  |some v=>
   obtain⟨cc,c2,_⟩:=j9 e1;obtain⟨J,rfl⟩:∃J,m=J+1:=⟨m-1,by
    have:0<opn c fs p:=length_pos_iff.2 (ne_nil_of_mem (mem_filter.2 ⟨mem_range.2 cc,c2⟩));omega⟩
   have U:rL c fs (J+1) p=(List.range (szV c fs v)).flatMap λk=>rL c fs J (t6 c fs p v k):=by simp[rL,e0,e1]
   have V:∀n,uI c fs (J+1) p n= ⟨(v:Int),(qd (λk n'=>uI c fs J (t6 c fs p v k) n') (szV c fs v) (n+1)).1,none⟩ ::(qd (λk n'=>uI c fs J (t6 c fs p v k) n') (szV c fs v) (n+1)).2:=λn=>by simp[uI,e0,e1]
   rw[U,V] at hQ;rw[V,length_cons] at hB;rw[U] at hk;have ih:=ih J ow;have c0:=λi o=>LQ hp S.v0 (v:=v) (k:=i) e1 o;have dv:szV c fs v<=1048576:=by
    unfold szV;split
    ·rename_i q;have hm:(tV c fs).getD v []∈tV c fs:=by rw[getD_eq_getElem?_getD,getElem?_eq_getElem q];exact getElem_mem _
     have:=(S.t64 _ hm).1;omega
    ·exact S.sm.ls.1
   generalize hF:(λk n'=>uI c fs J (t6 c fs p v k) n')=F at *
   have bs:∀k n',uI c fs J (t6 c fs p v k) n'=F k n':=λk n'=>by rw[<-hF]
   generalize hK:(λi=>pY (List.range (szV c fs v)) (λk=>rL c fs J (t6 c fs p v k)) i)=K;have cg:K 0=0:=by rw[<-hK];exact bT _ _
   have cm:∀i,i<szV c fs v->K (i+1)=K i+(rL c fs J (t6 c fs p v i)).length:=λi o=>by rw[<-hK];exact pP (by simp[o])
   have ch:K (szV c fs v)=((List.range (szV c fs v)).flatMap λk=>rL c fs J (t6 c fs p v k)).length:=by
    have:=fo (List.range (szV c fs v)) (λk=>rL c fs J (t6 c fs p v k));rw[length_range] at this;rw[<-hK];exact this
   have cl:∀i,i<szV c fs v->∀j q,(rL c fs J (t6 c fs p v i))[j]? =some q->Lw[k+K i+j]? =some q:=λi o j q hj=>by
    have h1:=VG (l:=List.range (szV c fs v)) (f:=λk=>rL c fs J (t6 c fs p v k)) (a:=i) (x:=i) (b:=j) (by simp[o]) (List.getElem?_eq_some_iff.1 hj).1;rw[Nat.add_assoc];refine hk _ q ?_;rw[<-hK];exact h1.trans hj
   rw[<-ch] at hQ;rw[e1] at O;obtain⟨d',a1,a2,r,G1,G2,a3,a4,b1,b2,M,a5,a6,a7⟩:=B.app (v:Int) none ow;rw[bx] at a3;have hb:zt prog 67 [(0, .int .i64 (v:Int))]=some (.agg (ndC (⟨(v:Int),[],none⟩, .nilsl))):=by
    simp[zt,bA,jl,qB,yU,ndC,GK,D.cells,D.notTuple]
   have b4:∀nid H,zI prog false nid 35 1 [(0, .agg (ndC (⟨(v:Int),[],none⟩, .nilsl)))] H=some (.sl 4 [ndC (⟨(v:Int),[],none⟩, .nilsl)] .full,H):=λnid H=>zz (x:= .agg (ndC (⟨(v:Int),[],none⟩, .nilsl))) mR jl cz rfl rfl ow ow rfl rfl;have E:HLe (Heap.one nid (.row [d'])) G:=by rw[py];exact a1
   have ag:HLe (Heap.one nid (.row [d'])) G1:=by rw[py];exact b1
   obtain⟨I,hI⟩:∃I:Nat->Heap->Prop,∀i h',I i h'↔∃bo M,(∀i,bo i->S1 i\/h.next<=i)/\(∀i,M i->X i\/h.next<=i)/\(∀i,bo i->¬M i)/\But (λi=>S1 i\/X i) h h'/\Y (k+K i) bo h'/\NdH nid (L++ ⟨(v:Int),(qd F i (L.length+1)).1,none⟩ ::(qd F i (L.length+1)).2) M h':=⟨_,λ_ _=>Iff.rfl⟩;have b3:I 0 G2:=(hI _ _).2 ⟨S1,M,λi o=> .inl o,λi o=>(a6 i o).imp id λq=>by omega,λi h1 R=>by
    rcases a6 i R with q|q
    ·exact hd i h1 q
    ·have:=y.here _ _ _ hY i h1;omega,(hE.but _).trans ⟨a7.1,λi o hn=>a7.2 i o λq=>hn (.inr q)⟩ λi o=> .inl o,by rw[cg];exact y.loc _ _ _ _ A a7.1 λi o=>a7.2 i (by have:=y.here _ _ _ A i o;omega) (hd i o),a5⟩
   have T:∀h',I (szV c fs v) h'->Q (.bool true) h':=λh' q=>by
    obtain⟨T1,T2,q1,q2,q3,q4,q5,q6⟩:=(hI _ _).1 q;exact hQ _ _ ⟨T1,T2,q1,q2,q3,q4, .inl ⟨rfl,q5,q6⟩⟩
   have hR:∀i h',i<szV c fs v->I i h'->∃t N cs kd a0 G3 W,h'.at' nid=some (.row [.rs t 4 0 N])/\h'.at' t=some (.row cs)/\cs[L.length*4+1]? =some kd/\L.length<N/\zu prog false h'.next 45 kd (.sl 1 [[.int .i64 (N:Int)]] .full) h'=some (a0,G3)/\zP prog 45 (.ptr t (L.length*4+1)) a0 G3=some W/\G3.at' nid=some (.row [.rs t 4 0 N])/\G3.at' t=some (.row cs)/\W.at' s=some (.row [vfN z nid s [ca,cb,ce,cp,x,td,od]])/\zA prog 83 [zCM (t6 c fs p v i), .iptr [.ptr nid 0] 0, .iptr [.iptr [ca,cb,ce,cp,x,td,od] 0] 0, .iptr [.yld z] 0, .ptr s 0] W λr R=>(r= .bool true/\I (i+1) R)\/(r= .bool false/\Q (.bool false) R):=λi h' o q=>by
    obtain⟨T1,T2,q1,q2,q3,q4,q5,q6⟩:=(hI _ _).1 q;have b7:=oO F i (L.length+1);have dr:=R3 F (L.length+1) (k:=i+1) (m:=szV c fs v) o;have ds:(qd F (i+1) (L.length+1)).2.length=(qd F i (L.length+1)).2.length+(F i (L.length+1+(qd F i (L.length+1)).2.length)).length:=by rw[qd,length_append]
    have db:qd F (i+1) (L.length+1)=((qd F i (L.length+1)).1++ [((L.length+1+(qd F i (L.length+1)).2.length:Nat):Int)],(qd F i (L.length+1)).2++F i (L.length+1+(qd F i (L.length+1)).2.length)):=by rw[qd]
    generalize qd F i (L.length+1)=KN at *
    obtain⟨ks,rest⟩:=KN;simp only at *
    have c7:(L++ ⟨(v:Int),ks,none⟩ ::rest).length=L.length+1+rest.length:=by rw[length_append,length_cons];omega
    obtain⟨t,N,r1,r2,r3,r4,cs,kd,r5,r6,a0,G3,W,r7,r8,r9,r10,S3,r11,r12,r13⟩:=q6.kid (a:=L.length) (nd:=⟨(v:Int),ks,none⟩) (by simp) ((L.length+1+rest.length:Nat):Int) (by show ks.length<_;omega);rw[c7] at r4;subst r4;have c1:(L++ ⟨(v:Int),ks,none⟩ ::rest).set L.length ⟨(v:Int),ks++ [((L.length+1+rest.length:Nat):Int)],none⟩ =L++ ⟨(v:Int),ks++ [((L.length+1+rest.length:Nat):Int)],none⟩ ::rest:=by
     rw[set_append_right _ _ (le_refl _),Nat.sub_self];rfl
    simp only[c1] at r11;have cf:¬T1 s/\¬T2 s:=⟨λe=>(q1 s e).elim v1 ow,λe=>(q2 s e).elim v2 ow⟩;have dk:h'.at' s=some (.row [vfN z nid s [ca,cb,ce,cp,x,td,od]]):=by rw[q4.2 s v0 (λe=>e.elim v1 v2)];exact hv
    have c3:s<h'.next:=lt_of_lt_of_le v0 q4.1;have bk:W.at' s=some (.row [vfN z nid s [ca,cb,ce,cp,x,td,od]]):=by rw[r13.2 s c3 cf.2];exact dk
    have c8:Y (k+K i) T1 W:=y.loc _ _ _ _ q5 r13.1 λi o=>r13.2 i (y.here _ _ _ q5 i o) (q3 i o);have c9:∀i,T1 i->¬S3 i:=λi h1 R=>by
     rcases r12 i R with q|q
     ·exact q3 i h1 q
     ·have:=y.here _ _ _ q5 i h1;omega
    refine⟨t,_,cs,kd,a0,G3,W,r1,r5,r6,by omega,r7,r8,r9,r10,bk,?_⟩;have ba:(L++ ⟨(v:Int),ks++ [((L.length+1+rest.length:Nat):Int)],none⟩ ::rest).length=L.length+1+rest.length:=by rw[length_append,length_cons];omega
    have u:=ih (t6 c fs p v i) (hp.dec o) (by have:=c0 i o;omega) (k+K i) (cl i o) _ T1 S3 W c8 r11 c9 (lt_of_lt_of_le c3 r13.1) cf.1 (λe=>(r12 s e).elim cf.2 ow) bk (by rw[ba,bs];omega);rw[ba,bs] at u;refine u.mono ?_;rintro r R ⟨U1,U2,u1,u2,u3,u4,u5⟩;have ai:∀i,U1 i->S1 i\/h.next<=i:=λi o=>by
     rcases u1 i o with q|q
     ·exact q1 i q
     ·have:=r13.1;have:=q4.1;exact .inr ow
    have ak:∀i,U2 i->X i\/h.next<=i:=λi o=>by
     have e1:=r13.1;have e2:=q4.1;rcases u2 i o with q|q
     ·rcases r12 i q with q|q
      ·exact q2 i q
      ·exact .inr ow
     ·exact .inr ow
    have bb:But (λi=>S1 i\/X i) h R:=by
     have e1:=r13.1;have e2:=q4.1;have b1:But (λi=>S1 i\/X i) h W:=q4.trans r13 λi o=>(q2 i o).imp .inr id;refine b1.trans u4 λi o=> ?_;rcases o with q|q
     ·exact(q1 i q).imp .inl id
     ·rcases r12 i q with q|q
      ·exact(q2 i q).imp .inr id
      ·exact .inr ow
    rcases u5 with⟨rfl,U,V⟩ | ⟨rfl,U,L',V⟩
    ·refine .inl ⟨rfl,(hI _ _).2 ⟨U1,U2,ai,ak,u3,bb,by rw[cm i o,<-Nat.add_assoc];exact U,?_⟩⟩;rw[db];simpa using V
    ·exact .inr ⟨rfl,hQ _ _ ⟨U1,U2,ai,ak,u3,bb, .inr ⟨rfl,U,L',V⟩⟩⟩
   have a9:=VU S v;have a8:=λi o g=>Xn (t1:= .no) (t2:= .no) S hp (v:=v) (k:=i) cc o g;clear a5 a6 a7 b1 b2 A B hE hQ hY hN hd v0 v1 v2 hv hB U V e0 e1 hk hm ih c0 cm cg ch cl bs hI cc c2;refine xO mix func83 zBu rfl rfl ?_;simp only[f83,gJ]
   repeat' first|simp only[go_sem, *]|apply bc<;>intro C
   refine zO Heap.emp [(0, .st,true),(4, .st,true),(8, .st,true),(1, .no,true),(2, .no,true),(3, .st,true),(5, .no,true),(6, .no,true),(7, .st,true),(9, .st,true),(10, .no,true),(11, .no,true),(12, .no,true),(13, .no,true),(14, .no,true),(15, .no,true),(16, .no,true),(17, .no,true)] kr kr (λi ob e=>by cases e) ?_
   repeat' first|simp only[go_sem, *]|apply bc<;>intro C
   refine Wt _ (λH=>w H) ?_
   repeat' first|simp only[go_sem, *]|apply bc<;>intro C|(refine zA.mono (O _) ?_;rintro r h ⟨hq,rfl⟩)
   subst hq
   repeat' first|simp only[go_sem, *]|apply bc<;>intro C
   refine zO (Heap.one nid (.row [d'])) [(0, .st,true),(1, .no,true),(2, .no,true),(3, .no,true),(4, .no,true),(5, .no,true),(6, .no,true),(7, .no,true),(8, .no,true),(9, .no,false)] kr kr E ?_
   repeat' first|simp only[go_sem, *]|apply bc<;>intro C|(refine zA.mono (a9 _) ?_;rintro r h ⟨hq,rfl⟩)
   subst hq;refine zD (λi fr h'=>fr 1= .iptr [.ptr nid 0] 0/\fr 2= .iptr [.iptr [ca,cb,ce,cp,x,td,od] 0] 0/\fr 3= .iptr [.yld z] 0/\fr 4= .ptr s 0/\fr 5= .iptr [tsD p,owD p] 0/\fr 7= .int .i64 (L.length:Int)/\fr 11= .int .i64 (v:Int)/\fr 64= .int .i64 (szV c fs v:Int)/\fr 65= .int .i64 (i:Int)/\I i h') (szV c fs v) ow ?_ ?_ ?_
   ·clear T hR a8 a9 O w;simp only[go_sem,true_and,and_true,Int.ofNat_zero];exact b3
   ·clear T w O a9 a1 a2 a3 a4 E ag b3 n1 n2;rintro i fr h' cw ec ew ⟨f1,f2,f3,f4,f5,f7,c4,f64,c5,hI⟩;obtain⟨t,N,cs,kd,a0,G3,W,r1,r2,r3,r4,r5,r6,r7,r8,r9,u⟩:=hR i h' cw hI;have b5:=a8 i cw;have du:∀H,tU prog 35 (.rs t 4 0 N) H=some (.int .i64 (N:Int)):=λH=>tQ underlying35;have da:=z8 (P:=prog) (sz:=4) (id:=t) mR cz (k:= .i64) r4;have b4:∀nid H,zI prog false nid 45 1 [(0, .int .i64 (N:Int))] H=some (.sl 1 [[.int .i64 (N:Int)]] .full,H):=λnid H=>zz (x:= .int .i64 (N:Int)) yJ uN wc rfl rfl ow ow rfl rfl;have cv:HLe (Heap.two nid t h') h':=Zk rfl rfl
    have dd:HLe (Heap.two nid t h') G3:=Zk (by rw[r7,r1]) (by rw[r8,r2]);have t1:(Heap.two nid t h').at' nid=some (.row [.rs t 4 0 N]):=by rw[LS];exact r1
    have t2:(Heap.two nid t h').at' t=some (.row cs):=by rw[LU];exact r2
    have di:HLe (Heap.one s (.row [vfN z nid s [ca,cb,ce,cp,x,td,od]])) W:=by rw[py];exact r9
    clear hR a8 hI r4 r7 r8
    repeat' first|simp only[go_sem, *]|apply bc<;>intro C
    refine zO (Heap.two nid t h') [(0, .st,true),(4, .no,true),(11, .no,true),(1, .no,true),(2, .st,true),(3, .no,true),(5, .no,true),(6, .no,true),(7, .no,true),(8, .no,true),(9, .no,true),(10, .no,true),(12, .no,true),(13, .no,true),(14, .no,true),(15, .no,true),(16, .no,true),(17, .no,true),(18, .no,true),(19, .no,false)] kr kr cv ?_
    repeat' first|simp only[go_sem, *]|apply bc<;>intro C
    refine zO (Heap.one s (.row [vfN z nid s [ca,cb,ce,cp,x,td,od]])) [(0, .st,true),(1, .no,true),(2, .no,true),(3, .no,true),(4, .no,true),(5, .no,true),(6, .no,false),(7, .no,false)] kr kr di ?_;clear cv dd r1 r2 r3 r5 r6 da b4 t1 t2
    repeat' first|simp only[go_sem,mf, *]|apply bc<;>intro C|(refine zA.mono (b5 _) ?_;rintro r h ⟨hq,rfl⟩)
    subst hq
    repeat' first|simp only[go_sem, *]|apply bc<;>intro C
    refine u.mono ?_;rintro r R (⟨rfl,o⟩ | ⟨rfl,o⟩)
    ·clear u b5;exact au
    ·clear u b5;exact au
   ·clear hR w O a9 a1 a2 a3 a4 E ag b3 n1 n2 a8;rintro fr h' ec ⟨f1,f2,f3,f4,f5,f7,c4,f64,c5,hI⟩;have hq:=T _ hI;clear T hI;exact au
end
def LV (sp:List D) (nid:Nat):D:= .fn (.func 82) [] [.iptr [.ptr nid 0] 0, .iptr [.iptr sp 0] 0]
def DN (a:List D) (nid:Nat) (g:Heap):zA prog 42 [.iptr a 0, .ptr nid 0] g λr h'=>h'=g/\r=LV a nid:=by
 refine xO mix func42 zGe rfl rfl ?_;simp only[f42,gJ];simp only[go_sem,LV, *]
abbrev th (c:Cat) (fs:List Fac):List Part:=rL c fs (ctV c fs) (sn c fs)
abbrev sh (c:Cat) (fs:List Fac):List Nd:=uI c fs (ctV c fs) (sn c fs) 0
section
variable {c:Cat} {fs:List Fac} {ca cb ce cp x td od:D}
def IC (S:SpD c fs ca cb ce cp x td od) (D:(sh c fs).length<=1048576) {a nid:Nat} {Y:Nat->(Nat->Prop)->Heap->Prop} {Z:(Nat->Prop)->Heap->Prop} (y:Yld prog a (th c fs).length (elP (th c fs)) Y Z) (v:Y 0 U h) (n:NdH nid [] S0 h) (I:∀i,U i->¬S0 i):
  zA prog 82 [.yld a, .iptr [.ptr nid 0] 0, .iptr [.iptr [ca,cb,ce,cp,x,td,od] 0] 0] h λ_ h'=>∃r,zCN Y Z nid U S0 h (th c fs).length (sh c fs) r h':=by
 have s:=DK S;have H:∀ (t:TypeId) (nid:Nat) (h:Heap),kn t nid h (some .nilfn)=some (.ptr nid 0,h.new nid (.row [.nilfn])):=λ_ _ _=>rfl;have u:zP prog 41 (.ptr h.next 0) (vfN a nid h.next [ca,cb,ce,cp,x,td,od]) (h.new h.next (.row [.nilfn]))=some (h.new h.next (.row [vfN a nid h.next [ca,cb,ce,cp,x,td,od]])):=zg BJ ow rfl rfl rfl;obtain⟨G,E,l,k,m⟩:∃G:Heap,h.new h.next (.row [vfN a nid h.next [ca,cb,ce,cp,x,td,od]])=G/\Ext h G/\G.at' h.next=some (.row [vfN a nid h.next [ca,cb,ce,cp,x,td,od]])/\h.next<G.next:=⟨_,rfl,(Ext.refl h).new (Nat.le_refl _) _,zK _ _ _,by rw[zF];omega⟩;rw[E] at u
 have p:opn c fs (sn c fs)<=ctV c fs:=by
  unfold opn;exact Nat.le_trans (List.length_filter_le _ _) (by simp)
 have d:=IB S y (ctV c fs) (sn c fs) (sg c fs _) p 0 (λj q e=>by rw[Nat.zero_add];exact e) [] U S0 G (y.ext v l) (n.loc l.1 λi f=>l.2 i (n.here i f)) I m (λe=>Nat.lt_irrefl _ (y.here _ _ _ v _ e)) (λe=>Nat.lt_irrefl _ (n.here _ e)) k (by simpa using D);have b:∀r h',zCN Y Z nid U S0 G (0+(rL c fs (ctV c fs) (sn c fs)).length) ([]++uI c fs (ctV c fs) (sn c fs) ([]:List Nd).length) r h'->zCN Y Z nid U S0 h (th c fs).length (sh c fs) r h':=by
  rintro r h' ⟨B,C,J,K,L,M,A⟩;rw[Nat.zero_add] at A;exact⟨B,C,λi f=>(J i f).imp id λq=>by omega,λi f=>(K i f).imp id λq=>by omega,L,(l.but _).trans M λi f=> .inl f,A⟩
 have o:HLe (Heap.one h.next (.row [vfN a nid h.next [ca,cb,ce,cp,x,td,od]])) G:=by rw[py];exact k
 refine xP λQ F=> ?_;have b:=λr h' q=>F (.tuple []) h' ⟨r,b r h' q⟩;refine xO mix func82 zGW rfl rfl ?_;simp only[f82,gJ]
 repeat' first|simp only[go_sem, *]|apply bc<;>intro w
 refine zO (Heap.one h.next (.row [vfN a nid h.next [ca,cb,ce,cp,x,td,od]])) [(0, .st,true),(1, .no,true),(2, .no,true),(3, .no,false)] kr kr o ?_
 repeat' first|simp only[go_sem,mf, *]|apply bc<;>intro w|(refine zA.mono (s _) ?_;rintro r h ⟨z,rfl⟩)
 subst z
 repeat' first|simp only[go_sem, *]|apply bc<;>intro w
 refine d.mono λr h' q=> ?_;have z:=b r h' q;exact au
end
structure NdI where
 var:Int
 kids:List Int
 row:Int
 facts:List Int
def zFd (n:NdI) (cs:List D):Prop:=∃kd fd,cs= [.int .i64 n.var,kd, .int .i64 n.row,fd]/\zZ 1 (qG n.kids) kd/\zZ 1 (qG n.facts) fd
def VV (ns:List NdI) (d:D):Prop:=∃xs,zZ 4 xs d/\xs.length=ns.length/\∀ (i:Nat) n,ns[i]? =some n->∃cs,xs[i]? =some cs/\zFd n cs
protected def Nd.i (n:Nd):NdI:=⟨n.var,n.kids,(n.vio.map Vio.row).getD 0,(n.vio.map Vio.facts).getD []⟩
def tsF (q:Part):D:=if q.ts= [] then .nilsl else tsD q
def owF (q:Part):D:=if q.own= [] then .nilsl else owD q
def zBI (c:Cat) (fs:List Fac) (r:D):Prop:=(yn c fs≠0/\r= .tuple [.agg [.bool false, .nilsl, .nilsl, .nilsl], .int .i64 (yn c fs)])\/(yn c fs=0/\((∃q,(th c fs).head? =some q/\r= .tuple [.agg [.bool true,tsF q,owF q, .nilsl], .int .i64 0])\/(th c fs= []/\∃rd,VV ((sh c fs).map Nd.i) rd/\r= .tuple [.agg [.bool false, .nilsl, .nilsl,rd], .int .i64 0])))
theorem Xp:∀ {M:List (Nd×D)},(∀m∈M,wW h 1 (qG m.1.kids) m.2)->tY 0 (uM (M.map ndC))/\(uM (M.map ndC)).length=M.length/\∀ (i:Nat) n,(M.map λm=>m.1.i)[i]? =some n->∃cs,(uM (M.map ndC))[i]? =some cs/\zFd n cs
 | [],_=>⟨trivial,rfl,λi n e=>by simp at e⟩
 |m::M,b=>by
  obtain⟨h1,k,h3⟩:=Xp λq l=>b q (List.mem_cons_of_mem _ l);obtain⟨k1,k2⟩:=(b m List.mem_cons_self).fin kM;have p:∃a,zq (GK m.1.vio)= [.int .i64 m.1.i.row,a]/\below 0 a/\zZ 1 (qG m.1.i.facts) a:=by
   obtain⟨⟨v,ks,o⟩,d⟩:=m;cases o with
   |none=>exact⟨.nilsl,rfl,trivial,zZ.nil⟩
   |some v=>
    have c:=yB (sz:=1) (xs:=qG v.facts) kM .no;refine⟨.sl 1 (qG v.facts) .no,?_,c.2,zZ.mk .no⟩;show [zi _,zi _]=_;rw[c.1];rfl
  obtain⟨a,f,g,j⟩:=p;have e1:zq (ndC m)= [.int .i64 m.1.var,zi m.2, .int .i64 m.1.i.row,a]:=by
   show zi _::zi _::zq (GK m.1.vio)=_;rw[f];rfl
  refine⟨⟨?_,h1⟩,by show(uM (M.map ndC)).length+1=_;rw[k];rfl,λi n e=> ?_⟩
  ·rw[e1];exact⟨trivial,k1,trivial,g,trivial⟩
  ·cases i with
   |zero=>cases e;exact⟨_,rfl,zi m.2,a,e1,k2.isSl,j⟩
   |succ i=>exact h3 i n e
def NdH.fin {L:List Nd} (H:NdH nid L S h) (s:Ext g h) (p:∀i,S i->g.next<=i) {Q R:D->Heap->Prop} {mk:D->D} (j:∀id cs d,frz id cs (mk d)=mk (frz id cs d)) (c:∀d,zi (mk d)=mk (zi d)) (b:∀d,below 0 d->below 0 (mk d))
  (f:∀d h',Ext g h'->below g.next (zi (mk d))->VV (L.map Nd.i) (zi d)->Q (mk d) h') (l:∀d h',(Q d h'\/∃id cs,h'.at' id=some (.row cs)/\Q (frz id cs d) (h'.del id))->R d h'):∃d,h.at' nid=some (.row [d])/\d.cells= [d]/\d.notTuple=true/\d.flat=true/\∀h',(∀i,S i->i≠nid->h'.at' i=h.at' i)->Ext g h'->R (mk d) h':=by
 obtain⟨h0,d,M,h1,o,h3,rfl,h5,r,k⟩:=H;obtain⟨k1,k2,k3⟩:=Xp h5;have hr:(M.map Prod.fst).map Nd.i=M.map λm=>m.1.i:=by rw[List.map_map];rfl
 rw[hr] at f;rcases o with⟨rfl,e⟩ | ⟨id,rfl,r1,r2,r3⟩
 ·have:M= []:=by simpa using e
  subst this;exact⟨_,h1,rfl,rfl,rfl,λh' _ a=>l _ _ (.inl (f _ _ a (by rw[c];exact zx (Nat.zero_le _) _ (b _ trivial)) ⟨[],zZ.nil,rfl,λi n e=>by simp at e⟩))⟩
 ·have hid:g.next<=id:=p id ((k id).2 (.inr (.inl rfl)));refine⟨_,h1,rfl,rfl,rfl,λh' q a=>l _ _ (.inr ⟨id,_,by rw[q id ((k id).2 (.inr (.inl rfl))) (λe=>h3 (by rw[<-e];rfl))];exact r1,?_⟩)⟩;rw[j,bK (og M) rfl rfl];refine f _ _ (a.del hid) ?_ ⟨uM (M.map ndC),zZ.mk .no,by rw[k2,List.length_map],k3⟩;rw[c];exact zx (Nat.zero_le _) _ (b _ ⟨k1,trivial⟩)
def WSo (n k:Nat) (S:Nat->Prop) (h:Heap):Prop:=k=0/\n+1<h.next/\h.at' n=some (.row [.bool false, .nilsl, .nilsl, .nilsl])/\h.at' (n+1)=some (.row [.int .i64 0])/\∀i,S i↔(i=n\/i=n+1)
def VSo (c:Cat) (fs:List Fac) (n:Nat) (S:Nat->Prop) (h:Heap):Prop:=∃q,(th c fs).head? =some q/\n+1<h.next/\h.at' n=some (.row [.bool true,tsF q,owF q, .nilsl])/\h.at' (n+1)=some (.row [.int .i64 0])/\∀i,S i↔(i=n\/i=n+1)
def WSo.lcl (n:Nat):Lcl (WSo n):=by
 refine⟨λk S h y i g=> ?_,λk S h h' y j d=> ?_⟩
 ·obtain⟨_,f,b,c,a⟩:=y;rcases(a i).1 g with rfl|rfl<;>omega
 ·obtain⟨e,f,b,c,a⟩:=y;exact⟨e,by omega,by rw[d _ ((a _).2 (.inl rfl))];exact b,by rw[d _ ((a _).2 (.inr rfl))];exact c,a⟩
def VSo.lcl (c:Cat) (fs:List Fac) (n:Nat):Lcl λ_=>VSo c fs n:=by
 refine⟨λk S h y i j=> ?_,λk S h h' y l e=> ?_⟩
 ·obtain⟨_,_,g,b,d,a⟩:=y;rcases(a i).1 j with rfl|rfl<;>omega
 ·obtain⟨q,f,g,b,d,a⟩:=y;exact⟨q,f,by omega,by rw[e _ ((a _).2 (.inl rfl))];exact b,by rw[e _ ((a _).2 (.inr rfl))];exact d,a⟩
def NdH.lcl (nid:Nat) (L:List Nd):Lcl λ_=>NdH nid L:=⟨λk S h y=>y.here,λk S h h' y=>y.loc⟩
def NdHx.lcl (nid:Nat):Lcl λ_ S h=>∃L,NdH nid L S h:=⟨λk S h y=>by obtain⟨L,y⟩:=y;exact y.here,λk S h h' y b a=>by obtain⟨L,y⟩:=y;exact⟨L,y.loc b a⟩⟩
variable {c:Cat}{fs:List Fac}
theorem ID {ca cb ce cp x:D} (hc:yt c (.agg [ca,cb,ce,cp])) (hs:c.Sm) (hx:zZ 12 (nb fs) x) (hF:L5 fs) (b4:∀f∈fs,f.Ok) (hB:yn c fs=0->(sh c fs).length<=1048576) (g:Heap):
  zA prog 19 [.agg [ca,cb,ce,cp],x] g λr h'=>h'=g/\zBI c fs r:=by
 refine xU kr λcc=>xS (zA.freezeOr ?_);refine xP λR hR=> ?_;have u:=DL hc hs hx hF b4;have cm:∀a b e p:D,zM true 4 [a,b,e,p] 0=some (.agg [a,b,e,p]):=λa b e p=>zB rfl ow;have cf:zt prog 37 []=some (.agg [.bool false, .nilsl, .nilsl, .nilsl]):=by simp[zt,lq,af,qB,D.notTuple,D.cells]
 have U:∀ (h:Heap) d,Ext g h->zi d=d->below 0 d->zBI c fs d->R d h:=λh d hE e hb q=>hR _ _ (.inl ⟨hE,by rw[e];exact zx (Nat.zero_le _) _ hb,by rw[e];exact q⟩);obtain⟨n,hn⟩:∃n,g.next=n:=⟨_,rfl⟩;obtain⟨G,hG,T,g1,g2,hE⟩:∃G:Heap,(g.new n (.row [.bool false, .nilsl, .nilsl, .nilsl])).new (n+1) (.row [.int .i64 0])=G/\G.next=n+2/\G.at' n=some (.row [.bool false, .nilsl, .nilsl, .nilsl])/\G.at' (n+1)=some (.row [.int .i64 0])/\Ext g G:=
  ⟨_,rfl,by rw[<-hn,zo _ (by rw[zF];exact Nat.le_refl _)],by rw[zG ow,zK],zK _ _ _,by rw[<-hn];exact((Ext.refl g).new (Nat.le_refl _) _).new ow _⟩
 have cl:(g.new n (.row [.bool false, .nilsl, .nilsl, .nilsl])).next=n+1:=by rw[<-hn];exact zF _ _
 by_cases J:yn c fs=0
 case neg=>
  have z:(!(yn c fs==0))=true:=by simpa using J
  have s1:zP prog 37 (.ptr n 0) (.agg [.bool false, .nilsl, .nilsl, .nilsl]) G=some G:=by
   rw[yM g1 (by rw[V4];rfl) rfl (by decide) rfl,wr g1]
  obtain⟨F,hF,f1,f2,a2⟩:∃F,G.set (n+1) (.row [.int .i64 (yn c fs)])=F/\F.at' n=some (.row [.bool false, .nilsl, .nilsl, .nilsl])/\F.at' (n+1)=some (.row [.int .i64 (yn c fs)])/\Ext g F:=⟨_,rfl,by rw[zE ow];exact g1,zC _ _ _,hE.set ow _⟩;have s2:zP prog 42 (.ptr (n+1) 0) (.int .i64 (yn c fs)) G=some F:=by
   rw[zS g2 mS (by simp) rfl rfl,<-hF];rfl
  have o:=U F (.tuple [.agg [.bool false, .nilsl, .nilsl, .nilsl], .int .i64 (yn c fs)]) a2 rfl ⟨⟨trivial,trivial,trivial,trivial,trivial⟩,trivial,trivial⟩ (.inl ⟨J,rfl⟩);have u:∀g,zA prog 29 [.agg [ca,cb,ce,cp],x] g λr h'=>h'=g/\r= .tuple [.nilptr, .int .i64 (yn c fs)]:=λg=>(u g).mono λr h' q=>⟨q.1,by
   rcases q.2 with⟨_,e⟩ | ⟨e,_⟩
   ·exact e
   ·exact absurd e J⟩
  refine xO mix func19 zEQ rfl rfl ?_;simp only[f19,gJ]
  repeat' first|simp only[go_sem, *]|apply bc<;>intro hc|(refine zA.mono (u _) ?_;rintro r h ⟨C,rfl⟩)
 case pos=>
 have hB:=hB J;have u:∀g,zA prog 29 [.agg [ca,cb,ce,cp],x] g λr h'=>h'=g/\∃td od,r= .tuple [.iptr [ca,cb,ce,cp,x,td,od] 0, .int .i64 0]/\SpD c fs ca cb ce cp x td od:=λg=>(u g).mono λr h' q=>⟨q.1,by
   rcases q.2 with⟨e,_⟩ | ⟨_,td,od,e,S,_⟩
   ·exact absurd J e
   ·exact⟨td,od,e,S⟩⟩
 obtain⟨H,hH,a3,h1,v,h3,O⟩:∃H:Heap,G.new (n+2) (.row [.nilsl])=H/\H.next=n+3/\H.at' n=some (.row [.bool false, .nilsl, .nilsl, .nilsl])/\H.at' (n+1)=some (.row [.int .i64 0])/\H.at' (n+2)=some (.row [.nilsl])/\Ext g H:=⟨_,rfl,by rw[<-T,zF,T],by rw[zG ow];exact g1,by rw[zG ow];exact g2,zK _ _ _,hE.new ow _⟩;refine xO mix func19 zEQ rfl rfl ?_;simp only[f19,gJ]
 repeat' first|simp only[go_sem, *]|apply bc<;>intro
 refine(u _).mono ?_;rintro r k ⟨C,td,od,rfl,S⟩;subst C;have b9:=λg=>DN [ca,cb,ce,cp,x,td,od] (n+2) g
 rename Heap=>G
 repeat' first|simp only[go_sem,LV, *]|apply bc<;>intro hc|(refine zA.mono (b9 _) ?_;rintro r h ⟨C,rfl⟩)
 subst C
 rename Heap=>H
 generalize hL:LRec.mk _ _ _ _ _ _ _=L;have b5:L.pending=none:=by rw[<-hL]
 have b6:L.st= .ready:=by rw[<-hL]
 have a7:WSo n 0 (λj=>j=n\/j=n+1) H:=⟨rfl,by omega,h1,v,λ_=>Iff.rfl⟩;have a5:NdH (n+2) [] (λj=>j=n+2) H:=⟨by omega, .nilsl,[],h3, .inl ⟨rfl,rfl⟩,λe=>e,rfl,(by intro m M;cases M),(by intro a b m m' i e;cases e),λi=>⟨λe=> .inl e,λe=>e.elim id λe=>e.elim (λe=>e.elim) λ⟨m,M,_⟩=>by cases M⟩⟩
 refine LO (n:=(th c fs).length) (el:=elP (th c fs)) a3 (WSo.lcl n) (VSo.lcl c fs n) (NdH.lcl (n+2) []) (NdH.lcl (n+2) (sh c fs)) (NdHx.lcl (n+2)) b6 b5 a7 a5 (λi h1 v=>by rcases h1 with e|e<;>omega) (λyl bk a6 hd=>(IC S hB yl bk a6 hd).mono λr h' ⟨r',T1,T2,q1,q2,q3,q4,q5⟩=>⟨T1,T2,q1,q2,q3,q4,q5.imp (λq=>⟨q.2.1,q.2.2⟩) λq=>⟨q.2.1,q.2.2⟩⟩) ?_ ?_ ?_
 ·intro k S0 h3 hk Z bx ak b3;have bs:k=0:=ak.1;subst bs;obtain⟨q,C⟩:∃q,(th c fs).head? =some q:=by
   cases e:th c fs with
   |nil=>rw[e] at hk;exact absurd hk (Nat.lt_irrefl _)
   |cons q l=>exact⟨q,rfl⟩
  have bo:(th c fs).getD 0 ⟨[],[]⟩ =q:=by
   rw[List.getD_eq_getElem?_getD,<-List.head?_eq_getElem?,C];rfl
  simp only[elP,bo];have y:=bx;rw[<-hL] at y;obtain⟨m,M⟩:∃m,h3.next=m:=⟨_,rfl⟩;have E:zP prog 33 (.ptr m 0) (.agg [tsD q,owD q]) (h3.new m (.row [.nilsl, .nilsl]))=some (h3.new m (.row [tsD q,owD q])):=zg Qx ow rfl rfl rfl;refine yo.round (g:=RM) mix y rfl kr kr kr ?_;simp only[go_sem,M,E];refine⟨by rw[zG ow];exact y,?_⟩;generalize a1:LRec.mk .busy _ _ _ _ _ _=B;have a4:({ B with st:= .ready,pending:=none } :LRec)=L:=by rw[<-a1,<-hL]
  obtain⟨_,w1,w2,w3,N⟩:=ak;obtain⟨s,a8,W,V,a9,ba,bb,K⟩:∃s:D->D->Heap,((h3.new m (.row [tsD q,owD q])).set (n+3) (.loop B))=s (tsD q) (owD q)/\(∀a b,(s a b).next=m+1)/\(∀a b,(s a b).at' m=some (.row [a,b]))/\(∀a b,(s a b).at' n=some (.row [.bool false, .nilsl, .nilsl, .nilsl]))/\(∀a b,(s a b).at' (n+1)=some (.row [.int .i64 0]))/\(∀a b,(s a b).at' (n+3)=some (.loop B))/\((∀a b a' b',(s a b).set m (.row [a',b'])=s a' b')/\∀a b,But (λi=>i=n+3) h3 (s a b)):=by
   refine⟨λa b=>((h3.new m (.row [tsD q,owD q])).set (n+3) (.loop B)).set m (.row [a,b]),?_,λa b=>by rw[zT,zT,<-M];exact zF _ _,λa b=>zC _ _ _,λa b=>by rw[zE ow,zE ow,zG ow];exact w2,λa b=>by rw[zE ow,zE ow,zG ow];exact w3,λa b=>by rw[zE ow,zC],λa b a' b'=>rI _ _ _ _,λa b=>⟨by rw[zT,zT,<-M,zF];omega,λi I hn=>by rw[zE ow,zE hn,zG ow]⟩⟩;exact(wr (by rw[zE ow,zK])).symm
  obtain⟨X,K⟩:=K;rw[a8];have s1:∀a b,zP prog 30 (.ptr m 0) .nilsl (s a b)=some (s .nilsl b):=λa b=>by
   rw[zS (V a b) mQ (by simp) rfl rfl];exact congrArg some (X _ _ _ _)
  have s2:∀a b,zP prog 31 (.ptr m 1) .nilsl (s a b)=some (s a .nilsl):=λa b=>by
   rw[zS (V a b) Qw (by simp) rfl rfl];exact congrArg some (X _ _ _ _)
  have cg:∀h,tU prog 30 (tsD q) h=some (.int .i64 (q.ts.length:Int)):=λh=>by
   have:=qW (l:=q.ts.map kN) (d:=tsD q) (zZ.mk .no) h
   rwa [List.length_map] at this
  have ch:∀h,tU prog 31 (owD q) h=some (.int .i64 (q.own.length:Int)):=λh=>yK (l:=q.own) (d:=owD q) (zZ.mk .no) h;have b8:∀a b:D,zt prog 37 [(0, .bool true),(1, .agg [a,b])]=some (.agg [.bool true,a,b, .nilsl]):=λa b=>by simp[zt,lq,af,qB,yU,D.notTuple,D.cells]
  have o:∀fr,wh (LpZ (n+3) L (WSo n) (VSo c fs n) 0 S0 h3) (n+3) .ret fr (((s (tsF q) (owF q)).set n (.row [.bool true,tsF q,owF q, .nilsl])).set (n+1) (.row [.int .i64 0])):=λfr=>by
   refine Lp.retZ (VSo.lcl c fs n) a4 Z b3 (by rw[zE ow,zE ow];exact bb _ _) (S':=S0) (λi I=> .inl I) ⟨by rw[zT,zT,W];omega,λi I z=> ?_⟩ ⟨q,C,by rw[zT,zT,W];omega,by rw[zE ow,zC],zC _ _ _,N⟩;rw[zE λe=>z (.inr ((N i).2 (.inr e))),zE λe=>z (.inr ((N i).2 (.inl e))),(K _ _).2 i I λe=>z (.inl e)]
  have s3:∀a b,a.flat=true->b.flat=true->zP prog 37 (.ptr n 0) (.agg [.bool true,a,b, .nilsl]) (s a b)=some ((s a b).set n (.row [.bool true,a,b, .nilsl])):=λa b h1 v=>yM (a9 a b) (by rw[V4];rfl) rfl (by simp) (by simp[h1,v];exact⟨rfl,rfl⟩);have s4:∀a b r,zP prog 42 (.ptr (n+1) 0) (.int .i64 0) ((s a b).set n (.row r))=some (((s a b).set n (.row r)).set (n+1) (.row [.int .i64 0])):=λa b r=>by
   rw[zS (by rw[zE ow];exact ba a b) mS (by simp) rfl rfl];rfl
  have e1:((q.ts.length:Int)==0)=decide (q.ts= []):=by cases q.ts<;>simp<;>omega
  have e2:((q.own.length:Int)==0)=decide (q.own= []):=by cases q.own<;>simp<;>omega
  have f1:(tsD q).flat=true:=rfl;have f2:(owD q).flat=true:=rfl;have f3:D.nilsl.flat=true:=rfl;have t1:tsF q=if decide (q.ts= [])=true then .nilsl else tsD q:=by unfold tsF;simp
  have t2:owF q=if decide (q.own= [])=true then .nilsl else owD q:=by unfold owF;simp
  rw[t1,t2] at o;generalize decide (q.ts= [])=b1 at e1 o;generalize decide (q.own= [])=b2 at e2 o;cases b1
  all_goals cases b2
  all_goals simp only[Bool.false_eq_true,if_false,if_true] at o
  all_goals
   exact au
  all_goals exact o _
 ·intro S' a0 v b7 ag Y w hw ad;obtain⟨w0,w1,w2,w3,N⟩:=hw;have A:Ext g v:=Ext.of_but O w λj hj=>by rcases hj with(rfl|rfl)|rfl<;>omega
  obtain⟨d,d1,d2,d3,d4,d5⟩:=ad.fin (R:=R) (Q:=λd h'=>Ext g h'/\below g.next (zi d)/\zBI c fs (zi d)) (mk:=λd=> .tuple [.agg [.bool false, .nilsl, .nilsl,d], .int .i64 0]) A (λi I=>by
   rcases ag i I with q|q<;>omega) (λid cs d=>rfl) (λd=>rfl) (λd h=>⟨⟨trivial,trivial,trivial,h,trivial⟩,trivial,trivial⟩) (λd h' q1 q2 q3=>⟨q1,q2, .inr ⟨J, .inr ⟨List.length_eq_zero_iff.1 w0,_,q3,rfl⟩⟩⟩) hR
  have b8:zt prog 37 [(2,d)]=some (.agg [.bool false, .nilsl, .nilsl,d]):=by simp[zt,lq,af,qB,yU,d2,d3,Yp,kp]
  obtain⟨F1,P,r1,r2,E1⟩:∃F,v.set n (.row [.bool false, .nilsl, .nilsl,d])=F/\F.at' n=some (.row [.bool false, .nilsl, .nilsl,d])/\F.at' (n+1)=some (.row [.int .i64 0])/\Ext g F:=⟨_,rfl,zC _ _ _,by rw[zE ow];exact w3,A.set ow _⟩;have s1:zP prog 37 (.ptr n 0) (.agg [.bool false, .nilsl, .nilsl,d]) v=some F1:=by
   rw[yM (cs':=[.bool false, .nilsl, .nilsl,d]) w2 (by rw[V4];rfl) rfl (by simp) (by simp[d4];exact⟨rfl,rfl⟩),P]
  have s2:zP prog 42 (.ptr (n+1) 0) (.int .i64 0) F1=some F1:=by
   rw[zS r2 mS (by simp) rfl rfl];exact congrArg some (wr r2)
  have o:=d5 F1 (λi I z=>by
   rw[<-P,zE λe=>Y i ((N i).2 (.inl e)) I]) E1
  exact au
 ·intro S' a0 v b7 ag Y w hv ad;obtain⟨q,C,w1,w2,w3,N⟩:=hv;have A:Ext g v:=Ext.of_but O w λj hj=>by rcases hj with(rfl|rfl)|rfl<;>omega
  have E:zi (tsF q)=tsF q/\below 0 (tsF q):=by
   unfold tsF;split
   ·exact⟨rfl,trivial⟩
   ·exact yB (sz:=1) (xs:=zj (q.ts.map kN)) (λx hx=>by
     obtain⟨a,ha,rfl⟩:=List.mem_map.1 hx;obtain⟨t,_,rfl⟩:=List.mem_map.1 ha;exact kO t) .no
  have ai:zi (owF q)=owF q/\below 0 (owF q):=by
   unfold owF;split
   ·exact⟨rfl,trivial⟩
   ·exact yB (sz:=1) (xs:=yR q.own) qF .no
  have o:=U v (.tuple [.agg [.bool true,tsF q,owF q, .nilsl], .int .i64 0]) A (by simp only[zi,zq,E.1,ai.1]) ⟨⟨trivial,E.2,ai.2,trivial,trivial⟩,trivial,trivial⟩ (.inr ⟨J, .inl ⟨q,C,rfl⟩⟩);exact au
def DO (h0:(za c fs).2.2=0) {v:Nat} (d:v<ctV c fs) (a:szV c fs v=0):c.ls.length=0/\∀y:Cho,dR c fs y≠[]:=by
 unfold szV at a;split at a
 ·rename_i h1;have j:(tV c fs).getD v []∈tV c fs:=by rw[List.getD_eq_getElem?_getD,List.getElem?_eq_getElem h1];exact List.getElem_mem _
  exact absurd (List.length_eq_zero_iff.1 a) (tN _ j).2.ne
 ·rename_i h1;refine⟨a,λy e=> ?_⟩;have k:oV c fs≠[]:=λe=>by unfold ctV at d;rw[e] at d;simp at d;omega
  obtain⟨s,b⟩:=List.exists_mem_of_ne_nil _ k;unfold oV at b;rw[LJ h0] at b;rcases lM.1 b with q| ⟨f,hf,h,_⟩
  ·cases q
  ·obtain⟨i,g,rfl⟩:=List.mem_iff_getElem.1 hf
   have:(⟨5,pZ ([i].map λn:Nat=>(n:Int))⟩:Vio)∈dR c fs y:=Tc.2 ⟨5,by omega,rfl,[i],⟨a,i,by rw[sf g];exact h,rfl⟩,rfl⟩;rw[e] at this;cases this
def prW (s:Nat->Nat) (f:Nat->Bool):List Nat->Nat
 | []=>1
 |w::l=>if f w=true then s w*prW s f l else prW s f l
theorem Zl {s:Nat->Nat} {f:Nat->Bool} (h:∀w,f w=true->0<s w):∀l,0<prW s f l
 | []=>Nat.one_pos
 |w::l=>by
  rw[prW];split
  ·rename_i q;exact Nat.mul_pos (h w q) (Zl h l)
  ·exact Zl h l
theorem LW {s:Nat->Nat} {f g:Nat->Bool} {v:Nat} (a:∀w,g w=(!decide (w=v)&&f w)):∀l,v∉l->prW s g l=prW s f l
 | [],_=>rfl
 |w::l,h=>by
  rw[List.mem_cons,not_or] at h;rw[prW,prW,a w,decide_eq_false (λe=>h.1 e.symm),Bool.not_false,Bool.true_and,LW a l h.2]
theorem LX {s:Nat->Nat} {f g:Nat->Bool} {v:Nat} (a:∀w,g w=(!decide (w=v)&&f w)) (hf:f v=true):∀l:List Nat,l.Nodup->v∈l->prW s f l=s v*prW s g l
 | [],_,h=>by cases h
 |w::l,b,h=>by
  rw[List.nodup_cons] at b;by_cases e:w=v
  ·subst e;rw[prW,prW,ip hf,a w,decide_eq_true rfl,LW a l b.1];rfl
  ·have c:=LX (s:=s) a hf l b.2 ((List.mem_cons.1 h).resolve_left λq=>e q.symm);rw[prW,prW,a w,decide_eq_false e,Bool.not_false,Bool.true_and,c];split
   ·exact Nat.mul_left_comm ..
   ·rfl
theorem Tf (h0:(za c fs).2.2=0):∀m p n,POk c fs p->(uI c fs m p n).length+1<=2*prW (szV c fs) (uC c fs p) (List.range (ctV c fs))
 |0,p,n,d=>by
  have:=Zl (s:=szV c fs) (f:=uC c fs p) (λw h=>by simp only[uC,Bool.and_eq_true,decide_eq_true_eq] at h;omega) (List.range (ctV c fs));rw[uI];split<;>simp<;>omega
 |m+1,p,n,d=>by
  have o:=Zl (s:=szV c fs) (f:=uC c fs p) (λw h=>by simp only[uC,Bool.and_eq_true,decide_eq_true_eq] at h;omega) (List.range (ctV c fs));rw[uI];split
  ·simp;omega
  ·split
   ·simp;omega
   ·rename_i v e;obtain⟨q,l,_⟩:=j9 e;have u:2<=szV c fs v:=by simp only[uC,Bool.and_eq_true,decide_eq_true_eq] at l;omega
    have t:∀k,k<szV c fs v->∀w,uC c fs (t6 c fs p v k) w=(!decide (w=v)&&uC c fs p w):=λk a w=>by
     unfold uC;rw[LP d h0 q a];cases decide (w=v)<;>cases decide (1<szV c fs w)<;>cases deV c fs p w<;>rfl
    have j:∀k,k<szV c fs v->prW (szV c fs) (uC c fs (t6 c fs p v k)) (List.range (ctV c fs))=prW (szV c fs) (λw=> !decide (w=v)&&uC c fs p w) (List.range (ctV c fs)):=λk a=>by
     congr 1;funext w;exact t k a w
    have b:=LX (s:=szV c fs) (f:=uC c fs p) (g:=λw=> !decide (w=v)&&uC c fs p w) (λw=>rfl) l (List.range (ctV c fs)) List.nodup_range (List.mem_range.2 q);rw[b];generalize prW (szV c fs) (λw=> !decide (w=v)&&uC c fs p w) (List.range (ctV c fs))=W at j;have key:∀k,k<=szV c fs v->(qd (λk i=>uI c fs m (t6 c fs p v k) i) k (n+1)).2.length+k<=2*(k*W):=λk a=>by
     induction k with
     |zero=>simp[qd]
     |succ k r=>
      have r:=r ow;have:=Tf h0 m (t6 c fs p v k) (n+1+(qd (λk i=>uI c fs m (t6 c fs p v k) i) k (n+1)).2.length) (d.dec ow);rw[j k ow] at this;rw[qd,List.length_append,Nat.add_mul,Nat.one_mul];omega
    have:=key _ (Nat.le_refl _);rw[List.length_cons];omega
def prL:List Nat->Nat
 | []=>1
 |r::l=>r*prL l
theorem LY:∀ {l:List Nat},(∀r∈l,0<r)->0<prL l
 | [],_=>Nat.one_pos
 |r::l,h=>Nat.mul_pos (h r mem_cons_self) (LY λq a=>h q (mem_cons_of_mem _ a))
theorem LZ:∀ {l:List Nat} {n:Nat},(∀r∈l,0<r)->(L6 l n<=4096\/n*prL l<=4096)->L6 l n=n*prL l
 | [],n,_,_=>by rw[L6,prL,Nat.mul_one]
 |r::l,n,b,h=>by
  have h1:=LY λq a=>b q (mem_cons_of_mem _ a);rw[L6] at h⊢;rw[prL,<-Nat.mul_assoc] at h⊢;have c:n*r<=n*r*prL l:=Nat.le_mul_of_pos_right _ h1;split
  ·rename_i q;rw[ip q] at h;rcases h with h|h<;>omega
  ·rename_i q;rw[iq q] at h;exact LZ (λq a=>b q (mem_cons_of_mem _ a)) h
def DP {l:List Nat} (a:∀r∈l,0<r) (h:Jr l<=4096\/prL l<=4096):Jr l=prL l:=by
 unfold Jr at h⊢;have h0:¬(l.any (· ==0))=true:=λq=>by
  obtain⟨r,hr,e⟩:=any_eq_true.1 q;have:=a r hr;simp at e;omega
 rw[iq h0] at h⊢;rw[LZ a (by rwa [Nat.one_mul]),Nat.one_mul]
theorem La {s:Nat->Nat} {f:Nat->Bool} :∀l:List Nat,(∀w∈l,0<s w)->prW s f l<=prL (l.map s)
 | [],_=>le_refl _
 |w::l,h=>by
  have a:=La (f:=f) l λq b=>h q (mem_cons_of_mem _ b);rw[prW,map_cons,prL];split
  ·exact Nat.mul_le_mul_left _ a
  ·exact le_trans a (Nat.le_mul_of_pos_left _ (h w mem_cons_self))
def GL:TU c (tV c fs) (oV c fs)=(List.range (ctV c fs)).map (szV c fs):=by
 refine ext_getElem (by simp[TU,ctV]) λi h1 a=> ?_;rw[getElem_map,getElem_range];unfold szV;simp only[TU] at h1⊢;split
 ·rename_i q;rw[getElem_append_left (by simpa using q),getElem_map,getD_eq_getElem?_getD,getElem?_eq_getElem q];rfl
 ·rename_i q;rw[getElem_append_right (by simpa using q),getElem_map]
def DQ (h:∀v,v<ctV c fs->0<szV c fs v):∀r∈TU c (tV c fs) (oV c fs),0<r:=λr hr=>by
 rw[GL] at hr;obtain⟨v,a,rfl⟩:=mem_map.1 hr;exact h v (mem_range.1 a)
def Xq (h:yn c fs=0):(sh c fs).length<=8191:=by
 have h0:=j8 h;by_cases b:∀v,v<ctV c fs->0<szV c fs v
 ·have h1:=Tf h0 (ctV c fs) (sn c fs) 0 (sg c fs _);have g:=La (s:=szV c fs) (f:=uC c fs (sn c fs)) (List.range (ctV c fs)) λw i=>b w (mem_range.1 i);rw[<-GL] at g;have h3:=DP (DQ b) (.inl (GH h));have d:=GH h;unfold Ek at d;unfold sh;have h5:Jr (TU c (tV c fs) (oV c fs))<=4096:=d;omega
 ·have:∃v,v<ctV c fs/\szV c fs v=0:=by
   refine Classical.byContradiction λq=>b λv a=>Nat.pos_of_ne_zero λe=>q ⟨v,a,e⟩
  obtain⟨v,a,e⟩:=this;have h1:=(DO h0 a e).2 (Zj (sn c fs));cases e2:Xo c fs (sn c fs) with
  |none=>exact absurd (head?_eq_none_iff.1 e2) h1
  |some x=>unfold sh;rw[(rh e2 _ _).2];simp
end Go.V
