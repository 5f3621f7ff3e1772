/- A machine of abstract values for programs of the model, further rules, part 6. No condition. -/
import Derived.Test.YthcjhnmnhfgdiaaGreatDoorW40
set_option linter.all false
set_option maxHeartbeats 8000000
namespace Go.V
section
variable {P:Program} {W:Nat->(Nat->Prop)->Heap->Prop} {V:(Nat->Prop)->Heap->Prop} {n:Nat} {L:LRec} {el:Nat->List D}
variable {f:FuncId}{args:List D}{h:Heap}{S U:Nat->Prop}{fr:Frm}
def KW {b:Nat} (O:h.next=b) {B C D:(Nat->Prop)->Heap->Prop} {Q:Exit->Frm->Heap->Prop} (v:Lcl W) (X:Lcl λ_=>V) (p:Lcl λ_=>B) (J:Lcl λ_=>C) (K:Lcl λ_=>D) (T:L.st= .ready) (R:L.pending=none) (N:W 0 S h) (I:B U h) (Z:∀i,S i->¬U i)
  (y:Yld P b n el (YLp b L W) (ZLp b L V)->YLp b L W 0 (λi=>i=b\/S i) (h.new b (.loop L))->B U (h.new b (.loop L))->(∀i,(i=b\/S i)->¬U i)->zA P f args (h.new b (.loop L)) λ_ h'=>∃S' a,(∀j,S' j->(j=b\/S j)\/(h.new b (.loop L)).next<=j)/\(∀j,a j->U j\/(h.new b (.loop L)).next<=j)/\(∀i,S' i->¬a i)/\But (λi=>(i=b\/S i)\/U i) (h.new b (.loop L)) h'/\((YLp b L W n S' h'/\C a h')\/(ZLp b L V S' h'/\D a h')))
  (go:∀k S0 h3,k<n->b<h3.next->h3.at' b=some (.loop L)->W k S0 h3->¬S0 b->yt P b (el k) h3 (LpZ b L W V k S0 h3))
  (H:∀S' a d,(∀j,S' j->S j\/b<=j)->(∀j,a j->U j\/b<=j)->(∀i,S' i->¬a i)->But (λi=>S i\/U i) h d->W n S' d->C a d->Q .normal fr d)
  (t:∀S' a d,(∀j,S' j->S j\/b<=j)->(∀j,a j->U j\/b<=j)->(∀i,S' i->¬a i)->But (λi=>S i\/U i) h d->V S' d->D a d->Q .ret fr d):
  zA P f args (h.new b (.loop L)) λ_ h'=>∃r,h'.at' b=some (.loop r)/\r.st≠ .busy/\cd r.pending Q fr (h'.del b):=by
 subst O;have hn:(h.new h.next (.loop L)).next=h.next+1:=zF _ _;have M:¬S h.next:=λe=>Nat.lt_irrefl _ (v.here _ _ _ N _ e);have u:¬U h.next:=λe=>Nat.lt_irrefl _ (p.here 0 _ _ I _ e);refine(y (YLp.yldZ v X go) ⟨by omega,zK _ _ _,S,v.loc _ _ _ _ N ow λi c=>zG (by have:=v.here _ _ _ N _ c;omega),M,λi=>Iff.rfl⟩ (p.loc 0 _ _ _ I ow λi c=>zG (by have:=p.here 0 _ _ I _ c;omega)) (λi c=>by
  rcases c with rfl|c
  ·exact u
  ·exact Z i c)).mono ?_
 have key:∀ (S' a S0:Nat->Prop) (d:Heap),(∀j,S' j->(j=h.next\/S j)\/(h.new h.next (.loop L)).next<=j)->(∀j,a j->U j\/(h.new h.next (.loop L)).next<=j)->(∀i,S' i->¬a i)->But (λi=>(i=h.next\/S i)\/U i) (h.new h.next (.loop L)) d->¬S0 h.next->(∀i,S' i↔(i=h.next\/S0 i))->(∀j,S0 j->S j\/h.next<=j)/\(∀j,a j->U j\/h.next<=j)/\(∀i,S0 i->¬a i)/\But (λi=>S i\/U i) h (d.del h.next)/\¬a h.next:=by
  intro S' a S0 d A l g w m o;refine⟨λj z=> ?_,λj z=>(l j z).imp (λq=>q) λq=>by omega,λi c=>g i ((o i).2 (.inr c)),⟨by have:=w.1;show h.next<=d.next;omega,λi c x=> ?_⟩,g _ ((o _).2 (.inl rfl))⟩
  ·rcases A j ((o j).2 (.inr z)) with(q|q)|q
   ·subst q;exact absurd z m
   ·exact .inl q
   ·exact .inr ow
  ·have s:i≠h.next:=ow;rw[yK s,w.2 i ow (λe=>e.elim (λe=>e.elim s λq=>x (.inl q)) λq=>x (.inr q)),zG s]
 rintro r d ⟨S',a,A,l,g,w,⟨⟨Y,E,S0,F,m,o⟩,G⟩ | ⟨⟨Y,E,S0,F,m,o⟩,G⟩⟩
 ·obtain⟨k1,k2,k3,k4,k5⟩:=key S' a S0 d A l g w m o;refine⟨L,E,(by rw[T];intro q;cases q),?_⟩;rw[R,tG];exact H S0 a _ k1 k2 k3 k4 (v.loc _ _ _ _ F (Nat.le_refl _) λi c=>yK λe=>by subst e;exact m c) (J.loc 0 _ _ _ G (Nat.le_refl _) λi c=>yK λe=>by subst e;exact k5 c)
 ·obtain⟨k1,k2,k3,k4,k5⟩:=key S' a S0 d A l g w m o;refine⟨_,E,(by intro q;cases q),?_⟩;simp only[lY];exact t S0 a _ k1 k2 k3 k4 (X.loc 0 _ _ _ F (Nat.le_refl _) λi c=>yK λe=>by subst e;exact m c) (K.loc 0 _ _ _ G (Nat.le_refl _) λi c=>yK λe=>by subst e;exact k5 c)
end
open List hiding max min map and or get le lt range extract
open Nat(zero_le le_refl le_trans lt_irrefl le_of_lt lt_of_lt_of_le lt_of_le_of_lt lt_succ_iff_lt_or_eq le_of_lt_succ)
open Go.Proofs
set_option maxRecDepth 100000
def jz (c:Cat) (fs:List Fac) (p:Part):Option Vio:=(sS c fs (sT p)).head?
structure Nd where
 var:Int
 kids:List Int
 vio:Option Vio
def uE (c:Cat) (fs:List Fac):Nat->Part->List Part
 |0,p=>if(jz c fs p).isSome=true then [] else [p]
 |m+1,p=>if(jz c fs p).isSome=true then [] else match nxV c fs p with
  |none=>[p]
  |some v=>(List.range (szV c fs v)).flatMap λk=>uE c fs m (tp c fs p v k)
def wk (f:Nat->Nat->List Nd):Nat->Nat->List Int×List Nd
 |0,_=>([],[])
 |k+1,n=>((wk f k n).1++ [((n+(wk f k n).2.length:Nat):Int)],(wk f k n).2++f k (n+(wk f k n).2.length))
def uX (c:Cat) (fs:List Fac):Nat->Part->Nat->List Nd
 |0,p,_=>match jz c fs p with
  |some v=>[⟨-1,[],some v⟩]
  |none=>[]
 |m+1,p,n=>match jz c fs p with
  |some v=>[⟨-1,[],some v⟩]
  |none=>match nxV c fs p with
   |none=>[]
   |some v=>⟨(v:Int),(wk (λk n'=>uX c fs m (tp c fs p v k) n') (szV c fs v) (n+1)).1,none⟩ ::(wk (λk n'=>uX c fs m (tp c fs p v k) n') (szV c fs v) (n+1)).2
def opn (c:Cat) (fs:List Fac) (p:Part):Nat:=((List.range (ctV c fs)).filter (wu c fs p)).length
variable {c:Cat}{fs gs:List Fac}{p:Part}{f:FuncId}{args:List D}{h h' g:Heap}{S U S0:Nat->Prop}{fr:Frm}{xs:List (List D)}{sz i nid j k:Nat}{d:D}{I:List Nat}{e:Ex}{α:Type}
def re {v:Nat} (h:nxV c fs p=some v):v<ctV c fs/\wu c fs p v=true/\∀j,j<v->wu c fs p j=false:=by
 unfold nxV at h;rw[find?_eq_some_iff_getElem] at h;obtain⟨h1,i,b,a,h3⟩:=h;simp at a b;subst a;exact⟨b,h1,λj d=>by have:=h3 j d;simp at this;exact this⟩
def zCP (h:(zM c fs).2.2=0):wp c=0:=by
 unfold zM at h;split at h
 ·rename_i q;rw[h] at q;exact absurd q (by decide)
 ·rename_i q;exact UF (by simpa using q)
def KX (h:wp c=0) {x:Lic} (b:x∈c.ls):x.name≠[]:=λe=>by
 have h1:c.e1=0:=by
  unfold wp at h;split at h
  ·exact absurd h (by decide)
  ·split at h
   ·rename_i q;rw[h] at q;exact absurd q (by decide)
   ·simp_all
 obtain⟨i,a,rfl⟩:=mem_iff_getElem.1 b;have:=nU h1 i a;unfold atE at this;rw[getElem?_eq_getElem a] at this;simp only[ln] at this;rw[ip (by rw[e];rfl)] at this;cases this
def UM (h:POk c fs p) (h0:(zM c fs).2.2=0) {v k:Nat} (j:v<ctV c fs) (a:k<szV c fs v) (w:Nat):deV c fs (tp c fs p v k) w=(decide (w=v)||deV c fs p w):=by
 unfold tp;unfold szV at a;by_cases f:v<(tV c fs).length
 ·rw[ip f] at a⊢;unfold deV;by_cases b:w<(tV c fs).length
  ·simp only[ip b];by_cases e:w=v
   ·subst e;have d:w<p.ts.length:=by rw[h.tl];exact b
    rw[decide_eq_true rfl,Bool.true_or,getD_eq_getElem?_getD,getElem?_set_self d,Option.getD_some,decide_eq_true_eq];have g:((tV c fs).getD w []).getD k []≠[]:=by
     rw[getD_eq_getElem?_getD (l:=(tV c fs).getD w []),getElem?_eq_getElem a];have i:(tV c fs).getD w []∈tV c fs:=by rw[getD_eq_getElem?_getD,getElem?_eq_getElem b];exact getElem_mem _
     exact((uA _ i).2.ts _ (getElem_mem a)).1
    exact length_pos_iff.2 g
   ·rw[decide_eq_false e,Bool.false_or,getD_eq_getElem?_getD,getElem?_set_ne (λq=>e q.symm),<-getD_eq_getElem?_getD]
  ·simp only[iq b];rw[decide_eq_false (show¬w=v by omega),Bool.false_or]
 ·rw[iq f] at a⊢;unfold deV;by_cases b:w<(tV c fs).length
  ·simp only[ip b];rw[decide_eq_false (show¬w=v by omega),Bool.false_or]
  ·simp only[iq b];by_cases e:w=v
   ·subst e;have d:w- (tV c fs).length<p.own.length:=by rw[h.ol];unfold ctV at j;omega
    rw[decide_eq_true rfl,Bool.true_or,getD_eq_getElem?_getD,getElem?_set_self d,Option.getD_some,pS a];have:=KX (zCP h0) (getElem_mem a);simp[this]
   ·rw[decide_eq_false e,Bool.false_or,getD_eq_getElem?_getD,getElem?_set_ne ow,<-getD_eq_getElem?_getD]
def cK (g:POk c fs p) (h0:(zM c fs).2.2=0) {v k:Nat} (i:nxV c fs p=some v) (f:k<szV c fs v):opn c fs (tp c fs p v k)<opn c fs p:=by
 obtain⟨h1,d,_⟩:=re i;have key:∀l:List Nat,(l.filter (wu c fs (tp c fs p v k))).length<=(l.filter (wu c fs p)).length/\(v∈l->(l.filter (wu c fs (tp c fs p v k))).length<(l.filter (wu c fs p)).length):=λl=>by
  induction l with
  |nil=>exact⟨le_refl _,λh=>by cases h⟩
  |cons w l a=>
   have b:wu c fs (tp c fs p v k) w=(!decide (w=v)&&wu c fs p w):=by
    unfold wu;rw[UM g h0 h1 f];cases decide (w=v)<;>cases decide (1<szV c fs w)<;>cases deV c fs p w<;>rfl
   by_cases e:w=v
   ·subst e;rw[filter_cons,filter_cons,b,d];simp only[decide_true,Bool.not_true,Bool.false_and,Bool.false_eq_true,if_false,if_true,length_cons];exact⟨by omega,λ_=>by omega⟩
   ·rw[filter_cons,filter_cons,b,decide_eq_false e,Bool.not_false,Bool.true_and];split
    ·simp only[length_cons];exact⟨by omega,λh=>by have:=a.2 ((mem_cons.1 h).resolve_left λq=>e q.symm);omega⟩
    ·exact⟨a.1,λh=>a.2 ((mem_cons.1 h).resolve_left λq=>e q.symm)⟩
 exact(key _).2 (mem_range.2 h1)
open Go.Proofs.Tryz
def I8:∀ {a j:Nat} {x:List D},(∀y∈xs,y.length=sz)->xs[a]? =some x->j<sz->xs.flatten[a*sz+j]? =x[j]? :=by
 induction xs with
 |nil=>intro a j x _ h;cases h
 |cons z xs f=>
  intro a j x b h c;have e:=b z mem_cons_self;cases a with
  |zero=>cases h;rw[flatten_cons,Nat.zero_mul,Nat.zero_add,getElem?_append_left ow]
  |succ a=>
   rw[flatten_cons,getElem?_append_right (by rw[Nat.succ_mul];omega),e,show(a+1)*sz+j-sz=a*sz+j by rw[Nat.succ_mul];omega];exact f (λy d=>b y (mem_cons_of_mem _ d)) h c
def I9 {w:D} :∀ {a j:Nat} {x:List D},(∀y∈xs,y.length=sz)->xs[a]? =some x->j<sz->xs.flatten.set (a*sz+j) w=(xs.set a (x.set j w)).flatten:=by
 induction xs with
 |nil=>intro a j x _ h;cases h
 |cons z xs f=>
  intro a j x b h c;have e:=b z mem_cons_self;cases a with
  |zero=>cases h;rw[flatten_cons,Nat.zero_mul,Nat.zero_add,set_append_left _ _ ow];rfl
  |succ a=>
   rw[flatten_cons,set_append_right _ _ (by rw[Nat.succ_mul];omega),e,show(a+1)*sz+j-sz=a*sz+j by rw[Nat.succ_mul];omega,f (λy d=>b y (mem_cons_of_mem _ d)) h c];rfl
def FP:Option Vio->List D
 |none=>[.int .i64 0, .nilsl]
 |some v=>v.cells
def ndC (m:Nd×D):List D:= .int .i64 m.1.var::m.2::FP m.1.vio
def KY (m:Nd×D):(ndC m).length=4:=by obtain⟨⟨v,k,o⟩,d⟩:=m;cases o<;>rfl
def nZ (M:List (Nd×D)):∀x∈M.map ndC,x.length=4:=λx a=>by
 obtain⟨m,_,rfl⟩:=mem_map.1 a;exact KY m
def NdH (nid:Nat) (L:List Nd) (S:Nat->Prop) (h:Heap):Prop:=
 nid<h.next/\∃ (d:D) (M:List (Nd×D)),h.at' nid=some (.row [d])/\gi h 4 (M.map ndC) d/\¬rS d nid/\M.map Prod.fst=L/\(∀m∈M,wg h 1 (yr m.1.kids) m.2)/\(∀ (a b:Nat) m m' i,M[a]? =some m->M[b]? =some m'->wh m.2 i->wh m'.2 i->a=b)/\∀i,S i↔(i=nid\/rS d i\/∃m∈M,wh m.2 i)
def gi.row (o:gi h sz xs d) (a:rS d i):i<h.next/\d= .rs i sz 0 xs.length/\h.at' i=some (.row xs.flatten):=by
 rcases o with⟨rfl,_⟩ | ⟨id,rfl,h1,b,_⟩
 ·exact a.elim
 ·cases a;exact⟨b,rfl,h1⟩
def NdH.here {L:List Nd} (H:NdH nid L S h) (i:Nat) (c:S i):i<h.next:=by
 obtain⟨h0,d,M,h1,a,h3,f,h5,g,b⟩:=H;rcases(b i).1 c with rfl|q| ⟨m,e,q⟩
 ·exact h0
 ·exact(a.row q).1
 ·exact((h5 m e).tok q).1
def NdH.loc {L:List Nd} (H:NdH nid L S h) (f:h.next<=h'.next) (c:∀i,S i->h'.at' i=h.at' i):NdH nid L S h':=by
 obtain⟨h0,d,M,h1,g,h3,j,h5,k,a⟩:=H;exact⟨by omega,d,M,by rw[c _ ((a _).2 (.inl rfl))];exact h1,g.loc f λi b=>c i ((a i).2 (.inr (.inl b))),h3,j,λm e=>(h5 m e).loc f λi b=>c i ((a i).2 (.inr (.inr ⟨m,e,b⟩))),k,a⟩
def NdH.len {L:List Nd} (H:NdH nid L S h):∃d,h.at' nid=some (.row [d])/\∀h',tu prog 35 d h'=some (.int .i64 L.length):=by
 obtain⟨h0,d,M,h1,a,h3,rfl,h5,b,c⟩:=H;refine⟨d,h1,λh'=> ?_⟩;rw[length_map];rcases a with⟨rfl,e⟩ | ⟨id,rfl,_⟩
 ·have:M= []:=by simpa using e
  subst this;exact yc (zZ.nil (sz:=4)) underlying35
 ·rw[tz underlying35,length_map]
def NdH.app {L:List Nd} (H:NdH nid L S h) (v:Int) (o:Option Vio) (O:L.length<1048576):
  ∃d,h.at' nid=some (.row [d])/\(∀z,qn d z h=h)/\∃r G w,zg prog true h.next 35 d (.sl 4 [ndC (⟨v,[],o⟩, .nilsl)] .full) h=some (r,G)/\zQ prog 35 (.ptr nid 0) r G=some w/\G.at' nid=some (.row [d])/\(∀i,i<h.next->¬S i->G.at' i=h.at' i)/\∃S',NdH nid (L++ [⟨v,[],o⟩]) S' w/\(∀i,S' i->S i\/h.next<=i)/\But S h w:=by
 obtain⟨h0,d,M,h1,x,h3,rfl,h5,I,l⟩:=H;have p:(M.map ndC).length=M.length:=length_map ..;rw[length_map] at O;obtain⟨g,j,B,C⟩:=gi.app (P:=prog) (nid:=h.next) (tk:= .full) x lN EO bl ow (λcs=>uh underlying67) (nZ M) (ys:=[ndC (⟨v,[],o⟩, .nilsl)]) (λy Q=>by rw[mem_singleton.1 Q];exact KY _) (by simp) (by rw[p,Py];unfold lim;simp;omega) (by rw[p];unfold lim;simp;omega);have E:M.map ndC++ [ndC (⟨v,[],o⟩, .nilsl)]=(M++ [((⟨v,[],o⟩:Nd),D.nilsl)]).map ndC:=by simp
 rw[E] at j;obtain⟨G,J,K,A,c⟩:∃G:Heap,g.new h.next (.row ((M++ [((⟨v,[],o⟩:Nd),D.nilsl)]).map ndC).flatten)=G/\G.next=h.next+1/\G.at' h.next=some (.row ((M++ [((⟨v,[],o⟩:Nd),D.nilsl)]).map ndC).flatten)/\∀i,i<h.next->¬rS d i->G.at' i=h.at' i:=
  ⟨_,rfl,by rw[<-B,zF],zK _ _ _,λi f k=>by rw[zG ow,C i k]⟩
 rw[J] at j;have u:G.at' nid=some (.row [d]):=by rw[c _ h0 h3,h1]
 have N:∀n:Nat,(M++ [((⟨v,[],o⟩:Nd),D.nilsl)]).map ndC≠[]:=λ_=>by simp
 refine⟨d,h1,x.trunc (nZ M),_,G,G.set nid (.row [.rs h.next 4 0 ((M++ [((⟨v,[],o⟩:Nd),D.nilsl)]).map ndC).length]),j,by rw[zT u AO (by simp) rfl rfl];rfl,u,λi f k=>c i f λe=>k ((l _).2 (.inr (.inl e))),λi=>i=nid\/i=h.next\/∃m∈M,wh m.2 i,⟨by rw[zU];omega,_,M++ [((⟨v,[],o⟩:Nd),D.nilsl)],zC _ _ _, .inr ⟨h.next,rfl,by rw[zE ow];exact A,by rw[zU];omega,N 0⟩,λe=>by cases e;omega,by simp,λm s=> ?_,λa b m F i e1 e2 t1 t2=> ?_,λi=> ?_⟩,λi f=> ?_,⟨by rw[zU];omega,λi f k=> ?_⟩⟩
 ·rcases mem_append.1 s with q|q
  ·refine(h5 m q).loc (by rw[zU];omega) λi f=> ?_;obtain⟨t1,t2⟩:=(h5 m q).tok f;have R:i≠nid:=λe=>by rw[e,h1] at t2;cases t2
   rw[zE R,c i t1 λe=>by rw[(x.row e).2.2] at t2;cases t2]
  ·rw[mem_singleton.1 q];exact .inl ⟨rfl,rfl⟩
 ·have key:∀ (a:Nat) m,(M++ [((⟨v,[],o⟩:Nd),D.nilsl)])[a]? =some m->wh m.2 i->M[a]? =some m:=λa m e t=>by
   rcases Nat.lt_or_ge a M.length with q|q
   ·rw[<-e,getElem?_append_left q]
   ·rw[getElem?_append_right q] at e;have:=mem_singleton.1 (mem_of_getElem? e);subst this;exact t.elim
  exact I a b m F i (key a m e1 t1) (key b F e2 t2) t1 t2
 ·constructor
  ·rintro(q|q| ⟨m,s,q⟩)
   ·exact .inl q
   ·exact .inr (.inl q)
   ·exact .inr (.inr ⟨m,mem_append_left _ s,q⟩)
  ·rintro(q|q| ⟨m,s,q⟩)
   ·exact .inl q
   ·exact .inr (.inl q)
   ·rcases mem_append.1 s with h|h
    ·exact .inr (.inr ⟨m,h,q⟩)
    ·rw[mem_singleton.1 h] at q;exact q.elim
 ·rcases f with rfl|rfl|q
  ·exact .inl ((l _).2 (.inl rfl))
  ·exact .inr (le_refl _)
  ·exact .inl ((l _).2 (.inr (.inr q)))
 ·rw[zE (λe=>k ((l _).2 (.inl e))),c i f λe=>k ((l _).2 (.inr (.inl e)))]
theorem NdH.kid {L:List Nd} (H:NdH nid L S h) {a:Nat} {nd:Nd} (r:L[a]? =some nd) (n:Int) (hl:nd.kids.length<1048576):
  ∃f N,h.at' nid=some (.row [.rs f 4 0 N])/\nid<h.next/\f<h.next/\N=L.length/\∃cs R,h.at' f=some (.row cs)/\cs[a*4+1]? =some R/\∃g G A,zg prog false h.next 45 R (.sl 1 [[.int .i64 n]] .full) h=some (g,G)/\zQ prog 45 (.ptr f (a*4+1)) g G=some A/\G.at' nid=some (.row [.rs f 4 0 N])/\G.at' f=some (.row cs)/\∃S',NdH nid (L.set a { nd with kids:=nd.kids++ [n] }) S' A/\(∀i,S' i->S i\/h.next<=i)/\But S h A:=by
 obtain⟨h0,d,M,h1,Y,h3,rfl,h5,O,p⟩:=H;rw[getElem?_map] at r;obtain⟨m,u,rfl⟩:∃m,M[a]? =some m/\m.1=nd:=by
  cases q:M[a]? with
  |none=>rw[q] at r;cases r
  |some m=>rw[q] at r;exact⟨m,rfl,by cases r;rfl⟩
 have o:=mem_of_getElem? u;have Z:=(List.getElem?_eq_some_iff.1 u).1;rcases Y with⟨rfl,e⟩ | ⟨f,rfl,r1,r2,r3⟩
 ·have:M= []:=by simpa using e
  subst this;cases u
 have v:(M.map ndC)[a]? =some (ndC m):=by rw[getElem?_map,u];rfl
 obtain⟨g,G,e1,e2,e3,y,J,W,X⟩:=(h5 m o).app4 (P:=prog) (x:= .sl 1 [[.int .i64 n]] .full) (ys:=yr [n]) yI bj wY ow rL (.inr ⟨by simp[yr], .full,rfl⟩) (by rw[yA,nM];unfold lim;simp[yr];omega) (by rw[yA];unfold lim;simp[yr];omega);have E:yr m.1.kids++yr [n]=yr (m.1.kids++ [n]):=by simp[yr]
 rw[E] at e2;have U:∀i V,h.at' i=some (.row V)->¬wh m.2 i:=λi V e t=>by rw[((h5 m o).tok t).2] at e;cases e
 have K:G.at' nid=some (.row [.rs f 4 0 (M.map ndC).length]):=by rw[y _ h0 (U _ _ h1),h1]
 have z:G.at' f=some (.row (M.map ndC).flatten):=by rw[y _ r2 (U _ _ r1),r1]
 have F:nid≠f:=λe=>h3 e;have D:(M.map ndC).flatten.length=M.length*4:=by rw[qF (nZ M),length_map]
 have w:(M.map ndC).flatten.set (a*4+1) g=((M.set a ({ m.1 with kids:=m.1.kids++ [n] },g)).map ndC).flatten:=by
  rw[I9 (nZ M) v ow,map_set];rfl
 refine⟨f,_,h1,h0,r2,by simp,(M.map ndC).flatten,m.2,r1,by rw[I8 (nZ M) v ow];rfl,g,G,G.set f (.row ((M.set a ({ m.1 with kids:=m.1.kids++ [n] },g)).map ndC).flatten),e1,by rw[zT z AQ (by rw[D];omega) W X,w],K,z,λi=>i=nid\/i=f\/∃k∈M.set a ({ m.1 with kids:=m.1.kids++ [n] },g),wh k.2 i,⟨by rw[zU];omega,_,M.set a ({ m.1 with kids:=m.1.kids++ [n] },g),by rw[zE F];exact K, .inr ⟨f,by simp,zC _ _ _,by rw[zU];omega,by rw[map_set];simpa using r3⟩,h3,by rw[map_set],λk l=> ?_,λI b' m1 m2 i q1 q2 t1 t2=> ?_,λi=>Iff.rfl⟩,λi j=> ?_,⟨by rw[zU];exact e3,λi j Q=> ?_⟩⟩
 ·rcases mem_or_eq_of_mem_set l with q|rfl
  ·obtain⟨b,hb,rfl⟩:=mem_iff_getElem.1 l;rw[getElem_set] at q⊢;split
   ·exact e2.loc (by rw[zU];exact le_refl _) λi j=>by rw[zE λe=>by have:=(e2.tok j).2;rw[e,z] at this;cases this]
   ·rename_i B;have C:b<M.length:=by simpa using hb
    have s:M[b]∈M:=getElem_mem _;refine(h5 _ s).loc (by rw[zU];exact e3) λi j=> ?_;obtain⟨t1,t2⟩:=(h5 _ s).tok j;rw[zE (λe=>by rw[e,r1] at t2;cases t2),y i t1 λt=>B (O a b m _ i u (getElem?_eq_getElem C) t j)]
  ·exact e2.loc (by rw[zU];exact le_refl _) λi j=>by rw[zE λe=>by have:=(e2.tok j).2;rw[e,z] at this;cases this]
 ·have key:∀ (c:Nat) k,(M.set a ({ m.1 with kids:=m.1.kids++ [n] },g))[c]? =some k->wh k.2 i->(c=a/\h.next<=i)\/(c≠a/\M[c]? =some k/\i<h.next):=λc k e t=>by
   rw[getElem?_set] at e;split at e
   ·rename_i q;cases e;exact .inl ⟨q.symm,J i t⟩
   ·rename_i q;exact .inr ⟨λe=>q e.symm,e,((h5 k (mem_of_getElem? e)).tok t).1⟩
  rcases key I m1 q1 t1 with⟨k1,k2⟩ | ⟨k1,k2,k3⟩ <;>rcases key b' m2 q2 t2 with⟨l1,T⟩ | ⟨l1,T,l3⟩
  ·omega
  ·omega
  ·omega
  ·exact O I b' m1 m2 i k2 T t1 t2
 ·rcases j with rfl|rfl| ⟨k,l,t⟩
  ·exact .inl ((p _).2 (.inl rfl))
  ·exact .inl ((p _).2 (.inr (.inl rfl)))
  ·rcases mem_or_eq_of_mem_set l with q|rfl
   ·exact .inl ((p _).2 (.inr (.inr ⟨k,q,t⟩)))
   ·exact .inr (J i t)
 ·rw[zE (λe=>Q ((p _).2 (.inr (.inl e)))),y i j λt=>Q ((p _).2 (.inr (.inr ⟨m,o,t⟩)))]
abbrev zDU (p:Part):D:= .agg [tsD p,owD p]
theorem Wd (f:Nat->Nat->List Nd):∀k n,(wk f k n).1.length=k
 |0,_=>rfl
 |k+1,n=>by rw[wk,length_append,Wd f k n];rfl
def Qz (f:Nat->Nat->List Nd) (n:Nat):∀ {k m:Nat},k<=m->(wk f k n).2.length<=(wk f m n).2.length:=λ{k m} h=>by
 induction m with
 |zero=>rw[Nat.le_zero.1 h];exact le_refl _
 |succ m a=>
  rcases Nat.lt_or_eq_of_le h with q|rfl
  ·refine le_trans (a ow) ?_;rw[wk,length_append];omega
  ·exact le_refl _
section
variable {c:Cat} {fs:List Fac} {ca cb ce cp x td od:D}
def POk.alt (S:SpD c fs ca cb ce cp x td od) (b:POk c fs p):∀t∈p.ts,t.length<=64:=λt e=>by
 obtain⟨i,a,rfl⟩:=mem_iff_getElem.1 e;rcases b.t i _ (getElem?_eq_getElem a) with q|q
 ·rw[q];exact zero_le _
 ·have f:i<(tV c fs).length:=by rw[<-b.tl];exact a
  have d:(tV c fs).getD i []∈tV c fs:=by rw[getD_eq_getElem?_getD,getElem?_eq_getElem f];exact getElem_mem _
  exact((S.t64 _ d).2.ts _ q).2
def POk.cin (S:SpD c fs ca cb ce cp x td od) (b:POk c fs p):CIn c fs (sT p) (.agg [ca,cb,ce,cp]) x (zDU p):=
 ⟨S.cat,S.sm,S.x,by have:=S.few.1.2;omega,S.few.1.1,S.ok,⟨_,_,rfl,zZ.mk .no,zZ.mk .no⟩,⟨by have:=S.tl;have:=b.tl;show(p.ts.map se).length<=_;rw[length_map];omega,by have:=S.ol;have:=b.ol;show p.own.length<=_;omega,λa d=>by
  obtain⟨t,e,rfl⟩:=mem_map.1 d;exact⟨by rw[md];exact KR t,by rw[md];have:=b.alt S t e;omega⟩⟩⟩
def POk.err (S:SpD c fs ca cb ce cp x td od) (b:POk c fs p):yq c fs (sT p) true=0:=by
 have h1:(sT p).ts.length=(tV c fs).length:=by show(p.ts.map se).length=_;rw[length_map,b.tl]
 have e:(sT p).own.length=(oV c fs).length:=b.ol;have e1:p8 (t7 (tV c fs) (sT p).ts true) (sT p).ts.length=0:=qZ λi a=>by
  rw[h1,<-b.tl] at a;unfold t7
  have:(sT p).ts[i]? =some (se p.ts[i]):=by show(p.ts.map se)[i]? =_;rw[getElem?_map,getElem?_eq_getElem a];rfl
  rw[this];simp only[md];rcases b.t i _ (getElem?_eq_getElem a) with q|q
  ·rw[q];rfl
  ·split
   ·rfl
   ·rw[iq];simp only[Bool.not_eq_true',Bool.not_eq_false,any_eq_true];simpa using⟨_,q,(rZ _ _).2 rfl⟩
 have e2:p8 (Wq c (sT p).own true) (sT p).own.length=0:=qZ λi a=>by
  unfold Wq;have d:(sT p).own[i]∈p.own:=getElem_mem a;rw[getElem?_eq_getElem a];generalize(sT p).own[i]=s at d;rcases b.o s d with q| ⟨y,f,q⟩
  ·rw[q];rfl
  ·split
   ·rename_i h;cases h
   ·rename_i h;cases h;split
    ·rfl
    ·rw[iq];simp only[Bool.not_eq_true',Bool.not_eq_false,any_eq_true];simpa using⟨y,f,q⟩
 unfold yq;rw[iq (by rw[S.v0];decide),iq (by rw[h1,e];unfold tV oV;simp),iq (by rw[show p8 (t7 (zM c fs).1 (sT p).ts true) (sT p).ts.length=0 from e1];decide)]
 exact e2
def zCQ (S:SpD c fs ca cb ce cp x td od) (a:POk c fs p):jy c fs (sT p)= .tuple [.agg (FP (jz c fs p)), .bool (jz c fs p).isSome, .int .i64 0]:=by
 unfold jy;rw[a.err S,KL];unfold jz vcs;cases sS c fs (sT p)<;>rfl
end
abbrev vfN (yid nid vid:Nat) (sp:List D):D:= .fn (.func 83) [] [.iptr [.ptr nid 0] 0, .iptr [.iptr sp 0] 0, .iptr [.yld yid] 0, .ptr vid 0]
abbrev elP (Lw:List Part) (k:Nat):List D:=[zDU (Lw.getD k ⟨[],[]⟩)]
def zDV (Y:Nat->(Nat->Prop)->Heap->Prop) (Z:(Nat->Prop)->Heap->Prop) (nid:Nat) (S1 S2:Nat->Prop) (h:Heap) (k:Nat) (L:List Nd) (r:D) (h':Heap):Prop:=
 ∃S1' S2',(∀i,S1' i->S1 i\/h.next<=i)/\(∀i,S2' i->S2 i\/h.next<=i)/\(∀i,S1' i->¬S2' i)/\But (λi=>S1 i\/S2 i) h h'/\((r= .bool true/\Y k S1' h'/\NdH nid L S2' h')\/(r= .bool false/\Z S1' h'/\∃L',NdH nid L' S2' h'))
variable {c:Cat}{fs:List Fac}
def tr {v:Vio} (e:jz c fs p=some v) (m n:Nat):uE c fs m p= []/\uX c fs m p n= [⟨-1,[],some v⟩]:=by
 cases m<;>simp[uE,uX,e]
def kJ (e:jz c fs p=none) (e2:nxV c fs p=none) (m n:Nat):uE c fs m p= [p]/\uX c fs m p n= []:=by
 cases m<;>simp[uE,uX,e,e2]
def Heap.two (i j:Nat) (h:Heap):Heap:=⟨0,λk=>if k=i\/k=j then h.at' k else none⟩
def KZ (i j:Nat) (h:Heap):(Heap.two i j h).at' i=h.at' i:=ip (.inl rfl)
def Ka (i j:Nat) (h:Heap):(Heap.two i j h).at' j=h.at' j:=ip (.inr rfl)
def YL (h1:h'.at' i=h.at' i) (a:h'.at' j=h.at' j):HLe (Heap.two i j h) h':=λk b e=>by
 simp only[Heap.two] at e;split at e
 ·rename_i q;rcases q with rfl|rfl
  ·rw[h1];exact e
  ·rw[a];exact e
 ·cases e
section
variable {c:Cat} {fs:List Fac} {ca cb ce cp x td od:D}
theorem HA (S:SpD c fs ca cb ce cp x td od) {z nid s:Nat} {Lw:List Part} {Y:Nat->(Nat->Prop)->Heap->Prop} {Z:(Nat->Prop)->Heap->Prop} (y:Yld prog z Lw.length (elP Lw) Y Z):∀ (m:Nat) (p:Part),POk c fs p->opn c fs p<=m->∀k,(∀j q,(uE c fs m p)[j]? =some q->Lw[k+j]? =some q)->∀L S1 X h,Y k S1 h->NdH nid L X h->(∀i,S1 i->¬X i)->s<h.next->¬S1 s->¬X s->h.at' s=some (.row [vfN z nid s [ca,cb,ce,cp,x,td,od]])->L.length+(uX c fs m p L.length).length<=1048576->zA prog 83 [zDU p, .iptr [.ptr nid 0] 0, .iptr [.iptr [ca,cb,ce,cp,x,td,od] 0] 0, .iptr [.yld z] 0, .ptr s 0] h (zDV Y Z nid S1 X h (k+(uE c fs m p).length) (L++uX c fs m p L.length)):=by
 intro m
 induction m using Nat.strongRecOn with
 |ind m ih=>
 intro p hp hm k hk L S1 X h hY hN hd v0 v1 v2 hv hB;have ds:∀h,HLe Heap.emp h:=λh i ob e=>by cases e
 have dv:zN true 4 [ca,cb,ce,cp,x,td,od] 0=some (.agg [ca,cb,ce,cp]):=rfl;have w:=Qv (hp.cin S);rw[zCQ S hp] at w;obtain⟨d,n1,n2⟩:=hN.len;refine xP λQ hQ=> ?_;cases e0:jz c fs p with
 |some v=>
  obtain⟨U,V⟩:=tr e0 m L.length;rw[U,V] at hQ;rw[V] at hB;rw[e0] at w;simp only[FP,Vio.cells,Option.isSome] at w;have b9:zQ prog 65 (.ptr h.next 0) (.agg [.int .i64 v.row, .sl 1 (yr v.facts) .no]) (h.new h.next (.row [.int .i64 0, .nilsl]))=some (h.new h.next (.row [.int .i64 v.row, .sl 1 (yr v.facts) .no])):=zh ug ow rfl rfl rfl;have hb:zx prog 67 [(0, .int .i64 (-1)),(2, .agg [.int .i64 v.row, .sl 1 (yr v.facts) .no])]=some (.agg (ndC (⟨-1,[],some v⟩, .nilsl))):=by
   simp[zx,bm,gT,qK,yY,ndC,FP,Vio.cells,D.cells,D.notTuple]
  have b4:∀nid H,zI prog false nid 35 1 [(0, .agg (ndC (⟨-1,[],some v⟩, .nilsl)))] H=some (.sl 4 [ndC (⟨-1,[],some v⟩, .nilsl)] .full,H):=λnid H=>zz (x:= .agg (ndC (⟨-1,[],some v⟩, .nilsl))) lN gT bl rfl rfl ow ow rfl rfl;obtain⟨G,hG,hE,bx,c6⟩:∃G:Heap,h.new h.next (.row [.int .i64 v.row, .sl 1 (yr v.facts) .no])=G/\Ext h G/\G.next=h.next+1/\G.at' h.next=some (.row [.int .i64 v.row, .sl 1 (yr v.facts) .no]):=⟨_,rfl,(Ext.refl h).new (le_refl _) _,zF _ _,zK _ _ _⟩;rw[hG] at b9;have B:=hN.loc hE.1 λi o=>hE.2 i (hN.here i o)
  obtain⟨d',a1,a2,r,G1,G2,a3,a4,b1,b2,M,a5,a6,a7⟩:=B.app (-1) (some v) (by simp at hB;omega);rw[bx] at a3;have A:=y.ext hY hE;have ad:Q (.bool true) G2:=hQ _ _ ⟨S1,M,λi o=> .inl o,λi o=>(a6 i o).imp id λq=>by omega,λi h1 R=>by
   rcases a6 i R with q|q
   ·exact hd i h1 q
   ·have:=y.here _ _ _ hY i h1;omega,(hE.but _).trans ⟨a7.1,λi o hn=>a7.2 i o λq=>hn (.inr q)⟩ λi o=> .inl o, .inl ⟨rfl,y.loc _ _ _ _ A a7.1 λi o=>a7.2 i (by have:=y.here _ _ _ A i o;omega) (hd i o),a5⟩⟩
  have E:HLe (Heap.two nid h.next G) G:=YL rfl rfl;have ag:HLe (Heap.two nid h.next G) G1:=YL (by rw[b1,a1]) (b2 _ ow λq=>lt_irrefl _ (hN.here _ q));have t1:(Heap.two nid h.next G).at' nid=some (.row [d']):=by rw[KZ];exact a1
  have t2:(Heap.two nid h.next G).at' h.next=some (.row [.int .i64 v.row, .sl 1 (yr v.facts) .no]):=by rw[Ka];exact c6
  clear hQ hY hN hd v0 v1 v2 hv hB U V e0 hk hm ih B A hG a5 a6 a7 b1 b2;refine xO mix func83 zC2 rfl rfl ?_;simp only[f83,gJ]
  repeat' first|simp only[go_sem, *]|apply bc<;>intro C
  refine zP Heap.emp [(0, .st,true),(4, .st,true),(8, .st,true),(1, .no,true),(2, .no,true),(3, .st,true),(5, .no,true),(6, .no,true),(7, .st,true),(9, .st,true),(10, .no,true),(11, .no,true),(12, .no,true),(13, .no,true),(14, .no,true),(15, .no,true),(16, .no,true),(17, .no,true)] kr kr (λi ob e=>by cases e) ?_
  repeat' first|simp only[go_sem, *]|apply bc<;>intro C
  refine Vk _ (λH=>w H) ?_
  repeat' first|simp only[go_sem, *]|apply bc<;>intro C
  refine zP (Heap.two nid h.next G) [(0, .st,true),(1, .no,true),(4, .no,true),(2, .no,true),(3, .no,true),(5, .no,true),(6, .no,true),(7, .no,true),(8, .no,true),(9, .no,false)] kr kr E ?_
  repeat' first|simp only[go_sem, *]|apply bc<;>intro C
 |none=>
  rw[e0] at w;simp only[FP,Option.isSome] at w;have O:=CQ S hp;have b9:zQ prog 65 (.ptr h.next 0) (.agg [.int .i64 0, .nilsl]) (h.new h.next (.row [.int .i64 0, .nilsl]))=some (h.new h.next (.row [.int .i64 0, .nilsl])):=zh ug ow rfl rfl rfl;obtain⟨G,hG,hE,bx⟩:∃G:Heap,h.new h.next (.row [.int .i64 0, .nilsl])=G/\Ext h G/\G.next=h.next+1:=⟨_,rfl,(Ext.refl h).new (le_refl _) _,zF _ _⟩;rw[hG] at b9;have A:=y.ext hY hE;have B:=hN.loc hE.1 λi o=>hE.2 i (hN.here i o);cases e1:nxV c fs p with
  |none=>
   obtain⟨U,V⟩:=kJ e0 e1 m L.length;rw[U,V,append_nil] at hQ;rw[U] at hk;rw[e1] at O;have b8:Lw[k]? =some p:=hk 0 p rfl;have b7:=(List.getElem?_eq_some_iff.1 b8).1;have b6:=y.go k S1 G b7 A;rw[elP,getD_eq_getElem?_getD,b8,Option.getD_some] at b6;have ad:∀r h',(∃S',(∀i,S' i->S1 i\/G.next<=i)/\But S1 G h'/\((r= .bool true/\Y (k+1) S' h')\/(r= .bool false/\Z S' h')))->Q r h':=by
    rintro r h' ⟨S',q1,q2,q3⟩;refine hQ _ _ ⟨S',X,λi o=>(q1 i o).imp id λq=>by omega,λi o=> .inl o,λi h1 R=> ?_,(hE.but _).trans ⟨q2.1,λi o hn=>q2.2 i o λq=>hn (.inl q)⟩ λi o=> .inl o,?_⟩
    ·rcases q1 i h1 with q|q
     ·exact hd i q R
     ·have:=hN.here i R;omega
    ·have cu:=B.loc q2.1 λi o=>q2.2 i (B.here i o) λq=>hd i q o;rcases q3 with⟨rfl,q⟩ | ⟨rfl,q⟩
     ·exact .inl ⟨rfl,q,cu⟩
     ·exact .inr ⟨rfl,q,_,cu⟩
   clear hQ hY hN hd v0 v1 v2 hv hB U V e0 e1 hk b8 b7 hm ih B A;refine xO mix func83 zC2 rfl rfl ?_;simp only[f83,gJ]
   repeat' first|simp only[go_sem, *]|apply bc<;>intro C
   refine zP Heap.emp [(0, .st,true),(4, .st,true),(8, .st,true),(1, .no,true),(2, .no,true),(3, .st,true),(5, .no,true),(6, .no,true),(7, .st,true),(9, .st,true),(10, .no,true),(11, .no,true),(12, .no,true),(13, .no,true),(14, .no,true),(15, .no,true),(16, .no,true),(17, .no,true)] kr kr (λi ob e=>by cases e) ?_
   repeat' first|simp only[go_sem, *]|apply bc<;>intro C
   refine Vk _ (λH=>w H) ?_
   repeat' first|simp only[go_sem, *]|apply bc<;>intro C|(refine zA.mono (O _) ?_;rintro r h ⟨hq,rfl⟩)
   subst hq
   repeat' first|simp only[go_sem, *]|apply bc<;>intro C
   refine b6.mono λr h' hq=> ?_;have hq:=ad r h' hq;clear ad b6
   repeat' first|simp only[go_sem, *]|apply bc<;>intro C
  |some v=>
   obtain⟨cc,c2,_⟩:=re e1;obtain⟨J,rfl⟩:∃J,m=J+1:=⟨m-1,by
    have:0<opn c fs p:=length_pos_iff.2 (ne_nil_of_mem (mem_filter.2 ⟨mem_range.2 cc,c2⟩));omega⟩
   have U:uE c fs (J+1) p=(List.range (szV c fs v)).flatMap λk=>uE c fs J (tp c fs p v k):=by simp[uE,e0,e1]
   have V:∀n,uX c fs (J+1) p n= ⟨(v:Int),(wk (λk n'=>uX c fs J (tp c fs p v k) n') (szV c fs v) (n+1)).1,none⟩ ::(wk (λk n'=>uX c fs J (tp c fs p v k) n') (szV c fs v) (n+1)).2:=λn=>by simp[uX,e0,e1]
   rw[U,V] at hQ;rw[V,length_cons] at hB;rw[U] at hk;have ih:=ih J ow;have c0:=λi o=>cK hp S.v0 (v:=v) (k:=i) e1 o;have du:szV c fs v<=1048576:=by
    unfold szV;split
    ·rename_i q;have hm:(tV c fs).getD v []∈tV c fs:=by rw[getD_eq_getElem?_getD,getElem?_eq_getElem q];exact getElem_mem _
     have:=(S.t64 _ hm).1;omega
    ·exact S.sm.ls.1
   generalize hF:(λk n'=>uX c fs J (tp c fs p v k) n')=F at *
   have bs:∀k n',uX c fs J (tp c fs p v k) n'=F k n':=λk n'=>by rw[<-hF]
   generalize hK:(λi=>oD (List.range (szV c fs v)) (λk=>uE c fs J (tp c fs p v k)) i)=K;have cg:K 0=0:=by rw[<-hK];exact aI _ _
   have cm:∀i,i<szV c fs v->K (i+1)=K i+(uE c fs J (tp c fs p v i)).length:=λi o=>by rw[<-hK];exact pz (by simp[o])
   have ch:K (szV c fs v)=((List.range (szV c fs v)).flatMap λk=>uE c fs J (tp c fs p v k)).length:=by
    have:=df (List.range (szV c fs v)) (λk=>uE c fs J (tp c fs p v k));rw[length_range] at this;rw[<-hK];exact this
   have cl:∀i,i<szV c fs v->∀j q,(uE c fs J (tp c fs p v i))[j]? =some q->Lw[k+K i+j]? =some q:=λi o j q hj=>by
    have h1:=UA (l:=List.range (szV c fs v)) (f:=λk=>uE c fs J (tp c fs p v k)) (a:=i) (x:=i) (b:=j) (by simp[o]) (List.getElem?_eq_some_iff.1 hj).1;rw[Nat.add_assoc];refine hk _ q ?_;rw[<-hK];exact h1.trans hj
   rw[<-ch] at hQ;rw[e1] at O;obtain⟨d',a1,a2,r,G1,G2,a3,a4,b1,b2,M,a5,a6,a7⟩:=B.app (v:Int) none ow;rw[bx] at a3;have hb:zx prog 67 [(0, .int .i64 (v:Int))]=some (.agg (ndC (⟨(v:Int),[],none⟩, .nilsl))):=by
    simp[zx,bm,gT,qK,yY,ndC,FP,D.cells,D.notTuple]
   have b4:∀nid H,zI prog false nid 35 1 [(0, .agg (ndC (⟨(v:Int),[],none⟩, .nilsl)))] H=some (.sl 4 [ndC (⟨(v:Int),[],none⟩, .nilsl)] .full,H):=λnid H=>zz (x:= .agg (ndC (⟨(v:Int),[],none⟩, .nilsl))) lN gT bl rfl rfl ow ow rfl rfl;have E:HLe (Heap.one nid (.row [d'])) G:=by rw[oX];exact a1
   have ag:HLe (Heap.one nid (.row [d'])) G1:=by rw[oX];exact b1
   obtain⟨I,hI⟩:∃I:Nat->Heap->Prop,∀i h',I i h'↔∃bo M,(∀i,bo i->S1 i\/h.next<=i)/\(∀i,M i->X i\/h.next<=i)/\(∀i,bo i->¬M i)/\But (λi=>S1 i\/X i) h h'/\Y (k+K i) bo h'/\NdH nid (L++ ⟨(v:Int),(wk F i (L.length+1)).1,none⟩ ::(wk F i (L.length+1)).2) M h':=⟨_,λ_ _=>Iff.rfl⟩;have b3:I 0 G2:=(hI _ _).2 ⟨S1,M,λi o=> .inl o,λi o=>(a6 i o).imp id λq=>by omega,λi h1 R=>by
    rcases a6 i R with q|q
    ·exact hd i h1 q
    ·have:=y.here _ _ _ hY i h1;omega,(hE.but _).trans ⟨a7.1,λi o hn=>a7.2 i o λq=>hn (.inr q)⟩ λi o=> .inl o,by rw[cg];exact y.loc _ _ _ _ A a7.1 λi o=>a7.2 i (by have:=y.here _ _ _ A i o;omega) (hd i o),a5⟩
   have T:∀h',I (szV c fs v) h'->Q (.bool true) h':=λh' q=>by
    obtain⟨T1,T2,q1,q2,q3,q4,q5,q6⟩:=(hI _ _).1 q;exact hQ _ _ ⟨T1,T2,q1,q2,q3,q4, .inl ⟨rfl,q5,q6⟩⟩
   have hR:∀i h',i<szV c fs v->I i h'->∃t N cs kd a0 G3 W,h'.at' nid=some (.row [.rs t 4 0 N])/\h'.at' t=some (.row cs)/\cs[L.length*4+1]? =some kd/\L.length<N/\zg prog false h'.next 45 kd (.sl 1 [[.int .i64 (N:Int)]] .full) h'=some (a0,G3)/\zQ prog 45 (.ptr t (L.length*4+1)) a0 G3=some W/\G3.at' nid=some (.row [.rs t 4 0 N])/\G3.at' t=some (.row cs)/\W.at' s=some (.row [vfN z nid s [ca,cb,ce,cp,x,td,od]])/\zA prog 83 [zDU (tp c fs p v i), .iptr [.ptr nid 0] 0, .iptr [.iptr [ca,cb,ce,cp,x,td,od] 0] 0, .iptr [.yld z] 0, .ptr s 0] W λr R=>(r= .bool true/\I (i+1) R)\/(r= .bool false/\Q (.bool false) R):=λi h' o q=>by
    obtain⟨T1,T2,q1,q2,q3,q4,q5,q6⟩:=(hI _ _).1 q;have b7:=Wd F i (L.length+1);have dk:=Qz F (L.length+1) (k:=i+1) (m:=szV c fs v) o;have dr:(wk F (i+1) (L.length+1)).2.length=(wk F i (L.length+1)).2.length+(F i (L.length+1+(wk F i (L.length+1)).2.length)).length:=by rw[wk,length_append]
    have db:wk F (i+1) (L.length+1)=((wk F i (L.length+1)).1++ [((L.length+1+(wk F i (L.length+1)).2.length:Nat):Int)],(wk F i (L.length+1)).2++F i (L.length+1+(wk F i (L.length+1)).2.length)):=by rw[wk]
    generalize wk F i (L.length+1)=KN at *
    obtain⟨ks,rest⟩:=KN;simp only at *
    have c7:(L++ ⟨(v:Int),ks,none⟩ ::rest).length=L.length+1+rest.length:=by rw[length_append,length_cons];omega
    obtain⟨t,N,r1,r2,r3,r4,cs,kd,r5,r6,a0,G3,W,r7,r8,r9,r10,S3,r11,r12,r13⟩:=q6.kid (a:=L.length) (nd:=⟨(v:Int),ks,none⟩) (by simp) ((L.length+1+rest.length:Nat):Int) (by show ks.length<_;omega);rw[c7] at r4;subst r4;have c1:(L++ ⟨(v:Int),ks,none⟩ ::rest).set L.length ⟨(v:Int),ks++ [((L.length+1+rest.length:Nat):Int)],none⟩ =L++ ⟨(v:Int),ks++ [((L.length+1+rest.length:Nat):Int)],none⟩ ::rest:=by
     rw[set_append_right _ _ (le_refl _),Nat.sub_self];rfl
    simp only[c1] at r11;have cf:¬T1 s/\¬T2 s:=⟨λe=>(q1 s e).elim v1 ow,λe=>(q2 s e).elim v2 ow⟩;have di:h'.at' s=some (.row [vfN z nid s [ca,cb,ce,cp,x,td,od]]):=by rw[q4.2 s v0 (λe=>e.elim v1 v2)];exact hv
    have c3:s<h'.next:=lt_of_lt_of_le v0 q4.1;have bk:W.at' s=some (.row [vfN z nid s [ca,cb,ce,cp,x,td,od]]):=by rw[r13.2 s c3 cf.2];exact di
    have c8:Y (k+K i) T1 W:=y.loc _ _ _ _ q5 r13.1 λi o=>r13.2 i (y.here _ _ _ q5 i o) (q3 i o);have c9:∀i,T1 i->¬S3 i:=λi h1 R=>by
     rcases r12 i R with q|q
     ·exact q3 i h1 q
     ·have:=y.here _ _ _ q5 i h1;omega
    refine⟨t,_,cs,kd,a0,G3,W,r1,r5,r6,by omega,r7,r8,r9,r10,bk,?_⟩;have ba:(L++ ⟨(v:Int),ks++ [((L.length+1+rest.length:Nat):Int)],none⟩ ::rest).length=L.length+1+rest.length:=by rw[length_append,length_cons];omega
    have u:=ih (tp c fs p v i) (hp.dec o) (by have:=c0 i o;omega) (k+K i) (cl i o) _ T1 S3 W c8 r11 c9 (lt_of_lt_of_le c3 r13.1) cf.1 (λe=>(r12 s e).elim cf.2 ow) bk (by rw[ba,bs];omega);rw[ba,bs] at u;refine u.mono ?_;rintro r R ⟨U1,U2,u1,u2,u3,u4,u5⟩;have ai:∀i,U1 i->S1 i\/h.next<=i:=λi o=>by
     rcases u1 i o with q|q
     ·exact q1 i q
     ·have:=r13.1;have:=q4.1;exact .inr ow
    have ak:∀i,U2 i->X i\/h.next<=i:=λi o=>by
     have e1:=r13.1;have e2:=q4.1;rcases u2 i o with q|q
     ·rcases r12 i q with q|q
      ·exact q2 i q
      ·exact .inr ow
     ·exact .inr ow
    have bb:But (λi=>S1 i\/X i) h R:=by
     have e1:=r13.1;have e2:=q4.1;have b1:But (λi=>S1 i\/X i) h W:=q4.trans r13 λi o=>(q2 i o).imp .inr id;refine b1.trans u4 λi o=> ?_;rcases o with q|q
     ·exact(q1 i q).imp .inl id
     ·rcases r12 i q with q|q
      ·exact(q2 i q).imp .inr id
      ·exact .inr ow
    rcases u5 with⟨rfl,U,V⟩ | ⟨rfl,U,L',V⟩
    ·refine .inl ⟨rfl,(hI _ _).2 ⟨U1,U2,ai,ak,u3,bb,by rw[cm i o,<-Nat.add_assoc];exact U,?_⟩⟩;rw[db];simpa using V
    ·exact .inr ⟨rfl,hQ _ _ ⟨U1,U2,ai,ak,u3,bb, .inr ⟨rfl,U,L',V⟩⟩⟩
   have a9:=UL S v;have a8:=λi o g=>Wc (t1:= .no) (t2:= .no) S hp (v:=v) (k:=i) cc o g;clear a5 a6 a7 b1 b2 A B hE hQ hY hN hd v0 v1 v2 hv hB U V e0 e1 hk hm ih c0 cm cg ch cl bs hI cc c2;refine xO mix func83 zC2 rfl rfl ?_;simp only[f83,gJ]
   repeat' first|simp only[go_sem, *]|apply bc<;>intro C
   refine zP Heap.emp [(0, .st,true),(4, .st,true),(8, .st,true),(1, .no,true),(2, .no,true),(3, .st,true),(5, .no,true),(6, .no,true),(7, .st,true),(9, .st,true),(10, .no,true),(11, .no,true),(12, .no,true),(13, .no,true),(14, .no,true),(15, .no,true),(16, .no,true),(17, .no,true)] kr kr (λi ob e=>by cases e) ?_
   repeat' first|simp only[go_sem, *]|apply bc<;>intro C
   refine Vk _ (λH=>w H) ?_
   repeat' first|simp only[go_sem, *]|apply bc<;>intro C|(refine zA.mono (O _) ?_;rintro r h ⟨hq,rfl⟩)
   subst hq
   repeat' first|simp only[go_sem, *]|apply bc<;>intro C
   refine zP (Heap.one nid (.row [d'])) [(0, .st,true),(1, .no,true),(2, .no,true),(3, .no,true),(4, .no,true),(5, .no,true),(6, .no,true),(7, .no,true),(8, .no,true),(9, .no,false)] kr kr E ?_
   repeat' first|simp only[go_sem, *]|apply bc<;>intro C|(refine zA.mono (a9 _) ?_;rintro r h ⟨hq,rfl⟩)
   subst hq;refine zD (λi fr h'=>fr 1= .iptr [.ptr nid 0] 0/\fr 2= .iptr [.iptr [ca,cb,ce,cp,x,td,od] 0] 0/\fr 3= .iptr [.yld z] 0/\fr 4= .ptr s 0/\fr 5= .iptr [tsD p,owD p] 0/\fr 7= .int .i64 (L.length:Int)/\fr 11= .int .i64 (v:Int)/\fr 64= .int .i64 (szV c fs v:Int)/\fr 65= .int .i64 (i:Int)/\I i h') (szV c fs v) ow ?_ ?_ ?_
   ·clear T hR a8 a9 O w;simp only[go_sem,true_and,and_true,Int.ofNat_zero];exact b3
   ·clear T w O a9 a1 a2 a3 a4 E ag b3 n1 n2;rintro i fr h' cw ec ew ⟨f1,f2,f3,f4,f5,f7,c4,f64,c5,hI⟩;obtain⟨t,N,cs,kd,a0,G3,W,r1,r2,r3,r4,r5,r6,r7,r8,r9,u⟩:=hR i h' cw hI;have b5:=a8 i cw;have dt:∀H,tu prog 35 (.rs t 4 0 N) H=some (.int .i64 (N:Int)):=λH=>tz underlying35;have da:=yB (P:=prog) (sz:=4) (id:=t) lN bl (k:= .i64) r4;have b4:∀nid H,zI prog false nid 45 1 [(0, .int .i64 (N:Int))] H=some (.sl 1 [[.int .i64 (N:Int)]] .full,H):=λnid H=>zz (x:= .int .i64 (N:Int)) yI uf wY rfl rfl ow ow rfl rfl;have cv:HLe (Heap.two nid t h') h':=YL rfl rfl
    have dd:HLe (Heap.two nid t h') G3:=YL (by rw[r7,r1]) (by rw[r8,r2]);have t1:(Heap.two nid t h').at' nid=some (.row [.rs t 4 0 N]):=by rw[KZ];exact r1
    have t2:(Heap.two nid t h').at' t=some (.row cs):=by rw[Ka];exact r2
    have de:HLe (Heap.one s (.row [vfN z nid s [ca,cb,ce,cp,x,td,od]])) W:=by rw[oX];exact r9
    clear hR a8 hI r4 r7 r8
    repeat' first|simp only[go_sem, *]|apply bc<;>intro C
    refine zP (Heap.two nid t h') [(0, .st,true),(4, .no,true),(11, .no,true),(1, .no,true),(2, .st,true),(3, .no,true),(5, .no,true),(6, .no,true),(7, .no,true),(8, .no,true),(9, .no,true),(10, .no,true),(12, .no,true),(13, .no,true),(14, .no,true),(15, .no,true),(16, .no,true),(17, .no,true),(18, .no,true),(19, .no,false)] kr kr cv ?_
    repeat' first|simp only[go_sem, *]|apply bc<;>intro C
    refine zP (Heap.one s (.row [vfN z nid s [ca,cb,ce,cp,x,td,od]])) [(0, .st,true),(1, .no,true),(2, .no,true),(3, .no,true),(4, .no,true),(5, .no,true),(6, .no,false),(7, .no,false)] kr kr de ?_;clear cv dd r1 r2 r3 r5 r6 da b4 t1 t2
    repeat' first|simp only[go_sem,lh, *]|apply bc<;>intro C|(refine zA.mono (b5 _) ?_;rintro r h ⟨hq,rfl⟩)
    subst hq
    repeat' first|simp only[go_sem, *]|apply bc<;>intro C
    refine u.mono ?_;rintro r R (⟨rfl,o⟩ | ⟨rfl,o⟩)
    ·clear u b5;exact au
    ·clear u b5;exact au
   ·clear hR w O a9 a1 a2 a3 a4 E ag b3 n1 n2 a8;rintro fr h' ec ⟨f1,f2,f3,f4,f5,f7,c4,f64,c5,hI⟩;have hq:=T _ hI;clear T hI;exact au
end
def Kb (sp:List D) (nid:Nat):D:= .fn (.func 82) [] [.iptr [.ptr nid 0] 0, .iptr [.iptr sp 0] 0]
def CU (a:List D) (nid:Nat) (g:Heap):zA prog 42 [.iptr a 0, .ptr nid 0] g λr h'=>h'=g/\r=Kb a nid:=by
 refine xO mix func42 zHh rfl rfl ?_;simp only[f42,gJ];simp only[go_sem,Kb, *]
abbrev uV (c:Cat) (fs:List Fac):List Part:=uE c fs (ctV c fs) (sU c fs)
abbrev uF (c:Cat) (fs:List Fac):List Nd:=uX c fs (ctV c fs) (sU c fs) 0
section
variable {c:Cat} {fs:List Fac} {ca cb ce cp x td od:D}
def HB (S:SpD c fs ca cb ce cp x td od) (D:(uF c fs).length<=1048576) {a nid:Nat} {Y:Nat->(Nat->Prop)->Heap->Prop} {Z:(Nat->Prop)->Heap->Prop} (y:Yld prog a (uV c fs).length (elP (uV c fs)) Y Z) (v:Y 0 U h) (n:NdH nid [] S0 h) (I:∀i,U i->¬S0 i):
  zA prog 82 [.yld a, .iptr [.ptr nid 0] 0, .iptr [.iptr [ca,cb,ce,cp,x,td,od] 0] 0] h λ_ h'=>∃r,zDV Y Z nid U S0 h (uV c fs).length (uF c fs) r h':=by
 have s:=CS S;have H:∀ (t:TypeId) (nid:Nat) (h:Heap),jj t nid h (some .nilfn)=some (.ptr nid 0,h.new nid (.row [.nilfn])):=λ_ _ _=>rfl;have u:zQ prog 41 (.ptr h.next 0) (vfN a nid h.next [ca,cb,ce,cp,x,td,od]) (h.new h.next (.row [.nilfn]))=some (h.new h.next (.row [vfN a nid h.next [ca,cb,ce,cp,x,td,od]])):=zh AP ow rfl rfl rfl;obtain⟨G,E,l,k,m⟩:∃G:Heap,h.new h.next (.row [vfN a nid h.next [ca,cb,ce,cp,x,td,od]])=G/\Ext h G/\G.at' h.next=some (.row [vfN a nid h.next [ca,cb,ce,cp,x,td,od]])/\h.next<G.next:=⟨_,rfl,(Ext.refl h).new (Nat.le_refl _) _,zK _ _ _,by rw[zF];omega⟩;rw[E] at u
 have p:opn c fs (sU c fs)<=ctV c fs:=by
  unfold opn;exact Nat.le_trans (List.length_filter_le _ _) (by simp)
 have d:=HA S y (ctV c fs) (sU c fs) (qf c fs _) p 0 (λj q e=>by rw[Nat.zero_add];exact e) [] U S0 G (y.ext v l) (n.loc l.1 λi f=>l.2 i (n.here i f)) I m (λe=>Nat.lt_irrefl _ (y.here _ _ _ v _ e)) (λe=>Nat.lt_irrefl _ (n.here _ e)) k (by simpa using D);have b:∀r h',zDV Y Z nid U S0 G (0+(uE c fs (ctV c fs) (sU c fs)).length) ([]++uX c fs (ctV c fs) (sU c fs) ([]:List Nd).length) r h'->zDV Y Z nid U S0 h (uV c fs).length (uF c fs) r h':=by
  rintro r h' ⟨B,C,J,K,L,M,A⟩;rw[Nat.zero_add] at A;exact⟨B,C,λi f=>(J i f).imp id λq=>by omega,λi f=>(K i f).imp id λq=>by omega,L,(l.but _).trans M λi f=> .inl f,A⟩
 have o:HLe (Heap.one h.next (.row [vfN a nid h.next [ca,cb,ce,cp,x,td,od]])) G:=by rw[oX];exact k
 refine xP λQ F=> ?_;have b:=λr h' q=>F (.tuple []) h' ⟨r,b r h' q⟩;refine xO mix func82 zHa rfl rfl ?_;simp only[f82,gJ]
 repeat' first|simp only[go_sem, *]|apply bc<;>intro w
 refine zP (Heap.one h.next (.row [vfN a nid h.next [ca,cb,ce,cp,x,td,od]])) [(0, .st,true),(1, .no,true),(2, .no,true),(3, .no,false)] kr kr o ?_
 repeat' first|simp only[go_sem,lh, *]|apply bc<;>intro w|(refine zA.mono (s _) ?_;rintro r h ⟨z,rfl⟩)
 subst z
 repeat' first|simp only[go_sem, *]|apply bc<;>intro w
 refine d.mono λr h' q=> ?_;have z:=b r h' q;exact au
end
structure NdI where
 var:Int
 kids:List Int
 row:Int
 facts:List Int
def zGk (n:NdI) (cs:List D):Prop:=∃kd fd,cs= [.int .i64 n.var,kd, .int .i64 n.row,fd]/\zZ 1 (yr n.kids) kd/\zZ 1 (yr n.facts) fd
def We (ns:List NdI) (d:D):Prop:=∃xs,zZ 4 xs d/\xs.length=ns.length/\∀ (i:Nat) n,ns[i]? =some n->∃cs,xs[i]? =some cs/\zGk n cs
protected def Nd.i (n:Nd):NdI:=⟨n.var,n.kids,(n.vio.map Vio.row).getD 0,(n.vio.map Vio.facts).getD []⟩
def tsF (q:Part):D:=if q.ts= [] then .nilsl else tsD q
def owF (q:Part):D:=if q.own= [] then .nilsl else owD q
def zCR (c:Cat) (fs:List Fac) (r:D):Prop:=(yR c fs≠0/\r= .tuple [.agg [.bool false, .nilsl, .nilsl, .nilsl], .int .i64 (yR c fs)])\/(yR c fs=0/\((∃q,(uV c fs).head? =some q/\r= .tuple [.agg [.bool true,tsF q,owF q, .nilsl], .int .i64 0])\/(uV c fs= []/\∃rd,We ((uF c fs).map Nd.i) rd/\r= .tuple [.agg [.bool false, .nilsl, .nilsl,rd], .int .i64 0])))
theorem Wf:∀ {M:List (Nd×D)},(∀m∈M,wg h 1 (yr m.1.kids) m.2)->sD 0 (ue (M.map ndC))/\(ue (M.map ndC)).length=M.length/\∀ (i:Nat) n,(M.map λm=>m.1.i)[i]? =some n->∃cs,(ue (M.map ndC))[i]? =some cs/\zGk n cs
 | [],_=>⟨trivial,rfl,λi n e=>by simp at e⟩
 |m::M,b=>by
  obtain⟨h1,k,h3⟩:=Wf λq l=>b q (List.mem_cons_of_mem _ l);obtain⟨k1,k2⟩:=(b m List.mem_cons_self).fin nW;have p:∃a,zw (FP m.1.vio)= [.int .i64 m.1.i.row,a]/\below 0 a/\zZ 1 (yr m.1.i.facts) a:=by
   obtain⟨⟨v,ks,o⟩,d⟩:=m;cases o with
   |none=>exact⟨.nilsl,rfl,trivial,zZ.nil⟩
   |some v=>
    have c:=yC (sz:=1) (xs:=yr v.facts) nW .no;refine⟨.sl 1 (yr v.facts) .no,?_,c.2,zZ.mk .no⟩;show [zj _,zj _]=_;rw[c.1];rfl
  obtain⟨a,f,g,j⟩:=p;have e1:zw (ndC m)= [.int .i64 m.1.var,zj m.2, .int .i64 m.1.i.row,a]:=by
   show zj _::zj _::zw (FP m.1.vio)=_;rw[f];rfl
  refine⟨⟨?_,h1⟩,by show(ue (M.map ndC)).length+1=_;rw[k];rfl,λi n e=> ?_⟩
  ·rw[e1];exact⟨trivial,k1,trivial,g,trivial⟩
  ·cases i with
   |zero=>cases e;exact⟨_,rfl,zj m.2,a,e1,k2.isSl,j⟩
   |succ i=>exact h3 i n e
def NdH.fin {L:List Nd} (H:NdH nid L S h) (s:Ext g h) (p:∀i,S i->g.next<=i) {Q R:D->Heap->Prop} {mk:D->D} (j:∀id cs d,frz id cs (mk d)=mk (frz id cs d)) (c:∀d,zj (mk d)=mk (zj d)) (b:∀d,below 0 d->below 0 (mk d))
  (f:∀d h',Ext g h'->below g.next (zj (mk d))->We (L.map Nd.i) (zj d)->Q (mk d) h') (l:∀d h',(Q d h'\/∃id cs,h'.at' id=some (.row cs)/\Q (frz id cs d) (h'.del id))->R d h'):∃d,h.at' nid=some (.row [d])/\d.cells= [d]/\d.notTuple=true/\d.flat=true/\∀h',(∀i,S i->i≠nid->h'.at' i=h.at' i)->Ext g h'->R (mk d) h':=by
 obtain⟨h0,d,M,h1,o,h3,rfl,h5,r,k⟩:=H;obtain⟨k1,k2,k3⟩:=Wf h5;have hr:(M.map Prod.fst).map Nd.i=M.map λm=>m.1.i:=by rw[List.map_map];rfl
 rw[hr] at f;rcases o with⟨rfl,e⟩ | ⟨id,rfl,r1,r2,r3⟩
 ·have:M= []:=by simpa using e
  subst this;exact⟨_,h1,rfl,rfl,rfl,λh' _ a=>l _ _ (.inl (f _ _ a (by rw[c];exact zu (Nat.zero_le _) _ (b _ trivial)) ⟨[],zZ.nil,rfl,λi n e=>by simp at e⟩))⟩
 ·have hid:g.next<=id:=p id ((k id).2 (.inr (.inl rfl)));refine⟨_,h1,rfl,rfl,rfl,λh' q a=>l _ _ (.inr ⟨id,_,by rw[q id ((k id).2 (.inr (.inl rfl))) (λe=>h3 (by rw[<-e];rfl))];exact r1,?_⟩)⟩;rw[j,aA (nZ M) rfl rfl];refine f _ _ (a.del hid) ?_ ⟨ue (M.map ndC),zZ.mk .no,by rw[k2,List.length_map],k3⟩;rw[c];exact zu (Nat.zero_le _) _ (b _ ⟨k1,trivial⟩)
def WSo (n k:Nat) (S:Nat->Prop) (h:Heap):Prop:=k=0/\n+1<h.next/\h.at' n=some (.row [.bool false, .nilsl, .nilsl, .nilsl])/\h.at' (n+1)=some (.row [.int .i64 0])/\∀i,S i↔(i=n\/i=n+1)
def VSo (c:Cat) (fs:List Fac) (n:Nat) (S:Nat->Prop) (h:Heap):Prop:=∃q,(uV c fs).head? =some q/\n+1<h.next/\h.at' n=some (.row [.bool true,tsF q,owF q, .nilsl])/\h.at' (n+1)=some (.row [.int .i64 0])/\∀i,S i↔(i=n\/i=n+1)
def WSo.lcl (n:Nat):Lcl (WSo n):=by
 refine⟨λk S h y i g=> ?_,λk S h h' y j d=> ?_⟩
 ·obtain⟨_,f,b,c,a⟩:=y;rcases(a i).1 g with rfl|rfl<;>omega
 ·obtain⟨e,f,b,c,a⟩:=y;exact⟨e,by omega,by rw[d _ ((a _).2 (.inl rfl))];exact b,by rw[d _ ((a _).2 (.inr rfl))];exact c,a⟩
def VSo.lcl (c:Cat) (fs:List Fac) (n:Nat):Lcl λ_=>VSo c fs n:=by
 refine⟨λk S h y i j=> ?_,λk S h h' y l e=> ?_⟩
 ·obtain⟨_,_,g,b,d,a⟩:=y;rcases(a i).1 j with rfl|rfl<;>omega
 ·obtain⟨q,f,g,b,d,a⟩:=y;exact⟨q,f,by omega,by rw[e _ ((a _).2 (.inl rfl))];exact b,by rw[e _ ((a _).2 (.inr rfl))];exact d,a⟩
def NdH.lcl (nid:Nat) (L:List Nd):Lcl λ_=>NdH nid L:=⟨λk S h y=>y.here,λk S h h' y=>y.loc⟩
def NdHx.lcl (nid:Nat):Lcl λ_ S h=>∃L,NdH nid L S h:=⟨λk S h y=>by obtain⟨L,y⟩:=y;exact y.here,λk S h h' y b a=>by obtain⟨L,y⟩:=y;exact⟨L,y.loc b a⟩⟩
variable {c:Cat}{fs:List Fac}
theorem HC {ca cb ce cp x:D} (hc:yy c (.agg [ca,cb,ce,cp])) (hs:c.Sm) (hx:zZ 12 (nQ fs) x) (hF:QZ fs) (b4:∀f∈fs,f.Ok) (hB:yR c fs=0->(uF c fs).length<=1048576) (g:Heap):
  zA prog 19 [.agg [ca,cb,ce,cp],x] g λr h'=>h'=g/\zCR c fs r:=by
 refine xU kr λcc=>xS (zA.freezeOr ?_);refine xP λR hR=> ?_;have u:=CT hc hs hx hF b4;have cm:∀a b e p:D,zN true 4 [a,b,e,p] 0=some (.agg [a,b,e,p]):=λa b e p=>zB rfl ow;have cf:zx prog 37 []=some (.agg [.bool false, .nilsl, .nilsl, .nilsl]):=by simp[zx,ke,ZX,qK,D.notTuple,D.cells]
 have U:∀ (h:Heap) d,Ext g h->zj d=d->below 0 d->zCR c fs d->R d h:=λh d hE e hb q=>hR _ _ (.inl ⟨hE,by rw[e];exact zu (Nat.zero_le _) _ hb,by rw[e];exact q⟩);obtain⟨n,hn⟩:∃n,g.next=n:=⟨_,rfl⟩;obtain⟨G,hG,T,g1,g2,hE⟩:∃G:Heap,(g.new n (.row [.bool false, .nilsl, .nilsl, .nilsl])).new (n+1) (.row [.int .i64 0])=G/\G.next=n+2/\G.at' n=some (.row [.bool false, .nilsl, .nilsl, .nilsl])/\G.at' (n+1)=some (.row [.int .i64 0])/\Ext g G:=
  ⟨_,rfl,by rw[<-hn,zp _ (by rw[zF];exact Nat.le_refl _)],by rw[zG ow,zK],zK _ _ _,by rw[<-hn];exact((Ext.refl g).new (Nat.le_refl _) _).new ow _⟩
 have cl:(g.new n (.row [.bool false, .nilsl, .nilsl, .nilsl])).next=n+1:=by rw[<-hn];exact zF _ _
 by_cases J:yR c fs=0
 case neg=>
  have z:(!(yR c fs==0))=true:=by simpa using J
  have s1:zQ prog 37 (.ptr n 0) (.agg [.bool false, .nilsl, .nilsl, .nilsl]) G=some G:=by
   rw[yN g1 (by rw[Uw];rfl) rfl (by decide) rfl,uI g1]
  obtain⟨F,hF,f1,f2,a2⟩:∃F,G.set (n+1) (.row [.int .i64 (yR c fs)])=F/\F.at' n=some (.row [.bool false, .nilsl, .nilsl, .nilsl])/\F.at' (n+1)=some (.row [.int .i64 (yR c fs)])/\Ext g F:=⟨_,rfl,by rw[zE ow];exact g1,zC _ _ _,hE.set ow _⟩;have s2:zQ prog 42 (.ptr (n+1) 0) (.int .i64 (yR c fs)) G=some F:=by
   rw[zT g2 lO (by simp) rfl rfl,<-hF];rfl
  have o:=U F (.tuple [.agg [.bool false, .nilsl, .nilsl, .nilsl], .int .i64 (yR c fs)]) a2 rfl ⟨⟨trivial,trivial,trivial,trivial,trivial⟩,trivial,trivial⟩ (.inl ⟨J,rfl⟩);have u:∀g,zA prog 29 [.agg [ca,cb,ce,cp],x] g λr h'=>h'=g/\r= .tuple [.nilptr, .int .i64 (yR c fs)]:=λg=>(u g).mono λr h' q=>⟨q.1,by
   rcases q.2 with⟨_,e⟩ | ⟨e,_⟩
   ·exact e
   ·exact absurd e J⟩
  refine xO mix func19 zFZ rfl rfl ?_;simp only[f19,gJ]
  repeat' first|simp only[go_sem, *]|apply bc<;>intro hc|(refine zA.mono (u _) ?_;rintro r h ⟨C,rfl⟩)
 case pos=>
 have hB:=hB J;have u:∀g,zA prog 29 [.agg [ca,cb,ce,cp],x] g λr h'=>h'=g/\∃td od,r= .tuple [.iptr [ca,cb,ce,cp,x,td,od] 0, .int .i64 0]/\SpD c fs ca cb ce cp x td od:=λg=>(u g).mono λr h' q=>⟨q.1,by
   rcases q.2 with⟨e,_⟩ | ⟨_,td,od,e,S,_⟩
   ·exact absurd J e
   ·exact⟨td,od,e,S⟩⟩
 obtain⟨H,hH,a3,h1,v,h3,O⟩:∃H:Heap,G.new (n+2) (.row [.nilsl])=H/\H.next=n+3/\H.at' n=some (.row [.bool false, .nilsl, .nilsl, .nilsl])/\H.at' (n+1)=some (.row [.int .i64 0])/\H.at' (n+2)=some (.row [.nilsl])/\Ext g H:=⟨_,rfl,by rw[<-T,zF,T],by rw[zG ow];exact g1,by rw[zG ow];exact g2,zK _ _ _,hE.new ow _⟩;refine xO mix func19 zFZ rfl rfl ?_;simp only[f19,gJ]
 repeat' first|simp only[go_sem, *]|apply bc<;>intro
 refine(u _).mono ?_;rintro r k ⟨C,td,od,rfl,S⟩;subst C;have b9:=λg=>CU [ca,cb,ce,cp,x,td,od] (n+2) g
 rename Heap=>G
 repeat' first|simp only[go_sem,Kb, *]|apply bc<;>intro hc|(refine zA.mono (b9 _) ?_;rintro r h ⟨C,rfl⟩)
 subst C
 rename Heap=>H
 generalize hL:LRec.mk _ _ _ _ _ _ _=L;have b5:L.pending=none:=by rw[<-hL]
 have b6:L.st= .ready:=by rw[<-hL]
 have a7:WSo n 0 (λj=>j=n\/j=n+1) H:=⟨rfl,by omega,h1,v,λ_=>Iff.rfl⟩;have a5:NdH (n+2) [] (λj=>j=n+2) H:=⟨by omega, .nilsl,[],h3, .inl ⟨rfl,rfl⟩,λe=>e,rfl,(by intro m M;cases M),(by intro a b m m' i e;cases e),λi=>⟨λe=> .inl e,λe=>e.elim id λe=>e.elim (λe=>e.elim) λ⟨m,M,_⟩=>by cases M⟩⟩
 refine KW (n:=(uV c fs).length) (el:=elP (uV c fs)) a3 (WSo.lcl n) (VSo.lcl c fs n) (NdH.lcl (n+2) []) (NdH.lcl (n+2) (uF c fs)) (NdHx.lcl (n+2)) b6 b5 a7 a5 (λi h1 v=>by rcases h1 with e|e<;>omega) (λyl bk a6 hd=>(HB S hB yl bk a6 hd).mono λr h' ⟨r',T1,T2,q1,q2,q3,q4,q5⟩=>⟨T1,T2,q1,q2,q3,q4,q5.imp (λq=>⟨q.2.1,q.2.2⟩) λq=>⟨q.2.1,q.2.2⟩⟩) ?_ ?_ ?_
 ·intro k S0 h3 hk Z bx ak b3;have bs:k=0:=ak.1;subst bs;obtain⟨q,C⟩:∃q,(uV c fs).head? =some q:=by
   cases e:uV c fs with
   |nil=>rw[e] at hk;exact absurd hk (Nat.lt_irrefl _)
   |cons q l=>exact⟨q,rfl⟩
  have bo:(uV c fs).getD 0 ⟨[],[]⟩ =q:=by
   rw[List.getD_eq_getElem?_getD,<-List.head?_eq_getElem?,C];rfl
  simp only[elP,bo];have y:=bx;rw[<-hL] at y;obtain⟨m,M⟩:∃m,h3.next=m:=⟨_,rfl⟩;have E:zQ prog 33 (.ptr m 0) (.agg [tsD q,owD q]) (h3.new m (.row [.nilsl, .nilsl]))=some (h3.new m (.row [tsD q,owD q])):=zh Pu ow rfl rfl rfl;refine yt.round (g:=QH) mix y rfl kr kr kr ?_;simp only[go_sem,M,E];refine⟨by rw[zG ow];exact y,?_⟩;generalize a1:LRec.mk .busy _ _ _ _ _ _=B;have a4:({ B with st:= .ready,pending:=none } :LRec)=L:=by rw[<-a1,<-hL]
  obtain⟨_,w1,w2,w3,N⟩:=ak;obtain⟨s,a8,W,V,a9,ba,bb,K⟩:∃s:D->D->Heap,((h3.new m (.row [tsD q,owD q])).set (n+3) (.loop B))=s (tsD q) (owD q)/\(∀a b,(s a b).next=m+1)/\(∀a b,(s a b).at' m=some (.row [a,b]))/\(∀a b,(s a b).at' n=some (.row [.bool false, .nilsl, .nilsl, .nilsl]))/\(∀a b,(s a b).at' (n+1)=some (.row [.int .i64 0]))/\(∀a b,(s a b).at' (n+3)=some (.loop B))/\((∀a b a' b',(s a b).set m (.row [a',b'])=s a' b')/\∀a b,But (λi=>i=n+3) h3 (s a b)):=by
   refine⟨λa b=>((h3.new m (.row [tsD q,owD q])).set (n+3) (.loop B)).set m (.row [a,b]),?_,λa b=>by rw[zU,zU,<-M];exact zF _ _,λa b=>zC _ _ _,λa b=>by rw[zE ow,zE ow,zG ow];exact w2,λa b=>by rw[zE ow,zE ow,zG ow];exact w3,λa b=>by rw[zE ow,zC],λa b a' b'=>ru _ _ _ _,λa b=>⟨by rw[zU,zU,<-M,zF];omega,λi I hn=>by rw[zE ow,zE hn,zG ow]⟩⟩;exact(uI (by rw[zE ow,zK])).symm
  obtain⟨X,K⟩:=K;rw[a8];have s1:∀a b,zQ prog 30 (.ptr m 0) .nilsl (s a b)=some (s .nilsl b):=λa b=>by
   rw[zT (V a b) lM (by simp) rfl rfl];exact congrArg some (X _ _ _ _)
  have s2:∀a b,zQ prog 31 (.ptr m 1) .nilsl (s a b)=some (s a .nilsl):=λa b=>by
   rw[zT (V a b) Pt (by simp) rfl rfl];exact congrArg some (X _ _ _ _)
  have cg:∀h,tu prog 30 (tsD q) h=some (.int .i64 (q.ts.length:Int)):=λh=>by
   have:=qj (l:=q.ts.map se) (d:=tsD q) (zZ.mk .no) h
   rwa [List.length_map] at this
  have ch:∀h,tu prog 31 (owD q) h=some (.int .i64 (q.own.length:Int)):=λh=>yQ (l:=q.own) (d:=owD q) (zZ.mk .no) h;have b8:∀a b:D,zx prog 37 [(0, .bool true),(1, .agg [a,b])]=some (.agg [.bool true,a,b, .nilsl]):=λa b=>by simp[zx,ke,ZX,qK,yY,D.notTuple,D.cells]
  have o:∀fr,wo (LpZ (n+3) L (WSo n) (VSo c fs n) 0 S0 h3) (n+3) .ret fr (((s (tsF q) (owF q)).set n (.row [.bool true,tsF q,owF q, .nilsl])).set (n+1) (.row [.int .i64 0])):=λfr=>by
   refine Lp.retZ (VSo.lcl c fs n) a4 Z b3 (by rw[zE ow,zE ow];exact bb _ _) (S':=S0) (λi I=> .inl I) ⟨by rw[zU,zU,W];omega,λi I z=> ?_⟩ ⟨q,C,by rw[zU,zU,W];omega,by rw[zE ow,zC],zC _ _ _,N⟩;rw[zE λe=>z (.inr ((N i).2 (.inr e))),zE λe=>z (.inr ((N i).2 (.inl e))),(K _ _).2 i I λe=>z (.inl e)]
  have s3:∀a b,a.flat=true->b.flat=true->zQ prog 37 (.ptr n 0) (.agg [.bool true,a,b, .nilsl]) (s a b)=some ((s a b).set n (.row [.bool true,a,b, .nilsl])):=λa b h1 v=>yN (a9 a b) (by rw[Uw];rfl) rfl (by simp) (by simp[h1,v];exact⟨rfl,rfl⟩);have s4:∀a b r,zQ prog 42 (.ptr (n+1) 0) (.int .i64 0) ((s a b).set n (.row r))=some (((s a b).set n (.row r)).set (n+1) (.row [.int .i64 0])):=λa b r=>by
   rw[zT (by rw[zE ow];exact ba a b) lO (by simp) rfl rfl];rfl
  have e1:((q.ts.length:Int)==0)=decide (q.ts= []):=by cases q.ts<;>simp<;>omega
  have e2:((q.own.length:Int)==0)=decide (q.own= []):=by cases q.own<;>simp<;>omega
  have f1:(tsD q).flat=true:=rfl;have f2:(owD q).flat=true:=rfl;have f3:D.nilsl.flat=true:=rfl;have t1:tsF q=if decide (q.ts= [])=true then .nilsl else tsD q:=by unfold tsF;simp
  have t2:owF q=if decide (q.own= [])=true then .nilsl else owD q:=by unfold owF;simp
  rw[t1,t2] at o;generalize decide (q.ts= [])=b1 at e1 o;generalize decide (q.own= [])=b2 at e2 o;cases b1
  all_goals cases b2
  all_goals simp only[Bool.false_eq_true,if_false,if_true] at o
  all_goals
   exact au
  all_goals exact o _
 ·intro S' a0 v b7 ag Y w hw ad;obtain⟨w0,w1,w2,w3,N⟩:=hw;have A:Ext g v:=Ext.of_but O w λj hj=>by rcases hj with(rfl|rfl)|rfl<;>omega
  obtain⟨d,d1,d2,d3,d4,d5⟩:=ad.fin (R:=R) (Q:=λd h'=>Ext g h'/\below g.next (zj d)/\zCR c fs (zj d)) (mk:=λd=> .tuple [.agg [.bool false, .nilsl, .nilsl,d], .int .i64 0]) A (λi I=>by
   rcases ag i I with q|q<;>omega) (λid cs d=>rfl) (λd=>rfl) (λd h=>⟨⟨trivial,trivial,trivial,h,trivial⟩,trivial,trivial⟩) (λd h' q1 q2 q3=>⟨q1,q2, .inr ⟨J, .inr ⟨List.length_eq_zero_iff.1 w0,_,q3,rfl⟩⟩⟩) hR
  have b8:zx prog 37 [(2,d)]=some (.agg [.bool false, .nilsl, .nilsl,d]):=by simp[zx,ke,ZX,qK,yY,d2,d3,XY,jk]
  obtain⟨F1,P,r1,r2,E1⟩:∃F,v.set n (.row [.bool false, .nilsl, .nilsl,d])=F/\F.at' n=some (.row [.bool false, .nilsl, .nilsl,d])/\F.at' (n+1)=some (.row [.int .i64 0])/\Ext g F:=⟨_,rfl,zC _ _ _,by rw[zE ow];exact w3,A.set ow _⟩;have s1:zQ prog 37 (.ptr n 0) (.agg [.bool false, .nilsl, .nilsl,d]) v=some F1:=by
   rw[yN (cs':=[.bool false, .nilsl, .nilsl,d]) w2 (by rw[Uw];rfl) rfl (by simp) (by simp[d4];exact⟨rfl,rfl⟩),P]
  have s2:zQ prog 42 (.ptr (n+1) 0) (.int .i64 0) F1=some F1:=by
   rw[zT r2 lO (by simp) rfl rfl];exact congrArg some (uI r2)
  have o:=d5 F1 (λi I z=>by
   rw[<-P,zE λe=>Y i ((N i).2 (.inl e)) I]) E1
  exact au
 ·intro S' a0 v b7 ag Y w hv ad;obtain⟨q,C,w1,w2,w3,N⟩:=hv;have A:Ext g v:=Ext.of_but O w λj hj=>by rcases hj with(rfl|rfl)|rfl<;>omega
  have E:zj (tsF q)=tsF q/\below 0 (tsF q):=by
   unfold tsF;split
   ·exact⟨rfl,trivial⟩
   ·exact yC (sz:=1) (xs:=zl (q.ts.map se)) (λx hx=>by
     obtain⟨a,ha,rfl⟩:=List.mem_map.1 hx;obtain⟨t,_,rfl⟩:=List.mem_map.1 ha;exact jQ t) .no
  have ai:zj (owF q)=owF q/\below 0 (owF q):=by
   unfold owF;split
   ·exact⟨rfl,trivial⟩
   ·exact yC (sz:=1) (xs:=yV q.own) qN .no
  have o:=U v (.tuple [.agg [.bool true,tsF q,owF q, .nilsl], .int .i64 0]) A (by simp only[zj,zw,E.1,ai.1]) ⟨⟨trivial,E.2,ai.2,trivial,trivial⟩,trivial,trivial⟩ (.inr ⟨J, .inl ⟨q,C,rfl⟩⟩);exact au
structure Le (p q:Part):Prop where
 tl:p.ts.length=q.ts.length
 ol:p.own.length=q.own.length
 t:∀ (i:Nat) a,p.ts[i]? =some a->a= []\/q.ts[i]? =some a
 o:∀ (i:Nat) s,p.own[i]? =some s->s= []\/q.own[i]? =some s
def Le.refl (p:Part):Le p p:=⟨rfl,rfl,λ_ _ h=> .inr h,λ_ _ h=> .inr h⟩
def Le.trans {p q r:Part} (a:Le p q) (b:Le q r):Le p r:=⟨a.tl.trans b.tl,a.ol.trans b.ol,λi x h=>(a.t i x h).elim .inl λh=>b.t i x h,λi x h=>(a.o i x h).elim .inl λh=>b.o i x h⟩
def Le.gap {p q:Part} (h:Le p q):Gap (sT p).ts (sT p).own (sT q) where
 tl:=by show(p.ts.map se).length=(q.ts.map se).length;rw[length_map,length_map,h.tl]
 ol:=h.ol
 ts:=λi a e=>by
  have e:(p.ts.map se)[i]? =some a:=e;rw[getElem?_map] at e;obtain⟨t,e1,rfl⟩:=Option.map_eq_some_iff.1 e;rcases h.t i t e1 with rfl|q1
  ·exact .inl rfl
  ·refine .inr ?_;show(q.ts.map se)[i]? =_;rw[getElem?_map,q1];rfl
 own:=h.o
def Le.vios {p q:Part} (h:Le p q) (h0:sS c fs (sT q)= []):jz c fs p=none:=by
 unfold jz;cases e:sS c fs (sT p) with
 |nil=>rfl
 |cons v l=>
  have:=h.gap.vios (c:=c) (fs:=fs) (v:=v) (by show v∈sS c fs (sT p);rw[e];exact mem_cons_self);rw[h0] at this;cases this
def zDW (c:Cat) (fs:List Fac) (q:Part) (v k:Nat):Prop:=if v<(tV c fs).length then q.ts[v]? =some (((tV c fs).getD v []).getD k []) else q.own[v- (tV c fs).length]? =some ((c.ls.map Lic.name).getD k [])
def Le.dec {p q:Part} (h:Le p q) {v k:Nat} (b:zDW c fs q v k):Le (tp c fs p v k) q:=by
 unfold zDW at b;unfold tp;split
 ·rename_i h1;rw[ip h1] at b;refine⟨by rw[length_set];exact h.tl,h.ol,λi a e=> ?_,h.o⟩;rw[getElem?_set] at e;split at e
  ·rename_i d;subst d;split at e
   ·cases e;exact .inr b
   ·cases e
  ·exact h.t i a e
 ·rename_i h1;rw[iq h1] at b;refine⟨h.tl,by rw[length_set];exact h.ol,h.t,λi a e=> ?_⟩;rw[getElem?_set] at e;split at e
  ·rename_i d;subst d;split at e
   ·cases e;exact .inr b
   ·cases e
  ·exact h.o i a e
structure Full (c:Cat) (fs:List Fac) (q:Part):Prop where
 ok:POk c fs q
 de:∀v,v<ctV c fs->deV c fs q v=true
def Full.val {q:Part} (h:Full c fs q) {v:Nat} (f:v<ctV c fs):∃k,k<szV c fs v/\zDW c fs q v k:=by
 have a:=h.de v f;unfold deV at a;unfold zDW szV;by_cases h1:v<(tV c fs).length
 ·simp only[ip h1] at a⊢;have b:v<q.ts.length:=by rw[h.ok.tl];exact h1
  rw[getD_eq_getElem?_getD,getElem?_eq_getElem b] at a;have g:=(h.ok.t v _ (getElem?_eq_getElem b)).resolve_left λe=>by rw[e] at a;cases a
  obtain⟨k,d,e⟩:=mem_iff_getElem.1 g;refine⟨k,d,?_⟩;rw[getElem?_eq_getElem b,getD_eq_getElem?_getD,getElem?_eq_getElem d,e];rfl
 ·simp only[iq h1] at a⊢;have b:v- (tV c fs).length<q.own.length:=by rw[h.ok.ol];unfold ctV at f;omega
  rw[getD_eq_getElem?_getD,getElem?_eq_getElem b] at a;obtain⟨y,i,e⟩:=(h.ok.o _ (getElem_mem b)).resolve_left λe=>by rw[Option.getD_some,e] at a;cases a
  obtain⟨k,d,rfl⟩:=mem_iff_getElem.1 i;exact⟨k,d,by rw[getElem?_eq_getElem b,pS d,e]⟩
theorem cL {q:Part} (h:Full c fs q):∀n,n<=ctV c fs->Le (yU c fs n) q
 |0,_=>by
  have b:∀ {α:Type} (i n:Nat) (a:List α),(List.replicate n ([]:List α))[i]? =some a->a= []:=λi n a e=>by
   rw[getElem?_replicate] at e;split at e
   ·cases e;rfl
   ·cases e
  exact⟨by rw[h.ok.tl];exact length_replicate,by rw[h.ok.ol];exact length_replicate,λi a e=> .inl (b _ _ _ e),λi a e=> .inl (b _ _ _ e)⟩
 |n+1,b=>by
  rw[yU];have d:=cL h n ow;split
  ·rename_i h1;obtain⟨k,g,f⟩:=h.val (v:=n) ow
   have:k=0:=ow;subst this;exact d.dec f
  ·exact d
theorem aa (h0:(zM c fs).2.2=0) {q:Part} (h:Full c fs q) (d:sS c fs (sT q)= []):∀m p,POk c fs p->Le p q->opn c fs p<=m->uE c fs m p≠[]
 |0,p,g,b,i=>by
  rw[uE,b.vios d];simp
 |m+1,p,g,b,i=>by
  rw[uE,b.vios d];cases e:nxV c fs p with
  |none=>simp
  |some v=>
   obtain⟨j,_,_⟩:=re e;obtain⟨k,f,a⟩:=h.val j;have:=aa h0 h d m _ (g.dec f) (b.dec a) (by have:=cK g h0 e f;omega);simp only[Option.isSome,Bool.false_eq_true,if_false];intro e2;rw[flatMap_eq_nil_iff] at e2;exact this (e2 k (mem_range.2 f))
def Le.of_dec {v k:Nat} (h:deV c fs p v=false):Le p (tp c fs p v k):=by
 unfold deV at h;unfold tp;split
 ·rename_i h1;rw[ip h1] at h;refine⟨by rw[length_set],rfl,λi a e=> ?_,λi a e=> .inr e⟩;by_cases q:v=i
  ·subst q;rw[getD_eq_getElem?_getD,e] at h;exact .inl (by simpa using h)
  ·exact .inr (by rw[getElem?_set_ne q];exact e)
 ·rename_i h1;rw[iq h1] at h;refine⟨rfl,by rw[length_set],λi a e=> .inr e,λi a e=> ?_⟩;by_cases q:v- (tV c fs).length=i
  ·subst q;rw[getD_eq_getElem?_getD,e] at h;exact .inl (by simpa using h)
  ·exact .inr (by rw[getElem?_set_ne q];exact e)
theorem Wg (h0:(zM c fs).2.2=0) {x:Part} :∀m p,POk c fs p->opn c fs p<=m->x∈uE c fs m p->POk c fs x/\Le p x/\jz c fs x=none/\nxV c fs x=none
 |0,p,b,i,a=>by
  rw[uE] at a;split at a
  ·cases a
  ·rename_i h;rw[mem_singleton] at a;subst a;refine⟨b,Le.refl _,by simpa using h,?_⟩;cases e:nxV c fs x with
   |none=>rfl
   |some v=>
    obtain⟨h1,f,_⟩:=re e
    have:0<opn c fs x:=length_pos_iff.2 (ne_nil_of_mem (mem_filter.2 ⟨mem_range.2 h1,f⟩));omega
 |m+1,p,b,i,a=>by
  rw[uE] at a;split at a
  ·cases a
  ·rename_i h;split at a
   ·rename_i e;rw[mem_singleton] at a;subst a;exact⟨b,Le.refl _,by simpa using h,e⟩
   ·rename_i v e;obtain⟨k,d,a⟩:=mem_flatMap.1 a;have d:=mem_range.1 d;obtain⟨h1,f,h3,g⟩:=Wg h0 m _ (b.dec d) (by have:=cK b h0 e d;omega) a;obtain⟨_,e2,_⟩:=re e;exact⟨h1,(Le.of_dec (by simp only[wu,Bool.and_eq_true,Bool.not_eq_true'] at e2;exact e2.2)).trans f,h3,g⟩
def Le.de {p q:Part} (h:Le p q) {v:Nat} (b:deV c fs p v=true):deV c fs q v=true:=by
 unfold deV at b⊢;split
 ·rename_i h1;rw[ip h1] at b;cases e:p.ts[v]? with
  |none=>rw[getD_eq_getElem?_getD,e] at b;exact absurd b (by decide)
  |some a=>
   rcases h.t v a e with rfl|d
   ·rw[getD_eq_getElem?_getD,e] at b;exact absurd b (by decide)
   ·rwa [getD_eq_getElem?_getD,d,<-e,<-getD_eq_getElem?_getD]
 ·rename_i h1;rw[iq h1] at b;cases e:p.own[v- (tV c fs).length]? with
  |none=>rw[getD_eq_getElem?_getD,e] at b;exact absurd b (by decide)
  |some a=>
   rcases h.o _ a e with rfl|d
   ·rw[getD_eq_getElem?_getD,e] at b;exact absurd b (by decide)
   ·rwa [getD_eq_getElem?_getD,d,<-e,<-getD_eq_getElem?_getD]
theorem Kc (h0:(zM c fs).2.2=0):∀n,n<=ctV c fs->∀v,v<n->szV c fs v=1->deV c fs (yU c fs n) v=true
 |0,_,v,h,_=>absurd h (Nat.not_lt_zero _)
 |n+1,b,v,h,h1=>by
  have a:=Kc h0 n ow v;rw[yU];split
  ·rename_i q;rw[UM (qf c fs n) h0 ow ow];by_cases e:v=n
   ·rw[decide_eq_true e];rfl
   ·rw[a ow h1,Bool.or_true]
  ·rename_i q;refine a (Nat.lt_of_le_of_ne (le_of_lt_succ h) λe=>q ?_) h1;rw[<-e];exact h1
def Ke (h0:(zM c fs).2.2=0) {v:Nat} (d:v<ctV c fs) (a:szV c fs v=0):c.ls.length=0/\∀y:Cho,sS c fs y≠[]:=by
 unfold szV at a;split at a
 ·rename_i h1;have j:(tV c fs).getD v []∈tV c fs:=by rw[getD_eq_getElem?_getD,getElem?_eq_getElem h1];exact getElem_mem _
  exact absurd (length_eq_zero_iff.1 a) (uA _ j).2.ne
 ·rename_i h1;refine⟨a,λy e=> ?_⟩;have k:oV c fs≠[]:=λe=>by unfold ctV at d;rw[e] at d;simp at d;omega
  obtain⟨s,b⟩:=exists_mem_of_ne_nil _ k;unfold oV at b;rw[kI h0] at b;rcases to.1 b with q| ⟨f,hf,h,_⟩
  ·cases q
  ·obtain⟨i,g,rfl⟩:=mem_iff_getElem.1 hf
   have:(⟨5,tN ([i].map λn:Nat=>(n:Int))⟩:Vio)∈sS c fs y:=nX.2 ⟨5,by omega,rfl,[i],⟨a,i,by rw[wO g];exact h,rfl⟩,rfl⟩;rw[e] at this;cases this
def Kf (h0:(zM c fs).2.2=0) {x:Part} (f:POk c fs x) (d:Le (sU c fs) x) (hf:jz c fs x=none) (a:nxV c fs x=none):Full c fs x:=by
 refine⟨f,λv b=> ?_⟩;cases e:deV c fs x v with
 |true=>rfl
 |false=>
  unfold nxV at a;rw[find?_eq_none] at a;have:=a v (mem_range.2 b);unfold wu at this;rw[e] at this;have g:¬1<szV c fs v:=by simpa using this
  by_cases h1:szV c fs v=1
  ·rw[d.de (Kc h0 _ (le_refl _) v b h1)] at e;cases e
  ·have:=(Ke h0 b ow).2 (sT x);unfold jz at hf;exact absurd (head?_eq_none_iff.1 hf) this
def Kg (h0:(zM c fs).2.2=0):uV c fs≠[]↔∃q,Full c fs q/\sS c fs (sT q)= []:=by
 have a:opn c fs (sU c fs)<=ctV c fs:=by
  unfold opn;exact le_trans (length_filter_le _ _) (by simp)
 constructor
 ·intro h;obtain⟨x,g⟩:=exists_mem_of_ne_nil _ h;obtain⟨h1,d,h3,e⟩:=Wg h0 _ _ (qf c fs _) a g;exact⟨x,Kf h0 h1 d h3 e,head?_eq_none_iff.1 h3⟩
 ·rintro⟨q,b,f⟩;exact aa h0 b f _ _ (qf c fs _) (cL b _ (le_refl _)) a
def prW (s:Nat->Nat) (f:Nat->Bool):List Nat->Nat
 | []=>1
 |w::l=>if f w=true then s w*prW s f l else prW s f l
theorem YM {s:Nat->Nat} {f:Nat->Bool} (h:∀w,f w=true->0<s w):∀l,0<prW s f l
 | []=>Nat.one_pos
 |w::l=>by
  rw[prW];split
  ·rename_i q;exact Nat.mul_pos (h w q) (YM h l)
  ·exact YM h l
theorem Kh {s:Nat->Nat} {f g:Nat->Bool} {v:Nat} (a:∀w,g w=(!decide (w=v)&&f w)):∀l,v∉l->prW s g l=prW s f l
 | [],_=>rfl
 |w::l,h=>by
  rw[mem_cons,not_or] at h;rw[prW,prW,a w,decide_eq_false (λe=>h.1 e.symm),Bool.not_false,Bool.true_and,Kh a l h.2]
theorem Ki {s:Nat->Nat} {f g:Nat->Bool} {v:Nat} (a:∀w,g w=(!decide (w=v)&&f w)) (hf:f v=true):∀l:List Nat,l.Nodup->v∈l->prW s f l=s v*prW s g l
 | [],_,h=>by cases h
 |w::l,b,h=>by
  rw[nodup_cons] at b;by_cases e:w=v
  ·subst e;rw[prW,prW,ip hf,a w,decide_eq_true rfl,Kh a l b.1];rfl
  ·have c:=Ki (s:=s) a hf l b.2 ((mem_cons.1 h).resolve_left λq=>e q.symm);rw[prW,prW,a w,decide_eq_false e,Bool.not_false,Bool.true_and,c];split
   ·exact Nat.mul_left_comm ..
   ·rfl
theorem Ra (h0:(zM c fs).2.2=0):∀m p n,POk c fs p->(uX c fs m p n).length+1<=2*prW (szV c fs) (wu c fs p) (List.range (ctV c fs))
 |0,p,n,d=>by
  have:=YM (s:=szV c fs) (f:=wu c fs p) (λw h=>by simp only[wu,Bool.and_eq_true,decide_eq_true_eq] at h;omega) (List.range (ctV c fs));rw[uX];split<;>simp<;>omega
 |m+1,p,n,d=>by
  have o:=YM (s:=szV c fs) (f:=wu c fs p) (λw h=>by simp only[wu,Bool.and_eq_true,decide_eq_true_eq] at h;omega) (List.range (ctV c fs));rw[uX];split
  ·simp;omega
  ·split
   ·simp;omega
   ·rename_i v e;obtain⟨q,l,_⟩:=re e;have u:2<=szV c fs v:=by simp only[wu,Bool.and_eq_true,decide_eq_true_eq] at l;omega
    have t:∀k,k<szV c fs v->∀w,wu c fs (tp c fs p v k) w=(!decide (w=v)&&wu c fs p w):=λk a w=>by
     unfold wu;rw[UM d h0 q a];cases decide (w=v)<;>cases decide (1<szV c fs w)<;>cases deV c fs p w<;>rfl
    have j:∀k,k<szV c fs v->prW (szV c fs) (wu c fs (tp c fs p v k)) (List.range (ctV c fs))=prW (szV c fs) (λw=> !decide (w=v)&&wu c fs p w) (List.range (ctV c fs)):=λk a=>by
     congr 1;funext w;exact t k a w
    have b:=Ki (s:=szV c fs) (f:=wu c fs p) (g:=λw=> !decide (w=v)&&wu c fs p w) (λw=>rfl) l (List.range (ctV c fs)) nodup_range (mem_range.2 q);rw[b];generalize prW (szV c fs) (λw=> !decide (w=v)&&wu c fs p w) (List.range (ctV c fs))=W at j;have key:∀k,k<=szV c fs v->(wk (λk i=>uX c fs m (tp c fs p v k) i) k (n+1)).2.length+k<=2*(k*W):=λk a=>by
     induction k with
     |zero=>simp[wk]
     |succ k r=>
      have r:=r ow;have:=Ra h0 m (tp c fs p v k) (n+1+(wk (λk i=>uX c fs m (tp c fs p v k) i) k (n+1)).2.length) (d.dec ow);rw[j k ow] at this;rw[wk,length_append,Nat.add_mul,Nat.one_mul];omega
    have:=key _ (le_refl _);rw[length_cons];omega
def prL:List Nat->Nat
 | []=>1
 |r::l=>r*prL l
theorem Kj:∀ {l:List Nat},(∀r∈l,0<r)->0<prL l
 | [],_=>Nat.one_pos
 |r::l,h=>Nat.mul_pos (h r mem_cons_self) (Kj λq a=>h q (mem_cons_of_mem _ a))
def CV {l m:List Nat} (h:l.Sublist m):(∀r∈m,0<r)->prL l<=prL m:=by
 induction h with
 |slnil=>exact λ_=>le_refl _
 |cons a h d=>exact λb=>le_trans (d λq c=>b q (mem_cons_of_mem _ c)) (Nat.le_mul_of_pos_left _ (b a mem_cons_self))
 |cons_cons a h d=>exact λb=>Nat.mul_le_mul_left _ (d λq c=>b q (mem_cons_of_mem _ c))
theorem Kk:∀ {l:List Nat} {n:Nat},(∀r∈l,0<r)->(JA l n<=4096\/n*prL l<=4096)->JA l n=n*prL l
 | [],n,_,_=>by rw[JA,prL,Nat.mul_one]
 |r::l,n,b,h=>by
  have h1:=Kj λq a=>b q (mem_cons_of_mem _ a);rw[JA] at h⊢;rw[prL,<-Nat.mul_assoc] at h⊢;have c:n*r<=n*r*prL l:=Nat.le_mul_of_pos_right _ h1;split
  ·rename_i q;rw[ip q] at h;rcases h with h|h<;>omega
  ·rename_i q;rw[iq q] at h;exact Kk (λq a=>b q (mem_cons_of_mem _ a)) h
def UN {l:List Nat} (a:∀r∈l,0<r) (h:Qk l<=4096\/prL l<=4096):Qk l=prL l:=by
 unfold Qk at h⊢;have h0:¬(l.any (· ==0))=true:=λq=>by
  obtain⟨r,hr,e⟩:=any_eq_true.1 q;have:=a r hr;simp at e;omega
 rw[iq h0] at h⊢;rw[Kk a (by rwa [Nat.one_mul]),Nat.one_mul]
theorem Kl {s:Nat->Nat} {f:Nat->Bool} :∀l:List Nat,(∀w∈l,0<s w)->prW s f l<=prL (l.map s)
 | [],_=>le_refl _
 |w::l,h=>by
  have a:=Kl (f:=f) l λq b=>h q (mem_cons_of_mem _ b);rw[prW,map_cons,prL];split
  ·exact Nat.mul_le_mul_left _ a
  ·exact le_trans a (Nat.le_mul_of_pos_left _ (h w mem_cons_self))
def FQ:bB c (tV c fs) (oV c fs)=(List.range (ctV c fs)).map (szV c fs):=by
 refine ext_getElem (by simp[bB,ctV]) λi h1 a=> ?_;rw[getElem_map,getElem_range];unfold szV;simp only[bB] at h1⊢;split
 ·rename_i q;rw[getElem_append_left (by simpa using q),getElem_map,getD_eq_getElem?_getD,getElem?_eq_getElem q];rfl
 ·rename_i q;rw[getElem_append_right (by simpa using q),getElem_map]
def CW (h:∀v,v<ctV c fs->0<szV c fs v):∀r∈bB c (tV c fs) (oV c fs),0<r:=λr hr=>by
 rw[FQ] at hr;obtain⟨v,a,rfl⟩:=mem_map.1 hr;exact h v (mem_range.1 a)
def Wh (h:yR c fs=0):(uF c fs).length<=8191:=by
 have h0:=nY h;by_cases b:∀v,v<ctV c fs->0<szV c fs v
 ·have h1:=Ra h0 (ctV c fs) (sU c fs) 0 (qf c fs _);have g:=Kl (s:=szV c fs) (f:=wu c fs (sU c fs)) (List.range (ctV c fs)) λw i=>b w (mem_range.1 i);rw[<-FQ] at g;have h3:=UN (CW b) (.inl (RT h));have d:=RT h;unfold FK at d;unfold uF;have h5:Qk (bB c (tV c fs) (oV c fs))<=4096:=d;omega
 ·have:∃v,v<ctV c fs/\szV c fs v=0:=by
   refine Classical.byContradiction λq=>b λv a=>Nat.pos_of_ne_zero λe=>q ⟨v,a,e⟩
  obtain⟨v,a,e⟩:=this;have h1:=(Ke h0 a e).2 (sT (sU c fs));cases e2:jz c fs (sU c fs) with
  |none=>exact absurd (head?_eq_none_iff.1 e2) h1
  |some x=>unfold uF;rw[(tr e2 _ _).2];simp
def Full.whole (h0:(zM c fs).2.2=0) {q:Part} (h:Full c fs q):Whole c fs (sT q):=by
 refine WY.1 ?_;have h1:(sT q).ts.length=(tV c fs).length:=by show(q.ts.map se).length=_;rw[length_map,h.ok.tl]
 have g:(sT q).own.length=(oV c fs).length:=h.ok.ol;have e1:p8 (t7 (tV c fs) (sT q).ts false) (sT q).ts.length=0:=qZ λi d=>by
  rw[h1] at d;have f:i<q.ts.length:=by rw[h.ok.tl];exact d
  have a:=h.de i (by unfold ctV;omega);unfold deV at a;rw[ip d,getD_eq_getElem?_getD,getElem?_eq_getElem f] at a;have j:=(h.ok.t i _ (getElem?_eq_getElem f)).resolve_left λe=>by rw[e] at a;cases a
  unfold t7
  have:(sT q).ts[i]? =some (se q.ts[i]):=by show(q.ts.map se)[i]? =_;rw[getElem?_map,getElem?_eq_getElem f];rfl
  rw[this];simp only[md,Bool.false_and,Bool.false_eq_true,if_false];rw[iq];simp only[Bool.not_eq_true',Bool.not_eq_false,any_eq_true];simpa using⟨_,j,(rZ _ _).2 rfl⟩
 have e2:p8 (Wq c (sT q).own false) (sT q).own.length=0:=qZ λi d=>by
  have a:=h.de ((tV c fs).length+i) (by rw[g] at d;unfold ctV;omega);unfold deV at a;rw[iq ow,Nat.add_sub_cancel_left] at a;unfold Wq;have b:i<q.own.length:=d;rw[getD_eq_getElem?_getD,getElem?_eq_getElem b] at a;obtain⟨y,l,e⟩:=(h.ok.o _ (getElem_mem b)).resolve_left λe=>by rw[Option.getD_some,e] at a;cases a
  have k:(sT q).own[i]? =some y.name:=by rw[e];exact getElem?_eq_getElem b
  rw[k];simp only[Bool.false_and,Bool.false_eq_true,if_false];rw[iq];simp only[Bool.not_eq_true',Bool.not_eq_false,any_eq_true];simpa using⟨y,l,rfl⟩
 unfold yq;rw[iq (by rw[h0];decide),iq (by rw[h1,g];unfold tV oV;simp),iq (by rw[show p8 (t7 (zM c fs).1 (sT q).ts false) (sT q).ts.length=0 from e1];decide)]
 exact e2
def Q0 {y:Cho} (W:Whole c fs y):(zM c fs).2.2=0:=by
 have:=WY.2 W;unfold yq at this;split at this
 ·rename_i q;rw[this] at q;exact absurd q (by decide)
 ·rename_i q;simpa using q
def cM (h:(zM c fs).2.2=0):tV c fs=(pC fs).map λf=>ofL c f.e:=by
 unfold tV;unfold zM at h⊢;by_cases q:(!((yS c fs).2==0))=true
 ·rw[ip q] at h
  have:(yS c fs).2≠0:=by simpa using q
  exact absurd h this
 ·rw[iq q] at h⊢;rw[nF h,nil_append]
def Whole.full {q:Part} (W:Whole c fs (sT q)):Full c fs q:=by
 have h0:=Q0 W;have g:=cM h0;have n:oV c fs=yz fs []:=kI h0;have k:q.ts.length=(tV c fs).length:=by
  have:=W.tl;rw[g,length_map,<-this];show _=(q.ts.map se).length;rw[length_map]
 have ol:q.own.length=(oV c fs).length:=by rw[n];exact W.ol
 have l:∀i (h:i<q.ts.length),q.ts[i]∈(tV c fs).getD i []:=λi h=>by
  have h1:i<(pC fs).length:=by rw[k,g,length_map] at h;exact h
  have:=W.ts i (by show i<(q.ts.map se).length;rwa [length_map]) _ (getElem?_eq_getElem h1);have e:((sT q).ts[i]'(by show i<(q.ts.map se).length;rwa [length_map])).ts=q.ts[i]:=by
   show((q.ts.map se)[i]'(by rwa [length_map])).ts=_;rw[getElem_map,md]
  rw[e] at this;rw[g,getD_eq_getElem?_getD,getElem?_map,getElem?_eq_getElem h1];exact this
 have m:∀s∈q.own,∃x∈c.ls,x.name=s:=λs f=>by
  obtain⟨x,j,e⟩:=any_eq_true.1 (W.own s f);exact⟨x,j,by simpa using e⟩
 refine⟨⟨k,ol,λi a e=> ?_,λs f=> .inr (m s f)⟩,λv o=> ?_⟩
 ·obtain⟨h1,rfl⟩:=List.getElem?_eq_some_iff.1 e;exact .inr (l i h1)
 ·unfold deV;split
  ·rename_i h1;have b:v<q.ts.length:=by rw[k];exact h1
   have d:(tV c fs).getD v []∈tV c fs:=by rw[getD_eq_getElem?_getD,getElem?_eq_getElem h1];exact getElem_mem _
   have:=((uA _ d).2.ts _ (l v b)).1;rw[getD_eq_getElem?_getD,getElem?_eq_getElem b];exact decide_eq_true (length_pos_iff.2 this)
  ·rename_i h1;have b:v- (tV c fs).length<q.own.length:=by rw[ol];unfold ctV at o;omega
   obtain⟨x,j,e⟩:=m _ (getElem_mem b);have:=KX W.cat j;rw[getD_eq_getElem?_getD,getElem?_eq_getElem b];rw[e] at this;simp[this]
theorem rP:∀ {l:List Fac} {o:List (List UInt8)},o.Nodup->(yz l o).Nodup
 | [],o,h=>h
 |f::fs,o,h=>by
  rw[yz];split
  ·exact rP h
  ·split
   ·refine rP ?_;split
    ·exact h
    ·rename_i q;rw[nodup_append];refine⟨h,by simp,λa d b c e=>q ?_⟩;rw[mem_singleton] at c;subst c;exact any_eq_true.2 ⟨a,d,by simpa using e⟩
   ·exact rP h
theorem ab {fs:List Fac} :∀ {I:List Nat} (k:Nat),(∀i∈I,k<=i)->I.Pairwise (· < ·)->(I.filterMap λi=>fs[i]?).Sublist (fs.drop k)
 | [],k,_,_=>nil_sublist _
 |i::I,k,h,a=>by
  rw[pairwise_cons] at a;have c:=ab (fs:=fs) (i+1) (λj g=>a.1 j g) a.2;have l:=h i mem_cons_self;have b:(fs.drop i).Sublist (fs.drop k):=by
   rw[show i=k+(i-k) by omega,<-drop_drop];exact drop_sublist _ _
  rw[filterMap_cons];cases e:fs[i]? with
  |none=>
   refine(c.trans ?_).trans b;rw[show i+1=i+1 from rfl,<-drop_drop]
   exact drop_sublist _ _
  |some f=>
   obtain⟨d,rfl⟩:=List.getElem?_eq_some_iff.1 e;refine List.Sublist.trans ?_ b;rw[drop_eq_getElem_cons d];exact c.cons_cons _
def InI.sub (H:InI fs I):(zq fs I).Sublist fs:=by
 have:=ab (fs:=fs) 0 (λi _=>zero_le i) H.inc
 rwa [drop_zero] at this
section
variable {c:Cat} {fs:List Fac}
def CX (h0:(zM c fs).2.2=0) (d:gs.Sublist fs) (b:(zM c gs).2.2=0):(bB c (tV c gs) (oV c gs)).Sublist (bB c (tV c fs) (oV c fs)):=by
 unfold bB;refine List.Sublist.append ?_ ?_
 ·rw[cM h0,cM b];exact((d.filter _).map _).map _
 ·have e1:oV c gs=yz gs []:=kI b;have e2:oV c fs=yz fs []:=kI h0;rw[e1,e2,map_const',map_const',replicate_sublist_replicate];refine List.Nodup.length_le_of_subset (rP nodup_nil) λs a=> ?_;rcases to.1 a with q| ⟨f,hf,g,e⟩
  ·cases q
  ·exact to.2 (.inr ⟨f,d.subset hf,g,e⟩)
end
variable {c:Cat}{fs:List Fac}
theorem Km:∀ (n:Nat) (e:Ex),e.size<=n->e.Fit c->c.ls.length≠0
 |0, .mk k a x l d,h,_=>by simp only[Ex.size] at h;omega
 |n+1, .mk k a x l d,h,hf=>by
  obtain⟨h1,b⟩:=hf.self;have h1:mV k a x l.length=0:=h1;have b:Vw c (.mk k a x l d)=0:=b;unfold mV at h1;split at h1
  ·split at h1
   ·exact absurd h1 (by decide)
   ·split at h1
    ·exact absurd h1 (by decide)
    ·rename_i q;intro h0;unfold Vw at b;split at b
     ·exact absurd b (by decide)
     ·rename_i f;have i:a≠[]:=λe=>by subst e;exact q (by simp[tJ])
      have g:gF c a x=true:=by
       simp only[Ex.name,Ex.exc] at f;simp[i] at f;exact f
      unfold gF at g
      have:rH c a=none:=by
       unfold rH;split
       ·rfl
       ·split
        ·rw[List.length_eq_zero_iff.1 h0];rfl
        ·rfl
      simp[this] at g
  ·split at h1
   ·split at h1
    ·exact absurd h1 (by decide)
    ·rename_i q;simp only[Bool.or_eq_true,decide_eq_true_eq,not_or] at q;cases l with
     |nil=>exact absurd (by simp:((([]:List Ex).length:Nat):Int)<2) q.1.1
     |cons e l=>
      refine Km n e ?_ (hf.kid (by simp[Ex.kids]));simp only[Ex.size,zi] at h;omega
   ·exact absurd h1 (by decide)
def Ko (h:rK c e=0):c.ls.length≠0:=by
 unfold rK at h;split at h
 ·rename_i q;exact Km _ e (Nat.le_refl _) (RO (by simpa using q)).2.2
 ·rename_i q;rw[h] at q;exact absurd rfl q
def YO (h:(zM c fs).2.2=0):((yS c fs).2=0)/\∀f∈fs,f.kind=1->rK c f.e=0:=by
 unfold zM at h;by_cases q:(!((yS c fs).2==0))=true
 ·rw[ip q] at h
  have:(yS c fs).2≠0:=by simpa using q
  exact absurd h this
 ·rw[iq q,kH] at h;exact⟨by simpa using q,h⟩
def Rb (h:(zM c fs).2.2=0) (a:gs.Sublist fs):(zM c gs).2.2=0:=by
 obtain⟨h1,b⟩:=YO h;obtain⟨e1,e2,e3⟩:=tP.1 h1
 have:(yS c gs).2=0:=tP.2 ⟨e1,by have:=a.length_le;omega,λf hf=>e3 f (a.subset hf)⟩;unfold zM;rw[iq (by rw[this];decide)];exact kH.2 λf hf=>b f (a.subset hf)
def CY (h:yR c fs=0) (i:gs.Sublist fs):yR c gs=0:=by
 have h0:=nY h;have b:=Rb h0 i;have key:FK c gs<=4096:=by
  show Qk (bB c (tV c gs) (oV c gs))<=4096;by_cases g:c.ls.length=0
  ·have e1:tV c gs= []:=by
    rw[cM b];cases e:pC gs with
    |nil=>rfl
    |cons f l=>
     obtain⟨hf,k⟩:=List.mem_filter.1 (show f∈gs.filter λf=>f.kind==1 from by
      have:f∈pC gs:=by rw[e];exact List.mem_cons_self
      exact this)
     exact absurd g (Ko ((YO b).2 f hf (by simpa using k)))
   rw[e1];unfold bB;cases oV c gs with
   |nil=>show Qk []<=4096;decide
   |cons s l=>simp[Qk,g]
  ·have d:∀fs:List Fac,∀r∈bB c (tV c fs) (oV c fs),0<r:=λfs r hr=>by
    rcases List.mem_append.1 hr with q|q
    ·obtain⟨a,j,rfl⟩:=List.mem_map.1 q;exact List.length_pos_iff.2 (uA _ j).2.ne
    ·obtain⟨s,_,rfl⟩:=List.mem_map.1 q;omega
   have h1:=UN (d fs) (.inl (RT h));have m:Qk (bB c (tV c fs) (oV c fs))<=4096:=RT h;have h3:=CV (CX h0 i b) (d fs);have h5:=UN (d gs) (.inr ow);omega
 unfold yR;rw[iq (by rw[b];decide),iq (by simp;omega)]
section
variable {c:Cat} {fs:List Fac}
def HD {y:Cho} (W:Whole c fs y) (H:InI fs I) {v:Vio} (n:v∈sS c fs y) (k:∀x:Nat,(x:Int)∈v.facts->x∈I):sS c (zq fs I) (YK y fs I)≠[]:=by
 obtain⟨i,h1,p,l,m,e⟩:=nX.1 n;have d:∀x∈l,x∈I:=λx g=>k x (by rw[<-e,nG,mem_map];exact⟨x,g,rfl⟩);have b:∀x∈I,I.findIdx (λz=>z==x)<I.length/\I.getD (I.findIdx λz=>z==x) 0=x:=λx g=>by
  have a:I.findIdx (λz=>z==x)<I.length:=findIdx_lt_length.2 ⟨x,g,by simp⟩;refine⟨a,?_⟩;rw[getD_eq_getElem?_getD,getElem?_eq_getElem a];have:=findIdx_getElem (w:=a);simpa using this
 have f:(l.map λx=>I.findIdx λz=>z==x).map (λj=>I.getD j 0)=l:=by
  rw[map_map]
  conv=>rhs;rw[<-map_id l]
  exact map_congr_left λx g=>(b x (d x g)).2
 have a:∀x∈l.map (λx=>I.findIdx λz=>z==x),x<(zq fs I).length:=λx g=>by
  obtain⟨z,o,rfl⟩:=mem_map.1 g;rw[wB H.lt];exact(b z (d z o)).1
 have h:uY c (zq fs I) (alS (zq fs I) (YK y fs I)) (zd (YK y fs I) (zq fs I) (zq fs I).length).O i (l.map λx=>I.findIdx λz=>z==x):=by
  refine((H.emb).row (I6 W H) (c:=c) (r:=i) a).2 ?_;rw[f];exact m
 intro e2;have:=nX.2 ⟨i,h1,(show(⟨(i:Int),tN _⟩:Vio).row=(i:Int) from rfl),_,h,rfl⟩
 rw[e2] at this;cases this
theorem YP {F:Nat->Nat->List Nd} (n:Nat):∀ {s k:Nat},k<s->∃b,∀x∈F k b,x∈(wk F s n).2
 |s+1,k,h=>by
  rcases Nat.lt_succ_iff_lt_or_eq.1 h with q|rfl
  ·obtain⟨b,h⟩:=YP n q;exact⟨b,λx a=>by rw[wk];exact mem_append_left _ (h x a)⟩
  ·exact⟨_,λx a=>by rw[wk];exact mem_append_right _ a⟩
def Le.mem {p q:Part} (h:Le p q) {v:Vio} (a:v∈sS c fs (sT p)):v∈sS c fs (sT q):=h.gap.vios a
theorem cN (h0:(zM c fs).2.2=0) {q:Part} (j:Full c fs q):∀m p n,POk c fs p->Le p q->opn c fs p<=m->uE c fs m p= []->∃v,(⟨-1,[],some v⟩:Nd)∈uX c fs m p n/\v∈sS c fs (sT q)
 |0,p,n,g,f,r,a=>by
  cases e:jz c fs p with
  |none=>simp[uE,e] at a
  |some v=>exact⟨v,by rw[(tr e _ _).2];exact mem_cons_self,f.mem (mem_of_mem_head? (by unfold jz at e;exact e))⟩
 |m+1,p,n,g,f,r,a=>by
  cases e:jz c fs p with
  |some v=>exact⟨v,by rw[(tr e _ _).2];exact mem_cons_self,f.mem (mem_of_mem_head? (by unfold jz at e;exact e))⟩
  |none=>
   cases e2:nxV c fs p with
   |none=>rw[(kJ e e2 _ 0).1] at a;cases a
   |some v=>
    obtain⟨s,_,_⟩:=re e2;obtain⟨k,d,b⟩:=j.val s;have h:uE c fs m (tp c fs p v k)= []:=by
     simp only[uE,e,e2,Option.isSome,Bool.false_eq_true,if_false] at a;exact flatMap_eq_nil_iff.1 a k (mem_range.2 d)
    obtain⟨i,o⟩:=YP (F:=λk i=>uX c fs m (tp c fs p v k) i) (n+1) d;obtain⟨w,h1,l⟩:=cN h0 j m _ i (g.dec d) (f.dec b) (by have:=cK g h0 e2 d;omega) h;refine⟨w,?_,l⟩;simp only[uX,e,e2];exact mem_cons_of_mem _ (o _ h1)
def kK [BEq α] [LawfulBEq α] {l:List α} (h:l.Nodup) (b:k<l.length):l.findIdx (λz=>z==l[k])=k:=by
 have h1:l.findIdx (λz=>z==l[k])<l.length:=findIdx_lt_length.2 ⟨l[k],getElem_mem b,by simp⟩;have a:l[l.findIdx (λz=>z==l[k])]=l[k]:=by
  have:=findIdx_getElem (w:=h1);simpa using this
 exact(getElem_inj h).1 a
def HE (h:i<=j):tn fs i<=tn fs j:=by
 unfold tn;exact((take_sublist_take_left h).filter _).length_le
def CZ (h:i<j) (a:i<fs.length) (b:qJ fs i=1):tn fs i<tn fs j:=by
 have h1:=kG a;rw[show(fs[i].kind==1)=true from by rw[<-wO a,b];rfl] at h1
 have c:=HE (fs:=fs) (show i+1<=j from h)
 simp at h1;omega
theorem HF (h0:(zM c fs).2.2=0) (hl:yz fs []≠[]->c.ls.length≠0) (H:InI fs I) (hp:Full c (zq fs I) p) (g0:(zM c (zq fs I)).2.2=0):∃q,Full c fs q/\YK (sT q) fs I=sT p:=by
 have F:=hp.whole g0;obtain⟨h1,h2⟩:=YO h0;obtain⟨e1,e2,e3⟩:=tP.1 h1;obtain⟨J,G⟩:∃J,I.filter (λi=>qJ fs i==1)=J:=⟨_,rfl⟩;have g:∀i∈J,i<fs.length/\qJ fs i=1:=λi t=>by
  rw[<-G] at t;obtain⟨D,E⟩:=mem_filter.1 t;exact⟨H.lt i D,by simpa using E⟩
 have M:J.Pairwise (· < ·):=by rw[<-G];exact H.inc.filter _
 have A:pC (zq fs I)=zq fs J:=by rw[mc H.lt,G]
 have N:(J.map (tn fs)).Nodup:=by
  refine Pairwise.imp (λ{a b} h e=>by omega) (pairwise_map.2 (M.imp_of_mem (R:=(· < ·)) (S:=λa b=>tn fs a<tn fs b) λ{a b} Z hb h=>CZ h (g a Z).1 (g a Z).2))
 have Q:p.ts.length=J.length:=by
  have:=F.tl;rw[A,wB λi t=>(g i t).1] at this;rw[<-this];show _=(p.ts.map se).length;rw[length_map]
 have C:p.own.length=(yz (zq fs I) []).length:=F.ol;have x:(yz (zq fs I) []).Nodup:=rP nodup_nil;obtain⟨m,r⟩:∃l,yz (zq fs I) []=l:=⟨_,rfl⟩;rw[r] at C x
 let n:Nat->List Trm:=λv=>if(J.map (tn fs)).findIdx (λz=>z==v)<J.length then p.ts.getD ((J.map (tn fs)).findIdx (λz=>z==v)) [] else((tV c fs).getD v []).getD 0 []
 let u:List UInt8->List UInt8:=λs=>if m.findIdx (λz=>z==s)<m.length then p.own.getD (m.findIdx (λz=>z==s)) [] else(c.ls.map Lic.name).getD 0 []
 have Y:=cM h0;have ad:(tV c fs).length=(pC fs).length:=by rw[Y,length_map]
 have T:∀k (d:k<J.length),p.ts.getD k []∈ofL c (fs[J[k]]'(g _ (getElem_mem d)).1).e:=λk d=>by
  have O:=(g _ (getElem_mem d)).1;have h3:(pC (zq fs I))[k]? =some fs[J[k]]:=by
   rw[A,jP λi t=>(g i t).1,getElem?_eq_getElem d];exact getElem?_eq_getElem O
  have:=F.ts k (by show k<(p.ts.map se).length;rw[length_map];omega) _ h3;have e:((sT p).ts[k]'(by show k<(p.ts.map se).length;rw[length_map];omega)).ts=p.ts.getD k []:=by
   show((p.ts.map se)[k]'(by rw[length_map];omega)).ts=_;rw[getElem_map,md,getD_eq_getElem?_getD,getElem?_eq_getElem ow];rfl
  rwa [e] at this
 refine⟨⟨(List.range (pC fs).length).map n,(yz fs []).map u⟩,Whole.full ⟨e1,e2,e3,h2,?_,?_,?_,?_⟩,?_⟩
 ·show(((List.range (pC fs).length).map n).map se).length=_;simp
 ·intro v hv f hf;have V:v<(pC fs).length:=by
   have:v<(((List.range (pC fs).length).map n).map se).length:=hv;simpa using this
  have e:((sT ⟨(List.range (pC fs).length).map n,(yz fs []).map u⟩).ts[v]'hv).ts=n v:=by
   show((((List.range (pC fs).length).map n).map se)[v]'(by simpa using V)).ts=_;simp only[getElem_map,getElem_range,md]
  rw[e];show(if _ then _ else _)∈_
  split
  ·rename_i d;have j:(J.map (tn fs))[(J.map (tn fs)).findIdx (λz=>z==v)]'(by rw[length_map];exact d)=v:=by
    have:=findIdx_getElem (xs:=J.map (tn fs)) (p:=λz=>z==v) (w:=by rw[length_map];exact d);simpa using this
   rw[getElem_map] at j;have K:=T _ d;obtain⟨D,E⟩:=g _ (getElem_mem d);have h5:=FN D E;rw[j,hf] at h5;cases h5;exact K
  ·have L:(tV c fs).getD v []=ofL c f.e:=by
    rw[getD_eq_getElem?_getD,Y,getElem?_map,hf];rfl
   have P:(tV c fs).getD v []∈tV c fs:=by
    have W:v<(tV c fs).length:=ow;rw[getD_eq_getElem?_getD,getElem?_eq_getElem W];exact getElem_mem _
   have B:=(uA _ P).2.ne;rw[L] at B⊢;obtain⟨a,l,e⟩:=exists_cons_of_ne_nil B;rw[e];exact mem_cons_self
 ·show((yz fs []).map u).length=_;rw[length_map]
 ·intro s hs;obtain⟨o,ho,rfl⟩:=mem_map.1 hs;have U:(if m.findIdx (λz=>z==o)<m.length then p.own.getD (m.findIdx (λz=>z==o)) [] else(c.ls.map Lic.name).getD 0 [])=u o:=rfl
  rw[<-U];split
  ·rename_i d;refine F.own _ ?_;have y:m.findIdx (λz=>z==o)<p.own.length:=ow;rw[getD_eq_getElem?_getD,getElem?_eq_getElem y];exact getElem_mem y
  ·have:=hl (ne_nil_of_mem ho);have X:0<c.ls.length:=ow;rw[pS X];exact any_eq_true.2 ⟨_,getElem_mem X,by simp⟩
 ·show Cho.mk (WZ _ fs I) (BY _ (yz fs []) (yz (zq fs I) []))=Cho.mk _ _;rw[r];congr 1
  ·unfold WZ;rw[G];refine ext_getElem (by simp[Q]) λk h3 K=> ?_;have d:k<J.length:=by simpa using h3
   obtain⟨D,E⟩:=g _ (getElem_mem d);have h5:=FN D E;have L:=(List.getElem?_eq_some_iff.1 h5).1;rw[getElem_map,getElem_map];show List.getD (((List.range (pC fs).length).map n).map se) _ _=_;rw[getD_eq_getElem?_getD,getElem?_map,getElem?_map,getElem?_range L];have j:(J.map (tn fs)).findIdx (λz=>z==tn fs J[k])=k:=by
    have:=kK N (k:=k) (by rw[length_map];exact d);simpa only[getElem_map] using this
   show se (n (tn fs J[k]))=_;show se (if _ then _ else _)=_
   rw[ip (by rw[j];exact d),j,getD_eq_getElem?_getD,getElem?_eq_getElem ow];rfl
  ·unfold BY;refine ext_getElem (by simp[C]) λk h3 K=> ?_;have d:k<m.length:=by simpa using h3
   rw[getElem_map];have P:m[k]∈yz fs []:=Wb (by rw[r];exact getElem_mem d);have hx:=(zCM P).2;unfold rT;show List.getD ((yz fs []).map u) _ _=_;have hg:(yz fs [])[(yz fs []).findIdx λz=>z==m[k]]=m[k]:=by
    have:=findIdx_getElem (w:=hx);simpa using this
   rw[getD_eq_getElem?_getD,getElem?_map,getElem?_eq_getElem hx,hg];have j:=kK x d;show u m[k]=_;show(if _ then _ else _)=_
   rw[ip (by rw[j];exact d),j,getD_eq_getElem?_getD,getElem?_eq_getElem ow];rfl
end
end Go.V
