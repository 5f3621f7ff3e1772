/- A machine of abstract values for programs of the model, further rules, part 5. No condition. -/
import Derived.Test.YthcjhnmnhfgdiaaGreatDoorW39
set_option linter.all false
set_option maxHeartbeats 8000000
namespace Go.V
section
variable {P:Program} {W:Nat->(Nat->Prop)->Heap->Prop} {V:(Nat->Prop)->Heap->Prop} {n:Nat} {L:LRec} {el:Nat->List D}
variable {f:FuncId}{args:List D}{h:Heap}{S U:Nat->Prop}{fr:Frm}
def KQ {b:Nat} (O:h.next=b) {B C D:(Nat->Prop)->Heap->Prop} {Q:Exit->Frm->Heap->Prop} (v:Lcl W) (X:Lcl λ_=>V) (p:Lcl λ_=>B) (J:Lcl λ_=>C) (K:Lcl λ_=>D) (T:L.st= .ready) (R:L.pending=none) (N:W 0 S h) (I:B U h) (Z:∀i,S i->¬U i)
  (y:Yld P b n el (YLp b L W) (ZLp b L V)->YLp b L W 0 (λi=>i=b\/S i) (h.new b (.loop L))->B U (h.new b (.loop L))->(∀i,(i=b\/S i)->¬U i)->zA P f args (h.new b (.loop L)) λ_ h'=>∃S' a,(∀j,S' j->(j=b\/S j)\/(h.new b (.loop L)).next<=j)/\(∀j,a j->U j\/(h.new b (.loop L)).next<=j)/\(∀i,S' i->¬a i)/\But (λi=>(i=b\/S i)\/U i) (h.new b (.loop L)) h'/\((YLp b L W n S' h'/\C a h')\/(ZLp b L V S' h'/\D a h')))
  (go:∀k S0 h3,k<n->b<h3.next->h3.at' b=some (.loop L)->W k S0 h3->¬S0 b->yg P b (el k) h3 (LpZ b L W V k S0 h3))
  (H:∀S' a d,(∀j,S' j->S j\/b<=j)->(∀j,a j->U j\/b<=j)->(∀i,S' i->¬a i)->But (λi=>S i\/U i) h d->W n S' d->C a d->Q .normal fr d)
  (t:∀S' a d,(∀j,S' j->S j\/b<=j)->(∀j,a j->U j\/b<=j)->(∀i,S' i->¬a i)->But (λi=>S i\/U i) h d->V S' d->D a d->Q .ret fr d):
  zA P f args (h.new b (.loop L)) λ_ h'=>∃r,h'.at' b=some (.loop r)/\r.st≠ .busy/\cM r.pending Q fr (h'.del b):=by
 subst O;have hn:(h.new h.next (.loop L)).next=h.next+1:=zF _ _;have M:¬S h.next:=λe=>Nat.lt_irrefl _ (v.here _ _ _ N _ e);have u:¬U h.next:=λe=>Nat.lt_irrefl _ (p.here 0 _ _ I _ e);refine(y (YLp.yldZ v X go) ⟨by omega,zK _ _ _,S,v.loc _ _ _ _ N ow λi c=>zH (by have:=v.here _ _ _ N _ c;omega),M,λi=>Iff.rfl⟩ (p.loc 0 _ _ _ I ow λi c=>zH (by have:=p.here 0 _ _ I _ c;omega)) (λi c=>by
  rcases c with rfl|c
  ·exact u
  ·exact Z i c)).mono ?_
 have key:∀ (S' a S0:Nat->Prop) (d:Heap),(∀j,S' j->(j=h.next\/S j)\/(h.new h.next (.loop L)).next<=j)->(∀j,a j->U j\/(h.new h.next (.loop L)).next<=j)->(∀i,S' i->¬a i)->But (λi=>(i=h.next\/S i)\/U i) (h.new h.next (.loop L)) d->¬S0 h.next->(∀i,S' i↔(i=h.next\/S0 i))->(∀j,S0 j->S j\/h.next<=j)/\(∀j,a j->U j\/h.next<=j)/\(∀i,S0 i->¬a i)/\But (λi=>S i\/U i) h (d.del h.next)/\¬a h.next:=by
  intro S' a S0 d A l g w m o;refine⟨λj z=> ?_,λj z=>(l j z).imp (λq=>q) λq=>by omega,λi c=>g i ((o i).2 (.inr c)),⟨by have:=w.1;show h.next<=d.next;omega,λi c x=> ?_⟩,g _ ((o _).2 (.inl rfl))⟩
  ·rcases A j ((o j).2 (.inr z)) with(q|q)|q
   ·subst q;exact absurd z m
   ·exact .inl q
   ·exact .inr ow
  ·have s:i≠h.next:=ow;rw[yJ s,w.2 i ow (λe=>e.elim (λe=>e.elim s λq=>x (.inl q)) λq=>x (.inr q)),zH s]
 rintro r d ⟨S',a,A,l,g,w,⟨⟨Y,E,S0,F,m,o⟩,G⟩ | ⟨⟨Y,E,S0,F,m,o⟩,G⟩⟩
 ·obtain⟨k1,k2,k3,k4,k5⟩:=key S' a S0 d A l g w m o;refine⟨L,E,(by rw[T];intro q;cases q),?_⟩;rw[R,uz];exact H S0 a _ k1 k2 k3 k4 (v.loc _ _ _ _ F (Nat.le_refl _) λi c=>yJ λe=>by subst e;exact m c) (J.loc 0 _ _ _ G (Nat.le_refl _) λi c=>yJ λe=>by subst e;exact k5 c)
 ·obtain⟨k1,k2,k3,k4,k5⟩:=key S' a S0 d A l g w m o;refine⟨_,E,(by intro q;cases q),?_⟩;simp only[mz];exact t S0 a _ k1 k2 k3 k4 (X.loc 0 _ _ _ F (Nat.le_refl _) λi c=>yJ λe=>by subst e;exact m c) (K.loc 0 _ _ _ G (Nat.le_refl _) λi c=>yJ λe=>by subst e;exact k5 c)
end
open List hiding max min map and or get le lt range extract
open Nat(zero_le le_refl le_trans lt_irrefl le_of_lt lt_of_lt_of_le lt_of_le_of_lt lt_succ_iff_lt_or_eq le_of_lt_succ)
open Go.Proofs
set_option maxRecDepth 100000
def WM (c:Cat) (fs:List Fac) (p:Part):Option Vio:=(tB c fs (nH p)).head?
structure Nd where
 var:Int
 kids:List Int
 vio:Option Vio
def tC (c:Cat) (fs:List Fac):Nat->Part->List Part
 |0,p=>if(WM c fs p).isSome=true then [] else [p]
 |m+1,p=>if(WM c fs p).isSome=true then [] else match nxV c fs p with
  |none=>[p]
  |some v=>(List.range (szV c fs v)).flatMap λk=>tC c fs m (uP c fs p v k)
def uR (f:Nat->Nat->List Nd):Nat->Nat->List Int×List Nd
 |0,_=>([],[])
 |k+1,n=>((uR f k n).1++ [((n+(uR f k n).2.length:Nat):Int)],(uR f k n).2++f k (n+(uR f k n).2.length))
def rR (c:Cat) (fs:List Fac):Nat->Part->Nat->List Nd
 |0,p,_=>match WM c fs p with
  |some v=>[⟨-1,[],some v⟩]
  |none=>[]
 |m+1,p,n=>match WM c fs p with
  |some v=>[⟨-1,[],some v⟩]
  |none=>match nxV c fs p with
   |none=>[]
   |some v=>⟨(v:Int),(uR (λk n'=>rR c fs m (uP c fs p v k) n') (szV c fs v) (n+1)).1,none⟩ ::(uR (λk n'=>rR c fs m (uP c fs p v k) n') (szV c fs v) (n+1)).2
def opn (c:Cat) (fs:List Fac) (p:Part):Nat:=((List.range (ctV c fs)).filter (qr c fs p)).length
variable {c:Cat}{fs:List Fac}{p:Part}{f:FuncId}{args:List D}{h h':Heap}{S U S0:Nat->Prop}{fr:Frm}{xs:List (List D)}{sz i nid j:Nat}{d:D}
def pb {v:Nat} (h:nxV c fs p=some v):v<ctV c fs/\qr c fs p v=true/\∀j,j<v->qr c fs p j=false:=by
 unfold nxV at h;rw[find?_eq_some_iff_getElem] at h;obtain⟨h1,i,b,a,h3⟩:=h;simp at a b;subst a;exact⟨b,h1,λj d=>by have:=h3 j d;simp at this;exact this⟩
def zCL (h:(za c fs).2.2=0):tO c=0:=by
 unfold za at h;split at h
 ·rename_i q;rw[h] at q;exact absurd q (by decide)
 ·rename_i q;exact V2 (by simpa using q)
def CL (h:tO c=0) {x:Lic} (b:x∈c.ls):x.name≠[]:=λe=>by
 have h1:c.e1=0:=by
  unfold tO at h;split at h
  ·exact absurd h (by decide)
  ·split at h
   ·rename_i q;rw[h] at q;exact absurd q (by decide)
   ·simp_all
 obtain⟨i,a,rfl⟩:=mem_iff_getElem.1 b;have:=lS h1 i a;unfold atE at this;rw[getElem?_eq_getElem a] at this;simp only[lF] at this;rw[ip (by rw[e];rfl)] at this;cases this
def Z6 (h:POk c fs p) (h0:(za c fs).2.2=0) {v k:Nat} (j:v<ctV c fs) (a:k<szV c fs v) (w:Nat):deV c fs (uP c fs p v k) w=(decide (w=v)||deV c fs p w):=by
 unfold uP;unfold szV at a;by_cases f:v<(tV c fs).length
 ·rw[ip f] at a⊢;unfold deV;by_cases b:w<(tV c fs).length
  ·simp only[ip b];by_cases e:w=v
   ·subst e;have d:w<p.ts.length:=by rw[h.tl];exact b
    rw[decide_eq_true rfl,Bool.true_or,getD_eq_getElem?_getD,getElem?_set_self d,Option.getD_some,decide_eq_true_eq];have g:((tV c fs).getD w []).getD k []≠[]:=by
     rw[getD_eq_getElem?_getD (l:=(tV c fs).getD w []),getElem?_eq_getElem a];have i:(tV c fs).getD w []∈tV c fs:=by rw[getD_eq_getElem?_getD,getElem?_eq_getElem b];exact getElem_mem _
     exact((tR _ i).2.ts _ (getElem_mem a)).1
    exact length_pos_iff.2 g
   ·rw[decide_eq_false e,Bool.false_or,getD_eq_getElem?_getD,getElem?_set_ne (λq=>e q.symm),<-getD_eq_getElem?_getD]
  ·simp only[iq b];rw[decide_eq_false (show¬w=v by omega),Bool.false_or]
 ·rw[iq f] at a⊢;unfold deV;by_cases b:w<(tV c fs).length
  ·simp only[ip b];rw[decide_eq_false (show¬w=v by omega),Bool.false_or]
  ·simp only[iq b];by_cases e:w=v
   ·subst e;have d:w- (tV c fs).length<p.own.length:=by rw[h.ol];unfold ctV at j;omega
    rw[decide_eq_true rfl,Bool.true_or,getD_eq_getElem?_getD,getElem?_set_self d,Option.getD_some,o6 a];have:=CL (zCL h0) (getElem_mem a);simp[this]
   ·rw[decide_eq_false e,Bool.false_or,getD_eq_getElem?_getD,getElem?_set_ne ow,<-getD_eq_getElem?_getD]
def V8 (g:POk c fs p) (h0:(za c fs).2.2=0) {v k:Nat} (i:nxV c fs p=some v) (f:k<szV c fs v):opn c fs (uP c fs p v k)<opn c fs p:=by
 obtain⟨h1,d,_⟩:=pb i;have key:∀l:List Nat,(l.filter (qr c fs (uP c fs p v k))).length<=(l.filter (qr c fs p)).length/\(v∈l->(l.filter (qr c fs (uP c fs p v k))).length<(l.filter (qr c fs p)).length):=λl=>by
  induction l with
  |nil=>exact⟨le_refl _,λh=>by cases h⟩
  |cons w l a=>
   have b:qr c fs (uP c fs p v k) w=(!decide (w=v)&&qr c fs p w):=by
    unfold qr;rw[Z6 g h0 h1 f];cases decide (w=v)<;>cases decide (1<szV c fs w)<;>cases deV c fs p w<;>rfl
   by_cases e:w=v
   ·subst e;rw[filter_cons,filter_cons,b,d];simp only[decide_true,Bool.not_true,Bool.false_and,Bool.false_eq_true,if_false,if_true,length_cons];exact⟨by omega,λ_=>by omega⟩
   ·rw[filter_cons,filter_cons,b,decide_eq_false e,Bool.not_false,Bool.true_and];split
    ·simp only[length_cons];exact⟨by omega,λh=>by have:=a.2 ((mem_cons.1 h).resolve_left λq=>e q.symm);omega⟩
    ·exact⟨a.1,λh=>a.2 ((mem_cons.1 h).resolve_left λq=>e q.symm)⟩
 exact(key _).2 (mem_range.2 h1)
open Go.Proofs.Tryz
def HC:∀ {a j:Nat} {x:List D},(∀y∈xs,y.length=sz)->xs[a]? =some x->j<sz->xs.flatten[a*sz+j]? =x[j]? :=by
 induction xs with
 |nil=>intro a j x _ h;cases h
 |cons z xs f=>
  intro a j x b h c;have e:=b z mem_cons_self;cases a with
  |zero=>cases h;rw[flatten_cons,Nat.zero_mul,Nat.zero_add,getElem?_append_left ow]
  |succ a=>
   rw[flatten_cons,getElem?_append_right (by rw[Nat.succ_mul];omega),e,show(a+1)*sz+j-sz=a*sz+j by rw[Nat.succ_mul];omega];exact f (λy d=>b y (mem_cons_of_mem _ d)) h c
def HD {w:D} :∀ {a j:Nat} {x:List D},(∀y∈xs,y.length=sz)->xs[a]? =some x->j<sz->xs.flatten.set (a*sz+j) w=(xs.set a (x.set j w)).flatten:=by
 induction xs with
 |nil=>intro a j x _ h;cases h
 |cons z xs f=>
  intro a j x b h c;have e:=b z mem_cons_self;cases a with
  |zero=>cases h;rw[flatten_cons,Nat.zero_mul,Nat.zero_add,set_append_left _ _ ow];rfl
  |succ a=>
   rw[flatten_cons,set_append_right _ _ (by rw[Nat.succ_mul];omega),e,show(a+1)*sz+j-sz=a*sz+j by rw[Nat.succ_mul];omega,f (λy d=>b y (mem_cons_of_mem _ d)) h c];rfl
def BR:Option Vio->List D
 |none=>[.int .i64 0, .nilsl]
 |some v=>v.cells
def ndC (m:Nd×D):List D:= .int .i64 m.1.var::m.2::BR m.1.vio
def KR (m:Nd×D):(ndC m).length=4:=by obtain⟨⟨v,k,o⟩,d⟩:=m;cases o<;>rfl
def lq (M:List (Nd×D)):∀x∈M.map ndC,x.length=4:=λx a=>by
 obtain⟨m,_,rfl⟩:=mem_map.1 a;exact KR m
def NdH (nid:Nat) (L:List Nd) (S:Nat->Prop) (h:Heap):Prop:=
 nid<h.next/\∃ (d:D) (M:List (Nd×D)),h.at' nid=some (.row [d])/\RJ h 4 (M.map ndC) d/\¬lZ d nid/\M.map Prod.fst=L/\(∀m∈M,wd h 1 (qP m.1.kids) m.2)/\(∀ (a b:Nat) m m' i,M[a]? =some m->M[b]? =some m'->wB m.2 i->wB m'.2 i->a=b)/\∀i,S i↔(i=nid\/lZ d i\/∃m∈M,wB m.2 i)
def RJ.row (o:RJ h sz xs d) (a:lZ d i):i<h.next/\d= .rs i sz 0 xs.length/\h.at' i=some (.row xs.flatten):=by
 rcases o with⟨rfl,_⟩ | ⟨id,rfl,h1,b,_⟩
 ·exact a.elim
 ·cases a;exact⟨b,rfl,h1⟩
def NdH.here {L:List Nd} (H:NdH nid L S h) (i:Nat) (c:S i):i<h.next:=by
 obtain⟨h0,d,M,h1,a,h3,f,h5,g,b⟩:=H;rcases(b i).1 c with rfl|q| ⟨m,e,q⟩
 ·exact h0
 ·exact(a.row q).1
 ·exact((h5 m e).tok q).1
def NdH.loc {L:List Nd} (H:NdH nid L S h) (f:h.next<=h'.next) (c:∀i,S i->h'.at' i=h.at' i):NdH nid L S h':=by
 obtain⟨h0,d,M,h1,g,h3,j,h5,k,a⟩:=H;exact⟨by omega,d,M,by rw[c _ ((a _).2 (.inl rfl))];exact h1,g.loc f λi b=>c i ((a i).2 (.inr (.inl b))),h3,j,λm e=>(h5 m e).loc f λi b=>c i ((a i).2 (.inr (.inr ⟨m,e,b⟩))),k,a⟩
def NdH.len {L:List Nd} (H:NdH nid L S h):∃d,h.at' nid=some (.row [d])/\∀h',sD prog 35 d h'=some (.int .i64 L.length):=by
 obtain⟨h0,d,M,h1,a,h3,rfl,h5,b,c⟩:=H;refine⟨d,h1,λh'=> ?_⟩;rw[length_map];rcases a with⟨rfl,e⟩ | ⟨id,rfl,_⟩
 ·have:M= []:=by simpa using e
  subst this;exact ye (zd.nil (sz:=4)) underlying35
 ·rw[tU underlying35,length_map]
def NdH.app {L:List Nd} (H:NdH nid L S h) (v:Int) (o:Option Vio) (O:L.length<1048576):
  ∃d,h.at' nid=some (.row [d])/\(∀z,qZ d z h=h)/\∃r G w,zt prog true h.next 35 d (.sl 4 [ndC (⟨v,[],o⟩, .nilsl)] .full) h=some (r,G)/\zQ prog 35 (.ptr nid 0) r G=some w/\G.at' nid=some (.row [d])/\(∀i,i<h.next->¬S i->G.at' i=h.at' i)/\∃S',NdH nid (L++ [⟨v,[],o⟩]) S' w/\(∀i,S' i->S i\/h.next<=i)/\But S h w:=by
 obtain⟨h0,d,M,h1,x,h3,rfl,h5,I,l⟩:=H;have p:(M.map ndC).length=M.length:=length_map ..;rw[length_map] at O;obtain⟨g,j,B,C⟩:=RJ.app (P:=prog) (nid:=h.next) (tk:= .full) x oe EE nP ow (λcs=>uX underlying67) (lq M) (ys:=[ndC (⟨v,[],o⟩, .nilsl)]) (λy Q=>by rw[mem_singleton.1 Q];exact KR _) (by simp) (by rw[p,Pr];unfold lim;simp;omega) (by rw[p];unfold lim;simp;omega);have E:M.map ndC++ [ndC (⟨v,[],o⟩, .nilsl)]=(M++ [((⟨v,[],o⟩:Nd),D.nilsl)]).map ndC:=by simp
 rw[E] at j;obtain⟨G,J,K,A,c⟩:∃G:Heap,g.new h.next (.row ((M++ [((⟨v,[],o⟩:Nd),D.nilsl)]).map ndC).flatten)=G/\G.next=h.next+1/\G.at' h.next=some (.row ((M++ [((⟨v,[],o⟩:Nd),D.nilsl)]).map ndC).flatten)/\∀i,i<h.next->¬lZ d i->G.at' i=h.at' i:=
  ⟨_,rfl,by rw[<-B,zF],zK _ _ _,λi f k=>by rw[zH ow,C i k]⟩
 rw[J] at j;have u:G.at' nid=some (.row [d]):=by rw[c _ h0 h3,h1]
 have N:∀n:Nat,(M++ [((⟨v,[],o⟩:Nd),D.nilsl)]).map ndC≠[]:=λ_=>by simp
 refine⟨d,h1,x.trunc (lq M),_,G,G.set nid (.row [.rs h.next 4 0 ((M++ [((⟨v,[],o⟩:Nd),D.nilsl)]).map ndC).length]),j,by rw[zR u AI (by simp) rfl rfl];rfl,u,λi f k=>c i f λe=>k ((l _).2 (.inr (.inl e))),λi=>i=nid\/i=h.next\/∃m∈M,wB m.2 i,⟨by rw[zT];omega,_,M++ [((⟨v,[],o⟩:Nd),D.nilsl)],zD _ _ _, .inr ⟨h.next,rfl,by rw[zE ow];exact A,by rw[zT];omega,N 0⟩,λe=>by cases e;omega,by simp,λm s=> ?_,λa b m F i e1 e2 t1 t2=> ?_,λi=> ?_⟩,λi f=> ?_,⟨by rw[zT];omega,λi f k=> ?_⟩⟩
 ·rcases mem_append.1 s with q|q
  ·refine(h5 m q).loc (by rw[zT];omega) λi f=> ?_;obtain⟨t1,t2⟩:=(h5 m q).tok f;have R:i≠nid:=λe=>by rw[e,h1] at t2;cases t2
   rw[zE R,c i t1 λe=>by rw[(x.row e).2.2] at t2;cases t2]
  ·rw[mem_singleton.1 q];exact .inl ⟨rfl,rfl⟩
 ·have key:∀ (a:Nat) m,(M++ [((⟨v,[],o⟩:Nd),D.nilsl)])[a]? =some m->wB m.2 i->M[a]? =some m:=λa m e t=>by
   rcases Nat.lt_or_ge a M.length with q|q
   ·rw[<-e,getElem?_append_left q]
   ·rw[getElem?_append_right q] at e;have:=mem_singleton.1 (mem_of_getElem? e);subst this;exact t.elim
  exact I a b m F i (key a m e1 t1) (key b F e2 t2) t1 t2
 ·constructor
  ·rintro(q|q| ⟨m,s,q⟩)
   ·exact .inl q
   ·exact .inr (.inl q)
   ·exact .inr (.inr ⟨m,mem_append_left _ s,q⟩)
  ·rintro(q|q| ⟨m,s,q⟩)
   ·exact .inl q
   ·exact .inr (.inl q)
   ·rcases mem_append.1 s with h|h
    ·exact .inr (.inr ⟨m,h,q⟩)
    ·rw[mem_singleton.1 h] at q;exact q.elim
 ·rcases f with rfl|rfl|q
  ·exact .inl ((l _).2 (.inl rfl))
  ·exact .inr (le_refl _)
  ·exact .inl ((l _).2 (.inr (.inr q)))
 ·rw[zE (λe=>k ((l _).2 (.inl e))),c i f λe=>k ((l _).2 (.inr (.inl e)))]
theorem NdH.kid {L:List Nd} (H:NdH nid L S h) {a:Nat} {nd:Nd} (r:L[a]? =some nd) (n:Int) (hl:nd.kids.length<1048576):
  ∃f N,h.at' nid=some (.row [.rs f 4 0 N])/\nid<h.next/\f<h.next/\N=L.length/\∃cs R,h.at' f=some (.row cs)/\cs[a*4+1]? =some R/\∃g G A,zt prog false h.next 45 R (.sl 1 [[.int .i64 n]] .full) h=some (g,G)/\zQ prog 45 (.ptr f (a*4+1)) g G=some A/\G.at' nid=some (.row [.rs f 4 0 N])/\G.at' f=some (.row cs)/\∃S',NdH nid (L.set a { nd with kids:=nd.kids++ [n] }) S' A/\(∀i,S' i->S i\/h.next<=i)/\But S h A:=by
 obtain⟨h0,d,M,h1,Y,h3,rfl,h5,O,p⟩:=H;rw[getElem?_map] at r;obtain⟨m,u,rfl⟩:∃m,M[a]? =some m/\m.1=nd:=by
  cases q:M[a]? with
  |none=>rw[q] at r;cases r
  |some m=>rw[q] at r;exact⟨m,rfl,by cases r;rfl⟩
 have o:=mem_of_getElem? u;have Z:=(List.getElem?_eq_some_iff.1 u).1;rcases Y with⟨rfl,e⟩ | ⟨f,rfl,r1,r2,r3⟩
 ·have:M= []:=by simpa using e
  subst this;cases u
 have v:(M.map ndC)[a]? =some (ndC m):=by rw[getElem?_map,u];rfl
 obtain⟨g,G,e1,e2,e3,y,J,W,X⟩:=(h5 m o).app4 (P:=prog) (x:= .sl 1 [[.int .i64 n]] .full) (ys:=qP [n]) yK Yp wW ow lY (.inr ⟨by simp[qP], .full,rfl⟩) (by rw[yN,mf];unfold lim;simp[qP];omega) (by rw[yN];unfold lim;simp[qP];omega);have E:qP m.1.kids++qP [n]=qP (m.1.kids++ [n]):=by simp[qP]
 rw[E] at e2;have U:∀i V,h.at' i=some (.row V)->¬wB m.2 i:=λi V e t=>by rw[((h5 m o).tok t).2] at e;cases e
 have K:G.at' nid=some (.row [.rs f 4 0 (M.map ndC).length]):=by rw[y _ h0 (U _ _ h1),h1]
 have z:G.at' f=some (.row (M.map ndC).flatten):=by rw[y _ r2 (U _ _ r1),r1]
 have F:nid≠f:=λe=>h3 e;have D:(M.map ndC).flatten.length=M.length*4:=by rw[qF (lq M),length_map]
 have w:(M.map ndC).flatten.set (a*4+1) g=((M.set a ({ m.1 with kids:=m.1.kids++ [n] },g)).map ndC).flatten:=by
  rw[HD (lq M) v ow,map_set];rfl
 refine⟨f,_,h1,h0,r2,by simp,(M.map ndC).flatten,m.2,r1,by rw[HC (lq M) v ow];rfl,g,G,G.set f (.row ((M.set a ({ m.1 with kids:=m.1.kids++ [n] },g)).map ndC).flatten),e1,by rw[zR z AL (by rw[D];omega) W X,w],K,z,λi=>i=nid\/i=f\/∃k∈M.set a ({ m.1 with kids:=m.1.kids++ [n] },g),wB k.2 i,⟨by rw[zT];omega,_,M.set a ({ m.1 with kids:=m.1.kids++ [n] },g),by rw[zE F];exact K, .inr ⟨f,by simp,zD _ _ _,by rw[zT];omega,by rw[map_set];simpa using r3⟩,h3,by rw[map_set],λk l=> ?_,λI b' m1 m2 i q1 q2 t1 t2=> ?_,λi=>Iff.rfl⟩,λi j=> ?_,⟨by rw[zT];exact e3,λi j Q=> ?_⟩⟩
 ·rcases mem_or_eq_of_mem_set l with q|rfl
  ·obtain⟨b,hb,rfl⟩:=mem_iff_getElem.1 l;rw[getElem_set] at q⊢;split
   ·exact e2.loc (by rw[zT];exact le_refl _) λi j=>by rw[zE λe=>by have:=(e2.tok j).2;rw[e,z] at this;cases this]
   ·rename_i B;have C:b<M.length:=by simpa using hb
    have s:M[b]∈M:=getElem_mem _;refine(h5 _ s).loc (by rw[zT];exact e3) λi j=> ?_;obtain⟨t1,t2⟩:=(h5 _ s).tok j;rw[zE (λe=>by rw[e,r1] at t2;cases t2),y i t1 λt=>B (O a b m _ i u (getElem?_eq_getElem C) t j)]
  ·exact e2.loc (by rw[zT];exact le_refl _) λi j=>by rw[zE λe=>by have:=(e2.tok j).2;rw[e,z] at this;cases this]
 ·have key:∀ (c:Nat) k,(M.set a ({ m.1 with kids:=m.1.kids++ [n] },g))[c]? =some k->wB k.2 i->(c=a/\h.next<=i)\/(c≠a/\M[c]? =some k/\i<h.next):=λc k e t=>by
   rw[getElem?_set] at e;split at e
   ·rename_i q;cases e;exact .inl ⟨q.symm,J i t⟩
   ·rename_i q;exact .inr ⟨λe=>q e.symm,e,((h5 k (mem_of_getElem? e)).tok t).1⟩
  rcases key I m1 q1 t1 with⟨k1,k2⟩ | ⟨k1,k2,k3⟩ <;>rcases key b' m2 q2 t2 with⟨l1,T⟩ | ⟨l1,T,l3⟩
  ·omega
  ·omega
  ·omega
  ·exact O I b' m1 m2 i k2 T t1 t2
 ·rcases j with rfl|rfl| ⟨k,l,t⟩
  ·exact .inl ((p _).2 (.inl rfl))
  ·exact .inl ((p _).2 (.inr (.inl rfl)))
  ·rcases mem_or_eq_of_mem_set l with q|rfl
   ·exact .inl ((p _).2 (.inr (.inr ⟨k,q,t⟩)))
   ·exact .inr (J i t)
 ·rw[zE (λe=>Q ((p _).2 (.inr (.inl e)))),y i j λt=>Q ((p _).2 (.inr (.inr ⟨m,o,t⟩)))]
abbrev FI (p:Part):D:= .agg [tsD p,owD p]
theorem WN (f:Nat->Nat->List Nd):∀k n,(uR f k n).1.length=k
 |0,_=>rfl
 |k+1,n=>by rw[uR,length_append,WN f k n];rfl
def Qp (f:Nat->Nat->List Nd) (n:Nat):∀ {k m:Nat},k<=m->(uR f k n).2.length<=(uR f m n).2.length:=λ{k m} h=>by
 induction m with
 |zero=>rw[Nat.le_zero.1 h];exact le_refl _
 |succ m a=>
  rcases Nat.lt_or_eq_of_le h with q|rfl
  ·refine le_trans (a ow) ?_;rw[uR,length_append];omega
  ·exact le_refl _
section
variable {c:Cat} {fs:List Fac} {ca cb ce cp x td od:D}
def POk.alt (S:SpD c fs ca cb ce cp x td od) (b:POk c fs p):∀t∈p.ts,t.length<=64:=λt e=>by
 obtain⟨i,a,rfl⟩:=mem_iff_getElem.1 e;rcases b.t i _ (getElem?_eq_getElem a) with q|q
 ·rw[q];exact zero_le _
 ·have f:i<(tV c fs).length:=by rw[<-b.tl];exact a
  have d:(tV c fs).getD i []∈tV c fs:=by rw[getD_eq_getElem?_getD,getElem?_eq_getElem f];exact getElem_mem _
  exact((S.t64 _ d).2.ts _ q).2
def POk.cin (S:SpD c fs ca cb ce cp x td od) (b:POk c fs p):CIn c fs (nH p) (.agg [ca,cb,ce,cp]) x (FI p):=
 ⟨S.cat,S.sm,S.x,by have:=S.few.1.2;omega,S.few.1.1,S.ok,⟨_,_,rfl,zd.mk .no,zd.mk .no⟩,⟨by have:=S.tl;have:=b.tl;show(p.ts.map ln).length<=_;rw[length_map];omega,by have:=S.ol;have:=b.ol;show p.own.length<=_;omega,λa d=>by
  obtain⟨t,e,rfl⟩:=mem_map.1 d;exact⟨by rw[V7];exact KI t,by rw[V7];have:=b.alt S t e;omega⟩⟩⟩
def POk.err (S:SpD c fs ca cb ce cp x td od) (b:POk c fs p):zw c fs (nH p) true=0:=by
 have h1:(nH p).ts.length=(tV c fs).length:=by show(p.ts.map ln).length=_;rw[length_map,b.tl]
 have e:(nH p).own.length=(oV c fs).length:=b.ol;have e1:nw (nC (tV c fs) (nH p).ts true) (nH p).ts.length=0:=wL λi a=>by
  rw[h1,<-b.tl] at a;unfold nC
  have:(nH p).ts[i]? =some (ln p.ts[i]):=by show(p.ts.map ln)[i]? =_;rw[getElem?_map,getElem?_eq_getElem a];rfl
  rw[this];simp only[V7];rcases b.t i _ (getElem?_eq_getElem a) with q|q
  ·rw[q];rfl
  ·split
   ·rfl
   ·rw[iq];simp only[Bool.not_eq_true',Bool.not_eq_false,any_eq_true];simpa using⟨_,q,(lT _ _).2 rfl⟩
 have e2:nw (Lj c (nH p).own true) (nH p).own.length=0:=wL λi a=>by
  unfold Lj;have d:(nH p).own[i]∈p.own:=getElem_mem a;rw[getElem?_eq_getElem a];generalize(nH p).own[i]=s at d;rcases b.o s d with q| ⟨y,f,q⟩
  ·rw[q];rfl
  ·split
   ·rename_i h;cases h
   ·rename_i h;cases h;split
    ·rfl
    ·rw[iq];simp only[Bool.not_eq_true',Bool.not_eq_false,any_eq_true];simpa using⟨y,f,q⟩
 unfold zw;rw[iq (by rw[S.v0];decide),iq (by rw[h1,e];unfold tV oV;simp),iq (by rw[show nw (nC (za c fs).1 (nH p).ts true) (nH p).ts.length=0 from e1];decide)]
 exact e2
def zCM (S:SpD c fs ca cb ce cp x td od) (a:POk c fs p):jZ c fs (nH p)= .tuple [.agg (BR (WM c fs p)), .bool (WM c fs p).isSome, .int .i64 0]:=by
 unfold jZ;rw[a.err S,WG];unfold WM vcs;cases tB c fs (nH p)<;>rfl
end
abbrev vfN (yid nid vid:Nat) (sp:List D):D:= .fn (.func 83) [] [.iptr [.ptr nid 0] 0, .iptr [.iptr sp 0] 0, .iptr [.yld yid] 0, .ptr vid 0]
abbrev elP (Lw:List Part) (k:Nat):List D:=[FI (Lw.getD k ⟨[],[]⟩)]
def zDV (Y:Nat->(Nat->Prop)->Heap->Prop) (Z:(Nat->Prop)->Heap->Prop) (nid:Nat) (S1 S2:Nat->Prop) (h:Heap) (k:Nat) (L:List Nd) (r:D) (h':Heap):Prop:=
 ∃S1' S2',(∀i,S1' i->S1 i\/h.next<=i)/\(∀i,S2' i->S2 i\/h.next<=i)/\(∀i,S1' i->¬S2' i)/\But (λi=>S1 i\/S2 i) h h'/\((r= .bool true/\Y k S1' h'/\NdH nid L S2' h')\/(r= .bool false/\Z S1' h'/\∃L',NdH nid L' S2' h'))
variable {c:Cat}{fs:List Fac}
def dx {v:Vio} (e:WM c fs p=some v) (m n:Nat):tC c fs m p= []/\rR c fs m p n= [⟨-1,[],some v⟩]:=by
 cases m<;>simp[tC,rR,e]
def KS (e:WM c fs p=none) (e2:nxV c fs p=none) (m n:Nat):tC c fs m p= [p]/\rR c fs m p n= []:=by
 cases m<;>simp[tC,rR,e,e2]
def Heap.two (i j:Nat) (h:Heap):Heap:=⟨0,λk=>if k=i\/k=j then h.at' k else none⟩
def KT (i j:Nat) (h:Heap):(Heap.two i j h).at' i=h.at' i:=ip (.inl rfl)
def KU (i j:Nat) (h:Heap):(Heap.two i j h).at' j=h.at' j:=ip (.inr rfl)
def Z7 (h1:h'.at' i=h.at' i) (a:h'.at' j=h.at' j):HLe (Heap.two i j h) h':=λk b e=>by
 simp only[Heap.two] at e;split at e
 ·rename_i q;rcases q with rfl|rfl
  ·rw[h1];exact e
  ·rw[a];exact e
 ·cases e
section
variable {c:Cat} {fs:List Fac} {ca cb ce cp x td od:D}
theorem HE (S:SpD c fs ca cb ce cp x td od) {w nid vid:Nat} {Lw:List Part} {Y:Nat->(Nat->Prop)->Heap->Prop} {Z:(Nat->Prop)->Heap->Prop} (y:Yld prog w Lw.length (elP Lw) Y Z):∀ (m:Nat) (p:Part),POk c fs p->opn c fs p<=m->∀k,(∀j q,(tC c fs m p)[j]? =some q->Lw[k+j]? =some q)->∀L S1 W h,Y k S1 h->NdH nid L W h->(∀i,S1 i->¬W i)->vid<h.next->¬S1 vid->¬W vid->h.at' vid=some (.row [vfN w nid vid [ca,cb,ce,cp,x,td,od]])->L.length+(rR c fs m p L.length).length<=1048576->zA prog 83 [FI p, .iptr [.ptr nid 0] 0, .iptr [.iptr [ca,cb,ce,cp,x,td,od] 0] 0, .iptr [.yld w] 0, .ptr vid 0] h (zDV Y Z nid S1 W h (k+(tC c fs m p).length) (L++rR c fs m p L.length)):=by
 intro m
 induction m using Nat.strongRecOn with
 |ind m ih=>
 intro p hp hm k hk L S1 W h hY hN hd v0 v1 v2 hv hB;have dk:∀h,HLe Heap.emp h:=λh i ob e=>by cases e
 have dt:zN true 4 [ca,cb,ce,cp,x,td,od] 0=some (.agg [ca,cb,ce,cp]):=rfl;have u:=Qn (hp.cin S);rw[zCM S hp] at u;obtain⟨d,n1,n2⟩:=hN.len;refine xP λQ hQ=> ?_;cases e0:WM c fs p with
 |some v=>
  obtain⟨T,U⟩:=dx e0 m L.length;rw[T,U] at hQ;rw[U] at hB;rw[e0] at u;simp only[BR,Vio.cells,Option.isSome] at u;have b8:zQ prog 65 (.ptr h.next 0) (.agg [.int .i64 v.row, .sl 1 (qP v.facts) .no]) (h.new h.next (.row [.int .i64 0, .nilsl]))=some (h.new h.next (.row [.int .i64 v.row, .sl 1 (qP v.facts) .no])):=zf wk ow rfl rfl rfl;have hb:yA prog 67 [(0, .int .i64 (-1)),(2, .agg [.int .i64 v.row, .sl 1 (qP v.facts) .no])]=some (.agg (ndC (⟨-1,[],some v⟩, .nilsl))):=by
   simp[yA,bT,j9,qL,yV,ndC,BR,Vio.cells,D.cells,D.notTuple]
  have b3:∀nid H,zJ prog false nid 35 1 [(0, .agg (ndC (⟨-1,[],some v⟩, .nilsl)))] H=some (.sl 4 [ndC (⟨-1,[],some v⟩, .nilsl)] .full,H):=λnid H=>zy (x:= .agg (ndC (⟨-1,[],some v⟩, .nilsl))) oe j9 nP rfl rfl ow ow rfl rfl;obtain⟨G,hG,hE,bs,c4⟩:∃G:Heap,h.new h.next (.row [.int .i64 v.row, .sl 1 (qP v.facts) .no])=G/\Ext h G/\G.next=h.next+1/\G.at' h.next=some (.row [.int .i64 v.row, .sl 1 (qP v.facts) .no]):=⟨_,rfl,(Ext.refl h).new (le_refl _) _,zF _ _,zK _ _ _⟩;rw[hG] at b8;have A:=hN.loc hE.1 λi o=>hE.2 i (hN.here i o)
  obtain⟨d',a1,a2,r,G1,G2,a3,a4,b1,b2,J,a5,a6,X⟩:=A.app (-1) (some v) (by simp at hB;omega);rw[bs] at a3;have z:=y.ext hY hE;have ad:Q (.bool true) G2:=hQ _ _ ⟨S1,J,λi o=> .inl o,λi o=>(a6 i o).imp id λq=>by omega,λi h1 O=>by
   rcases a6 i O with q|q
   ·exact hd i h1 q
   ·have:=y.here _ _ _ hY i h1;omega,(hE.but _).trans ⟨X.1,λi o hn=>X.2 i o λq=>hn (.inr q)⟩ λi o=> .inl o, .inl ⟨rfl,y.loc _ _ _ _ z X.1 λi o=>X.2 i (by have:=y.here _ _ _ z i o;omega) (hd i o),a5⟩⟩
  have C:HLe (Heap.two nid h.next G) G:=Z7 rfl rfl;have ag:HLe (Heap.two nid h.next G) G1:=Z7 (by rw[b1,a1]) (b2 _ ow λq=>lt_irrefl _ (hN.here _ q));have t1:(Heap.two nid h.next G).at' nid=some (.row [d']):=by rw[KT];exact a1
  have t2:(Heap.two nid h.next G).at' h.next=some (.row [.int .i64 v.row, .sl 1 (qP v.facts) .no]):=by rw[KU];exact c4
  clear hQ hY hN hd v0 v1 v2 hv hB T U e0 hk hm ih A z hG a5 a6 X b1 b2;refine xO mix func83 zC2 rfl rfl ?_;simp only[f83,gJ]
  repeat' first|simp only[go_sem, *]|apply bc<;>intro B
  refine zM Heap.emp [(0, .st,true),(4, .st,true),(8, .st,true),(1, .no,true),(2, .no,true),(3, .st,true),(5, .no,true),(6, .no,true),(7, .st,true),(9, .st,true),(10, .no,true),(11, .no,true),(12, .no,true),(13, .no,true),(14, .no,true),(15, .no,true),(16, .no,true),(17, .no,true)] kr kr (λi ob e=>by cases e) ?_
  repeat' first|simp only[go_sem, *]|apply bc<;>intro B
  refine VU _ (λH=>u H) ?_
  repeat' first|simp only[go_sem, *]|apply bc<;>intro B
  refine zM (Heap.two nid h.next G) [(0, .st,true),(1, .no,true),(4, .no,true),(2, .no,true),(3, .no,true),(5, .no,true),(6, .no,true),(7, .no,true),(8, .no,true),(9, .no,false)] kr kr C ?_
  repeat' first|simp only[go_sem, *]|apply bc<;>intro B
 |none=>
  rw[e0] at u;simp only[BR,Option.isSome] at u;have M:=CJ S hp;have b8:zQ prog 65 (.ptr h.next 0) (.agg [.int .i64 0, .nilsl]) (h.new h.next (.row [.int .i64 0, .nilsl]))=some (h.new h.next (.row [.int .i64 0, .nilsl])):=zf wk ow rfl rfl rfl;obtain⟨G,hG,hE,bs⟩:∃G:Heap,h.new h.next (.row [.int .i64 0, .nilsl])=G/\Ext h G/\G.next=h.next+1:=⟨_,rfl,(Ext.refl h).new (le_refl _) _,zF _ _⟩;rw[hG] at b8;have z:=y.ext hY hE;have A:=hN.loc hE.1 λi o=>hE.2 i (hN.here i o);cases e1:nxV c fs p with
  |none=>
   obtain⟨T,U⟩:=KS e0 e1 m L.length;rw[T,U,append_nil] at hQ;rw[T] at hk;rw[e1] at M;have b7:Lw[k]? =some p:=hk 0 p rfl;have b6:=(List.getElem?_eq_some_iff.1 b7).1;have b5:=y.go k S1 G b6 z;rw[elP,getD_eq_getElem?_getD,b7,Option.getD_some] at b5;have ad:∀r h',(∃S',(∀i,S' i->S1 i\/G.next<=i)/\But S1 G h'/\((r= .bool true/\Y (k+1) S' h')\/(r= .bool false/\Z S' h')))->Q r h':=by
    rintro r h' ⟨S',q1,q2,q3⟩;refine hQ _ _ ⟨S',W,λi o=>(q1 i o).imp id λq=>by omega,λi o=> .inl o,λi h1 O=> ?_,(hE.but _).trans ⟨q2.1,λi o hn=>q2.2 i o λq=>hn (.inl q)⟩ λi o=> .inl o,?_⟩
    ·rcases q1 i h1 with q|q
     ·exact hd i q O
     ·have:=hN.here i O;omega
    ·have cl:=A.loc q2.1 λi o=>q2.2 i (A.here i o) λq=>hd i q o;rcases q3 with⟨rfl,q⟩ | ⟨rfl,q⟩
     ·exact .inl ⟨rfl,q,cl⟩
     ·exact .inr ⟨rfl,q,_,cl⟩
   clear hQ hY hN hd v0 v1 v2 hv hB T U e0 e1 hk b7 b6 hm ih A z;refine xO mix func83 zC2 rfl rfl ?_;simp only[f83,gJ]
   repeat' first|simp only[go_sem, *]|apply bc<;>intro B
   refine zM Heap.emp [(0, .st,true),(4, .st,true),(8, .st,true),(1, .no,true),(2, .no,true),(3, .st,true),(5, .no,true),(6, .no,true),(7, .st,true),(9, .st,true),(10, .no,true),(11, .no,true),(12, .no,true),(13, .no,true),(14, .no,true),(15, .no,true),(16, .no,true),(17, .no,true)] kr kr (λi ob e=>by cases e) ?_
   repeat' first|simp only[go_sem, *]|apply bc<;>intro B
   refine VU _ (λH=>u H) ?_
   repeat' first|simp only[go_sem, *]|apply bc<;>intro B|(refine zA.mono (M _) ?_;rintro r h ⟨hq,rfl⟩)
   subst hq
   repeat' first|simp only[go_sem, *]|apply bc<;>intro B
   refine b5.mono λr h' hq=> ?_;have hq:=ad r h' hq;clear ad b5
   repeat' first|simp only[go_sem, *]|apply bc<;>intro B
  |some v=>
   obtain⟨b9,c0,_⟩:=pb e1;obtain⟨E,rfl⟩:∃E,m=E+1:=⟨m-1,by
    have:0<opn c fs p:=length_pos_iff.2 (ne_nil_of_mem (mem_filter.2 ⟨mem_range.2 b9,c0⟩));omega⟩
   have T:tC c fs (E+1) p=(List.range (szV c fs v)).flatMap λk=>tC c fs E (uP c fs p v k):=by simp[tC,e0,e1]
   have U:∀n,rR c fs (E+1) p n= ⟨(v:Int),(uR (λk n'=>rR c fs E (uP c fs p v k) n') (szV c fs v) (n+1)).1,none⟩ ::(uR (λk n'=>rR c fs E (uP c fs p v k) n') (szV c fs v) (n+1)).2:=λn=>by simp[rR,e0,e1]
   rw[T,U] at hQ;rw[U,length_cons] at hB;rw[T] at hk;have ih:=ih E ow;have cv:=λi o=>V8 hp S.v0 (v:=v) (k:=i) e1 o;have ds:szV c fs v<=1048576:=by
    unfold szV;split
    ·rename_i q;have hm:(tV c fs).getD v []∈tV c fs:=by rw[getD_eq_getElem?_getD,getElem?_eq_getElem q];exact getElem_mem _
     have:=(S.t64 _ hm).1;omega
    ·exact S.sm.ls.1
   generalize hF:(λk n'=>rR c fs E (uP c fs p v k) n')=F at *
   have bo:∀k n',rR c fs E (uP c fs p v k) n'=F k n':=λk n'=>by rw[<-hF]
   generalize hK:(λi=>pW (List.range (szV c fs v)) (λk=>tC c fs E (uP c fs p v k)) i)=K;have cf:K 0=0:=by rw[<-hK];exact kV _ _
   have ck:∀i,i<szV c fs v->K (i+1)=K i+(tC c fs E (uP c fs p v i)).length:=λi o=>by rw[<-hK];exact sh (by simp[o])
   have cg:K (szV c fs v)=((List.range (szV c fs v)).flatMap λk=>tC c fs E (uP c fs p v k)).length:=by
    have:=lL (List.range (szV c fs v)) (λk=>tC c fs E (uP c fs p v k));rw[length_range] at this;rw[<-hK];exact this
   have ch:∀i,i<szV c fs v->∀j q,(tC c fs E (uP c fs p v i))[j]? =some q->Lw[k+K i+j]? =some q:=λi o j q hj=>by
    have h1:=Zz (l:=List.range (szV c fs v)) (f:=λk=>tC c fs E (uP c fs p v k)) (a:=i) (x:=i) (b:=j) (by simp[o]) (List.getElem?_eq_some_iff.1 hj).1;rw[Nat.add_assoc];refine hk _ q ?_;rw[<-hK];exact h1.trans hj
   rw[<-cg] at hQ;rw[e1] at M;obtain⟨d',a1,a2,r,G1,G2,a3,a4,b1,b2,J,a5,a6,X⟩:=A.app (v:Int) none ow;rw[bs] at a3;have hb:yA prog 67 [(0, .int .i64 (v:Int))]=some (.agg (ndC (⟨(v:Int),[],none⟩, .nilsl))):=by
    simp[yA,bT,j9,qL,yV,ndC,BR,D.cells,D.notTuple]
   have b3:∀nid H,zJ prog false nid 35 1 [(0, .agg (ndC (⟨(v:Int),[],none⟩, .nilsl)))] H=some (.sl 4 [ndC (⟨(v:Int),[],none⟩, .nilsl)] .full,H):=λnid H=>zy (x:= .agg (ndC (⟨(v:Int),[],none⟩, .nilsl))) oe j9 nP rfl rfl ow ow rfl rfl;have C:HLe (Heap.one nid (.row [d'])) G:=by rw[se];exact a1
   have ag:HLe (Heap.one nid (.row [d'])) G1:=by rw[se];exact b1
   obtain⟨I,hI⟩:∃I:Nat->Heap->Prop,∀i h',I i h'↔∃bk J,(∀i,bk i->S1 i\/h.next<=i)/\(∀i,J i->W i\/h.next<=i)/\(∀i,bk i->¬J i)/\But (λi=>S1 i\/W i) h h'/\Y (k+K i) bk h'/\NdH nid (L++ ⟨(v:Int),(uR F i (L.length+1)).1,none⟩ ::(uR F i (L.length+1)).2) J h':=⟨_,λ_ _=>Iff.rfl⟩;have bx:I 0 G2:=(hI _ _).2 ⟨S1,J,λi o=> .inl o,λi o=>(a6 i o).imp id λq=>by omega,λi h1 O=>by
    rcases a6 i O with q|q
    ·exact hd i h1 q
    ·have:=y.here _ _ _ hY i h1;omega,(hE.but _).trans ⟨X.1,λi o hn=>X.2 i o λq=>hn (.inr q)⟩ λi o=> .inl o,by rw[cf];exact y.loc _ _ _ _ z X.1 λi o=>X.2 i (by have:=y.here _ _ _ z i o;omega) (hd i o),a5⟩
   have R:∀h',I (szV c fs v) h'->Q (.bool true) h':=λh' q=>by
    obtain⟨T1,T2,q1,q2,q3,q4,q5,q6⟩:=(hI _ _).1 q;exact hQ _ _ ⟨T1,T2,q1,q2,q3,q4, .inl ⟨rfl,q5,q6⟩⟩
   have hR:∀i h',i<szV c fs v->I i h'->∃s N cs kd ak G3 V,h'.at' nid=some (.row [.rs s 4 0 N])/\h'.at' s=some (.row cs)/\cs[L.length*4+1]? =some kd/\L.length<N/\zt prog false h'.next 45 kd (.sl 1 [[.int .i64 (N:Int)]] .full) h'=some (ak,G3)/\zQ prog 45 (.ptr s (L.length*4+1)) ak G3=some V/\G3.at' nid=some (.row [.rs s 4 0 N])/\G3.at' s=some (.row cs)/\V.at' vid=some (.row [vfN w nid vid [ca,cb,ce,cp,x,td,od]])/\zA prog 83 [FI (uP c fs p v i), .iptr [.ptr nid 0] 0, .iptr [.iptr [ca,cb,ce,cp,x,td,od] 0] 0, .iptr [.yld w] 0, .ptr vid 0] V λr O=>(r= .bool true/\I (i+1) O)\/(r= .bool false/\Q (.bool false) O):=λi h' o q=>by
    obtain⟨T1,T2,q1,q2,q3,q4,q5,q6⟩:=(hI _ _).1 q;have b6:=WN F i (L.length+1);have de:=Qp F (L.length+1) (k:=i+1) (m:=szV c fs v) o;have di:(uR F (i+1) (L.length+1)).2.length=(uR F i (L.length+1)).2.length+(F i (L.length+1+(uR F i (L.length+1)).2.length)).length:=by rw[uR,length_append]
    have c9:uR F (i+1) (L.length+1)=((uR F i (L.length+1)).1++ [((L.length+1+(uR F i (L.length+1)).2.length:Nat):Int)],(uR F i (L.length+1)).2++F i (L.length+1+(uR F i (L.length+1)).2.length)):=by rw[uR]
    generalize uR F i (L.length+1)=KN at *
    obtain⟨ks,rest⟩:=KN;simp only at *
    have c5:(L++ ⟨(v:Int),ks,none⟩ ::rest).length=L.length+1+rest.length:=by rw[length_append,length_cons];omega
    obtain⟨s,N,r1,r2,r3,r4,cs,kd,r5,r6,ak,G3,V,r7,r8,r9,r10,S3,r11,r12,r13⟩:=q6.kid (a:=L.length) (nd:=⟨(v:Int),ks,none⟩) (by simp) ((L.length+1+rest.length:Nat):Int) (by show ks.length<_;omega);rw[c5] at r4;subst r4;have cw:(L++ ⟨(v:Int),ks,none⟩ ::rest).set L.length ⟨(v:Int),ks++ [((L.length+1+rest.length:Nat):Int)],none⟩ =L++ ⟨(v:Int),ks++ [((L.length+1+rest.length:Nat):Int)],none⟩ ::rest:=by
     rw[set_append_right _ _ (le_refl _),Nat.sub_self];rfl
    simp only[cw] at r11;have cc:¬T1 vid/\¬T2 vid:=⟨λe=>(q1 vid e).elim v1 ow,λe=>(q2 vid e).elim v2 ow⟩;have dd:h'.at' vid=some (.row [vfN w nid vid [ca,cb,ce,cp,x,td,od]]):=by rw[q4.2 vid v0 (λe=>e.elim v1 v2)];exact hv
    have c1:vid<h'.next:=lt_of_lt_of_le v0 q4.1;have bb:V.at' vid=some (.row [vfN w nid vid [ca,cb,ce,cp,x,td,od]]):=by rw[r13.2 vid c1 cc.2];exact dd
    have c6:Y (k+K i) T1 V:=y.loc _ _ _ _ q5 r13.1 λi o=>r13.2 i (y.here _ _ _ q5 i o) (q3 i o);have c7:∀i,T1 i->¬S3 i:=λi h1 O=>by
     rcases r12 i O with q|q
     ·exact q3 i h1 q
     ·have:=y.here _ _ _ q5 i h1;omega
    refine⟨s,_,cs,kd,ak,G3,V,r1,r5,r6,by omega,r7,r8,r9,r10,bb,?_⟩;have a9:(L++ ⟨(v:Int),ks++ [((L.length+1+rest.length:Nat):Int)],none⟩ ::rest).length=L.length+1+rest.length:=by rw[length_append,length_cons];omega
    have t:=ih (uP c fs p v i) (hp.dec o) (by have:=cv i o;omega) (k+K i) (ch i o) _ T1 S3 V c6 r11 c7 (lt_of_lt_of_le c1 r13.1) cc.1 (λe=>(r12 vid e).elim cc.2 ow) bb (by rw[a9,bo];omega);rw[a9,bo] at t;refine t.mono ?_;rintro r O ⟨U1,U2,u1,u2,u3,u4,u5⟩;have ai:∀i,U1 i->S1 i\/h.next<=i:=λi o=>by
     rcases u1 i o with q|q
     ·exact q1 i q
     ·have:=r13.1;have:=q4.1;exact .inr ow
    have aj:∀i,U2 i->W i\/h.next<=i:=λi o=>by
     have e1:=r13.1;have e2:=q4.1;rcases u2 i o with q|q
     ·rcases r12 i q with q|q
      ·exact q2 i q
      ·exact .inr ow
     ·exact .inr ow
    have ba:But (λi=>S1 i\/W i) h O:=by
     have e1:=r13.1;have e2:=q4.1;have b1:But (λi=>S1 i\/W i) h V:=q4.trans r13 λi o=>(q2 i o).imp .inr id;refine b1.trans u4 λi o=> ?_;rcases o with q|q
     ·exact(q1 i q).imp .inl id
     ·rcases r12 i q with q|q
      ·exact(q2 i q).imp .inr id
      ·exact .inr ow
    rcases u5 with⟨rfl,T,U⟩ | ⟨rfl,T,L',U⟩
    ·refine .inl ⟨rfl,(hI _ _).2 ⟨U1,U2,ai,aj,u3,ba,by rw[ck i o,<-Nat.add_assoc];exact T,?_⟩⟩;rw[c9];simpa using U
    ·exact .inr ⟨rfl,hQ _ _ ⟨U1,U2,ai,aj,u3,ba, .inr ⟨rfl,T,L',U⟩⟩⟩
   have a8:=Z4 S v;have a0:=λi o g=>dw (t1:= .no) (t2:= .no) S hp (v:=v) (k:=i) b9 o g;clear a5 a6 X b1 b2 z A hE hQ hY hN hd v0 v1 v2 hv hB T U e0 e1 hk hm ih cv ck cf cg ch bo hI b9 c0;refine xO mix func83 zC2 rfl rfl ?_;simp only[f83,gJ]
   repeat' first|simp only[go_sem, *]|apply bc<;>intro B
   refine zM Heap.emp [(0, .st,true),(4, .st,true),(8, .st,true),(1, .no,true),(2, .no,true),(3, .st,true),(5, .no,true),(6, .no,true),(7, .st,true),(9, .st,true),(10, .no,true),(11, .no,true),(12, .no,true),(13, .no,true),(14, .no,true),(15, .no,true),(16, .no,true),(17, .no,true)] kr kr (λi ob e=>by cases e) ?_
   repeat' first|simp only[go_sem, *]|apply bc<;>intro B
   refine VU _ (λH=>u H) ?_
   repeat' first|simp only[go_sem, *]|apply bc<;>intro B|(refine zA.mono (M _) ?_;rintro r h ⟨hq,rfl⟩)
   subst hq
   repeat' first|simp only[go_sem, *]|apply bc<;>intro B
   refine zM (Heap.one nid (.row [d'])) [(0, .st,true),(1, .no,true),(2, .no,true),(3, .no,true),(4, .no,true),(5, .no,true),(6, .no,true),(7, .no,true),(8, .no,true),(9, .no,false)] kr kr C ?_
   repeat' first|simp only[go_sem, *]|apply bc<;>intro B|(refine zA.mono (a8 _) ?_;rintro r h ⟨hq,rfl⟩)
   subst hq;refine zC (λi fr h'=>fr 1= .iptr [.ptr nid 0] 0/\fr 2= .iptr [.iptr [ca,cb,ce,cp,x,td,od] 0] 0/\fr 3= .iptr [.yld w] 0/\fr 4= .ptr vid 0/\fr 5= .iptr [tsD p,owD p] 0/\fr 7= .int .i64 (L.length:Int)/\fr 11= .int .i64 (v:Int)/\fr 64= .int .i64 (szV c fs v:Int)/\fr 65= .int .i64 (i:Int)/\I i h') (szV c fs v) ow ?_ ?_ ?_
   ·clear R hR a0 a8 M u;simp only[go_sem,true_and,and_true,Int.ofNat_zero];exact bx
   ·clear R u M a8 a1 a2 a3 a4 C ag bx n1 n2;rintro i fr h' cu ec ew ⟨f1,f2,f3,f4,f5,f7,c2,f64,c3,hI⟩;obtain⟨s,N,cs,kd,ak,G3,V,r1,r2,r3,r4,r5,r6,r7,r8,r9,t⟩:=hR i h' cu hI;have b4:=a0 i cu;have dr:∀H,sD prog 35 (.rs s 4 0 N) H=some (.int .i64 (N:Int)):=λH=>tU underlying35;have c8:=z6 (P:=prog) (sz:=4) (id:=s) oe nP (k:= .i64) r4;have b3:∀nid H,zJ prog false nid 45 1 [(0, .int .i64 (N:Int))] H=some (.sl 1 [[.int .i64 (N:Int)]] .full,H):=λnid H=>zy (x:= .int .i64 (N:Int)) yK uV wW rfl rfl ow ow rfl rfl;have cm:HLe (Heap.two nid s h') h':=Z7 rfl rfl
    have da:HLe (Heap.two nid s h') G3:=Z7 (by rw[r7,r1]) (by rw[r8,r2]);have t1:(Heap.two nid s h').at' nid=some (.row [.rs s 4 0 N]):=by rw[KT];exact r1
    have t2:(Heap.two nid s h').at' s=some (.row cs):=by rw[KU];exact r2
    have db:HLe (Heap.one vid (.row [vfN w nid vid [ca,cb,ce,cp,x,td,od]])) V:=by rw[se];exact r9
    clear hR a0 hI r4 r7 r8
    repeat' first|simp only[go_sem, *]|apply bc<;>intro B
    refine zM (Heap.two nid s h') [(0, .st,true),(4, .no,true),(11, .no,true),(1, .no,true),(2, .st,true),(3, .no,true),(5, .no,true),(6, .no,true),(7, .no,true),(8, .no,true),(9, .no,true),(10, .no,true),(12, .no,true),(13, .no,true),(14, .no,true),(15, .no,true),(16, .no,true),(17, .no,true),(18, .no,true),(19, .no,false)] kr kr cm ?_
    repeat' first|simp only[go_sem, *]|apply bc<;>intro B
    refine zM (Heap.one vid (.row [vfN w nid vid [ca,cb,ce,cp,x,td,od]])) [(0, .st,true),(1, .no,true),(2, .no,true),(3, .no,true),(4, .no,true),(5, .no,true),(6, .no,false),(7, .no,false)] kr kr db ?_;clear cm da r1 r2 r3 r5 r6 c8 b3 t1 t2
    repeat' first|simp only[go_sem,rg, *]|apply bc<;>intro B|(refine zA.mono (b4 _) ?_;rintro r h ⟨hq,rfl⟩)
    subst hq
    repeat' first|simp only[go_sem, *]|apply bc<;>intro B
    refine t.mono ?_;rintro r O (⟨rfl,o⟩ | ⟨rfl,o⟩)
    ·clear t b4;exact au
    ·clear t b4;exact au
   ·clear hR u M a8 a1 a2 a3 a4 C ag bx n1 n2 a0;rintro fr h' ec ⟨f1,f2,f3,f4,f5,f7,c2,f64,c3,hI⟩;have hq:=R _ hI;clear R hI;exact au
end
def KW (sp:List D) (nid:Nat):D:= .fn (.func 82) [] [.iptr [.ptr nid 0] 0, .iptr [.iptr sp 0] 0]
def CM (a:List D) (nid:Nat) (g:Heap):zA prog 42 [.iptr a 0, .ptr nid 0] g λr h'=>h'=g/\r=KW a nid:=by
 refine xO mix func42 zHl rfl rfl ?_;simp only[f42,gJ];simp only[go_sem,KW, *]
abbrev rC (c:Cat) (fs:List Fac):List Part:=tC c fs (ctV c fs) (uQ c fs)
abbrev dy (c:Cat) (fs:List Fac):List Nd:=rR c fs (ctV c fs) (uQ c fs) 0
section
variable {c:Cat} {fs:List Fac} {ca cb ce cp x td od:D}
def HF (S:SpD c fs ca cb ce cp x td od) (D:(dy c fs).length<=1048576) {a nid:Nat} {Y:Nat->(Nat->Prop)->Heap->Prop} {Z:(Nat->Prop)->Heap->Prop} (y:Yld prog a (rC c fs).length (elP (rC c fs)) Y Z) (v:Y 0 U h) (n:NdH nid [] S0 h) (I:∀i,U i->¬S0 i):
  zA prog 82 [.yld a, .iptr [.ptr nid 0] 0, .iptr [.iptr [ca,cb,ce,cp,x,td,od] 0] 0] h λ_ h'=>∃r,zDV Y Z nid U S0 h (rC c fs).length (dy c fs) r h':=by
 have s:=KO S;have H:∀ (t:TypeId) (nid:Nat) (h:Heap),nQ t nid h (some .nilfn)=some (.ptr nid 0,h.new nid (.row [.nilfn])):=λ_ _ _=>rfl;have u:zQ prog 41 (.ptr h.next 0) (vfN a nid h.next [ca,cb,ce,cp,x,td,od]) (h.new h.next (.row [.nilfn]))=some (h.new h.next (.row [vfN a nid h.next [ca,cb,ce,cp,x,td,od]])):=zf AK ow rfl rfl rfl;obtain⟨G,E,l,k,m⟩:∃G:Heap,h.new h.next (.row [vfN a nid h.next [ca,cb,ce,cp,x,td,od]])=G/\Ext h G/\G.at' h.next=some (.row [vfN a nid h.next [ca,cb,ce,cp,x,td,od]])/\h.next<G.next:=⟨_,rfl,(Ext.refl h).new (Nat.le_refl _) _,zK _ _ _,by rw[zF];omega⟩;rw[E] at u
 have p:opn c fs (uQ c fs)<=ctV c fs:=by
  unfold opn;exact Nat.le_trans (List.length_filter_le _ _) (by simp)
 have d:=HE S y (ctV c fs) (uQ c fs) (wM c fs _) p 0 (λj q e=>by rw[Nat.zero_add];exact e) [] U S0 G (y.ext v l) (n.loc l.1 λi f=>l.2 i (n.here i f)) I m (λe=>Nat.lt_irrefl _ (y.here _ _ _ v _ e)) (λe=>Nat.lt_irrefl _ (n.here _ e)) k (by simpa using D);have b:∀r h',zDV Y Z nid U S0 G (0+(tC c fs (ctV c fs) (uQ c fs)).length) ([]++rR c fs (ctV c fs) (uQ c fs) ([]:List Nd).length) r h'->zDV Y Z nid U S0 h (rC c fs).length (dy c fs) r h':=by
  rintro r h' ⟨B,C,J,K,L,M,A⟩;rw[Nat.zero_add] at A;exact⟨B,C,λi f=>(J i f).imp id λq=>by omega,λi f=>(K i f).imp id λq=>by omega,L,(l.but _).trans M λi f=> .inl f,A⟩
 have o:HLe (Heap.one h.next (.row [vfN a nid h.next [ca,cb,ce,cp,x,td,od]])) G:=by rw[se];exact k
 refine xP λQ F=> ?_;have b:=λr h' q=>F (.tuple []) h' ⟨r,b r h' q⟩;refine xO mix func82 zHc rfl rfl ?_;simp only[f82,gJ]
 repeat' first|simp only[go_sem, *]|apply bc<;>intro w
 refine zM (Heap.one h.next (.row [vfN a nid h.next [ca,cb,ce,cp,x,td,od]])) [(0, .st,true),(1, .no,true),(2, .no,true),(3, .no,false)] kr kr o ?_
 repeat' first|simp only[go_sem,rg, *]|apply bc<;>intro w|(refine zA.mono (s _) ?_;rintro r h ⟨z,rfl⟩)
 subst z
 repeat' first|simp only[go_sem, *]|apply bc<;>intro w
 refine d.mono λr h' q=> ?_;have z:=b r h' q;exact au
end
structure NdI where
 var:Int
 kids:List Int
 row:Int
 facts:List Int
def BS (n:NdI) (cs:List D):Prop:=∃kd fd,cs= [.int .i64 n.var,kd, .int .i64 n.row,fd]/\zd 1 (qP n.kids) kd/\zd 1 (qP n.facts) fd
def kq (ns:List NdI) (d:D):Prop:=∃xs,zd 4 xs d/\xs.length=ns.length/\∀ (i:Nat) n,ns[i]? =some n->∃cs,xs[i]? =some cs/\BS n cs
def NdH.lcl (nid:Nat) (L:List Nd):Lcl λ_=>NdH nid L:=⟨λk S h y=>y.here,λk S h h' y=>y.loc⟩
def NdHx.lcl (nid:Nat):Lcl λ_ S h=>∃L,NdH nid L S h:=⟨λk S h y=>by obtain⟨L,y⟩:=y;exact y.here,λk S h h' y b a=>by obtain⟨L,y⟩:=y;exact⟨L,y.loc b a⟩⟩
structure Le (p q:Part):Prop where
 tl:p.ts.length=q.ts.length
 ol:p.own.length=q.own.length
 t:∀ (i:Nat) a,p.ts[i]? =some a->a= []\/q.ts[i]? =some a
 o:∀ (i:Nat) s,p.own[i]? =some s->s= []\/q.own[i]? =some s
def Le.refl (p:Part):Le p p:=⟨rfl,rfl,λ_ _ h=> .inr h,λ_ _ h=> .inr h⟩
def Le.trans {p q r:Part} (a:Le p q) (b:Le q r):Le p r:=⟨a.tl.trans b.tl,a.ol.trans b.ol,λi x h=>(a.t i x h).elim .inl λh=>b.t i x h,λi x h=>(a.o i x h).elim .inl λh=>b.o i x h⟩
def Le.gap {p q:Part} (h:Le p q):Gap (nH p).ts (nH p).own (nH q) where
 tl:=by show(p.ts.map ln).length=(q.ts.map ln).length;rw[length_map,length_map,h.tl]
 ol:=h.ol
 ts:=λi a e=>by
  have e:(p.ts.map ln)[i]? =some a:=e;rw[getElem?_map] at e;obtain⟨t,e1,rfl⟩:=Option.map_eq_some_iff.1 e;rcases h.t i t e1 with rfl|q1
  ·exact .inl rfl
  ·refine .inr ?_;show(q.ts.map ln)[i]? =_;rw[getElem?_map,q1];rfl
 own:=h.o
variable {c:Cat}{fs:List Fac}
def Le.vios {p q:Part} (h:Le p q) (h0:tB c fs (nH q)= []):WM c fs p=none:=by
 unfold WM;cases e:tB c fs (nH p) with
 |nil=>rfl
 |cons v l=>
  have:=h.gap.vios (c:=c) (fs:=fs) (v:=v) (by show v∈tB c fs (nH p);rw[e];exact mem_cons_self);rw[h0] at this;cases this
def zDW (c:Cat) (fs:List Fac) (q:Part) (v k:Nat):Prop:=if v<(tV c fs).length then q.ts[v]? =some (((tV c fs).getD v []).getD k []) else q.own[v- (tV c fs).length]? =some ((c.ls.map Lic.name).getD k [])
def Le.dec {p q:Part} (h:Le p q) {v k:Nat} (b:zDW c fs q v k):Le (uP c fs p v k) q:=by
 unfold zDW at b;unfold uP;split
 ·rename_i h1;rw[ip h1] at b;refine⟨by rw[length_set];exact h.tl,h.ol,λi a e=> ?_,h.o⟩;rw[getElem?_set] at e;split at e
  ·rename_i d;subst d;split at e
   ·cases e;exact .inr b
   ·cases e
  ·exact h.t i a e
 ·rename_i h1;rw[iq h1] at b;refine⟨h.tl,by rw[length_set];exact h.ol,h.t,λi a e=> ?_⟩;rw[getElem?_set] at e;split at e
  ·rename_i d;subst d;split at e
   ·cases e;exact .inr b
   ·cases e
  ·exact h.o i a e
structure Full (c:Cat) (fs:List Fac) (q:Part):Prop where
 ok:POk c fs q
 de:∀v,v<ctV c fs->deV c fs q v=true
def Full.val {q:Part} (h:Full c fs q) {v:Nat} (f:v<ctV c fs):∃k,k<szV c fs v/\zDW c fs q v k:=by
 have a:=h.de v f;unfold deV at a;unfold zDW szV;by_cases h1:v<(tV c fs).length
 ·simp only[ip h1] at a⊢;have b:v<q.ts.length:=by rw[h.ok.tl];exact h1
  rw[getD_eq_getElem?_getD,getElem?_eq_getElem b] at a;have g:=(h.ok.t v _ (getElem?_eq_getElem b)).resolve_left λe=>by rw[e] at a;cases a
  obtain⟨k,d,e⟩:=mem_iff_getElem.1 g;refine⟨k,d,?_⟩;rw[getElem?_eq_getElem b,getD_eq_getElem?_getD,getElem?_eq_getElem d,e];rfl
 ·simp only[iq h1] at a⊢;have b:v- (tV c fs).length<q.own.length:=by rw[h.ok.ol];unfold ctV at f;omega
  rw[getD_eq_getElem?_getD,getElem?_eq_getElem b] at a;obtain⟨y,i,e⟩:=(h.ok.o _ (getElem_mem b)).resolve_left λe=>by rw[Option.getD_some,e] at a;cases a
  obtain⟨k,d,rfl⟩:=mem_iff_getElem.1 i;exact⟨k,d,by rw[getElem?_eq_getElem b,o6 d,e]⟩
theorem dz {q:Part} (h:Full c fs q):∀n,n<=ctV c fs->Le (yR c fs n) q
 |0,_=>by
  have b:∀ {α:Type} (i n:Nat) (a:List α),(List.replicate n ([]:List α))[i]? =some a->a= []:=λi n a e=>by
   rw[getElem?_replicate] at e;split at e
   ·cases e;rfl
   ·cases e
  exact⟨by rw[h.ok.tl];exact length_replicate,by rw[h.ok.ol];exact length_replicate,λi a e=> .inl (b _ _ _ e),λi a e=> .inl (b _ _ _ e)⟩
 |n+1,b=>by
  rw[yR];have d:=dz h n ow;split
  ·rename_i h1;obtain⟨k,g,f⟩:=h.val (v:=n) ow
   have:k=0:=ow;subst this;exact d.dec f
  ·exact d
theorem aN (h0:(za c fs).2.2=0) {q:Part} (h:Full c fs q) (d:tB c fs (nH q)= []):∀m p,POk c fs p->Le p q->opn c fs p<=m->tC c fs m p≠[]
 |0,p,g,b,i=>by
  rw[tC,b.vios d];simp
 |m+1,p,g,b,i=>by
  rw[tC,b.vios d];cases e:nxV c fs p with
  |none=>simp
  |some v=>
   obtain⟨j,_,_⟩:=pb e;obtain⟨k,f,a⟩:=h.val j;have:=aN h0 h d m _ (g.dec f) (b.dec a) (by have:=V8 g h0 e f;omega);simp only[Option.isSome,Bool.false_eq_true,if_false];intro e2;rw[flatMap_eq_nil_iff] at e2;exact this (e2 k (mem_range.2 f))
def Le.of_dec {v k:Nat} (h:deV c fs p v=false):Le p (uP c fs p v k):=by
 unfold deV at h;unfold uP;split
 ·rename_i h1;rw[ip h1] at h;refine⟨by rw[length_set],rfl,λi a e=> ?_,λi a e=> .inr e⟩;by_cases q:v=i
  ·subst q;rw[getD_eq_getElem?_getD,e] at h;exact .inl (by simpa using h)
  ·exact .inr (by rw[getElem?_set_ne q];exact e)
 ·rename_i h1;rw[iq h1] at h;refine⟨rfl,by rw[length_set],λi a e=> .inr e,λi a e=> ?_⟩;by_cases q:v- (tV c fs).length=i
  ·subst q;rw[getD_eq_getElem?_getD,e] at h;exact .inl (by simpa using h)
  ·exact .inr (by rw[getElem?_set_ne q];exact e)
theorem WO (h0:(za c fs).2.2=0) {x:Part} :∀m p,POk c fs p->opn c fs p<=m->x∈tC c fs m p->POk c fs x/\Le p x/\WM c fs x=none/\nxV c fs x=none
 |0,p,b,i,a=>by
  rw[tC] at a;split at a
  ·cases a
  ·rename_i h;rw[mem_singleton] at a;subst a;refine⟨b,Le.refl _,by simpa using h,?_⟩;cases e:nxV c fs x with
   |none=>rfl
   |some v=>
    obtain⟨h1,f,_⟩:=pb e
    have:0<opn c fs x:=length_pos_iff.2 (ne_nil_of_mem (mem_filter.2 ⟨mem_range.2 h1,f⟩));omega
 |m+1,p,b,i,a=>by
  rw[tC] at a;split at a
  ·cases a
  ·rename_i h;split at a
   ·rename_i e;rw[mem_singleton] at a;subst a;exact⟨b,Le.refl _,by simpa using h,e⟩
   ·rename_i v e;obtain⟨k,d,a⟩:=mem_flatMap.1 a;have d:=mem_range.1 d;obtain⟨h1,f,h3,g⟩:=WO h0 m _ (b.dec d) (by have:=V8 b h0 e d;omega) a;obtain⟨_,e2,_⟩:=pb e;exact⟨h1,(Le.of_dec (by simp only[qr,Bool.and_eq_true,Bool.not_eq_true'] at e2;exact e2.2)).trans f,h3,g⟩
def Le.de {p q:Part} (h:Le p q) {v:Nat} (b:deV c fs p v=true):deV c fs q v=true:=by
 unfold deV at b⊢;split
 ·rename_i h1;rw[ip h1] at b;cases e:p.ts[v]? with
  |none=>rw[getD_eq_getElem?_getD,e] at b;exact absurd b (by decide)
  |some a=>
   rcases h.t v a e with rfl|d
   ·rw[getD_eq_getElem?_getD,e] at b;exact absurd b (by decide)
   ·rwa [getD_eq_getElem?_getD,d,<-e,<-getD_eq_getElem?_getD]
 ·rename_i h1;rw[iq h1] at b;cases e:p.own[v- (tV c fs).length]? with
  |none=>rw[getD_eq_getElem?_getD,e] at b;exact absurd b (by decide)
  |some a=>
   rcases h.o _ a e with rfl|d
   ·rw[getD_eq_getElem?_getD,e] at b;exact absurd b (by decide)
   ·rwa [getD_eq_getElem?_getD,d,<-e,<-getD_eq_getElem?_getD]
theorem KX (h0:(za c fs).2.2=0):∀n,n<=ctV c fs->∀v,v<n->szV c fs v=1->deV c fs (yR c fs n) v=true
 |0,_,v,h,_=>absurd h (Nat.not_lt_zero _)
 |n+1,b,v,h,h1=>by
  have a:=KX h0 n ow v;rw[yR];split
  ·rename_i q;rw[Z6 (wM c fs n) h0 ow ow];by_cases e:v=n
   ·rw[decide_eq_true e];rfl
   ·rw[a ow h1,Bool.or_true]
  ·rename_i q;refine a (Nat.lt_of_le_of_ne (le_of_lt_succ h) λe=>q ?_) h1;rw[<-e];exact h1
def V9 (h0:(za c fs).2.2=0) {v:Nat} (d:v<ctV c fs) (a:szV c fs v=0):c.ls.length=0/\∀y:Cho,tB c fs y≠[]:=by
 unfold szV at a;split at a
 ·rename_i h1;have j:(tV c fs).getD v []∈tV c fs:=by rw[getD_eq_getElem?_getD,getElem?_eq_getElem h1];exact getElem_mem _
  exact absurd (length_eq_zero_iff.1 a) (tR _ j).2.ne
 ·rename_i h1;refine⟨a,λy e=> ?_⟩;have k:oV c fs≠[]:=λe=>by unfold ctV at d;rw[e] at d;simp at d;omega
  obtain⟨s,b⟩:=exists_mem_of_ne_nil _ k;unfold oV at b;rw[KH h0] at b;rcases lm.1 b with q| ⟨f,hf,h,_⟩
  ·cases q
  ·obtain⟨i,g,rfl⟩:=mem_iff_getElem.1 hf
   have:(⟨5,nF ([i].map λn:Nat=>(n:Int))⟩:Vio)∈tB c fs y:=RR.2 ⟨5,by omega,rfl,[i],⟨a,i,by rw[sn g];exact h,rfl⟩,rfl⟩;rw[e] at this;cases this
def KY (h0:(za c fs).2.2=0) {x:Part} (f:POk c fs x) (d:Le (uQ c fs) x) (hf:WM c fs x=none) (a:nxV c fs x=none):Full c fs x:=by
 refine⟨f,λv b=> ?_⟩;cases e:deV c fs x v with
 |true=>rfl
 |false=>
  unfold nxV at a;rw[find?_eq_none] at a;have:=a v (mem_range.2 b);unfold qr at this;rw[e] at this;have g:¬1<szV c fs v:=by simpa using this
  by_cases h1:szV c fs v=1
  ·rw[d.de (KX h0 _ (le_refl _) v b h1)] at e;cases e
  ·have:=(V9 h0 b ow).2 (nH x);unfold WM at hf;exact absurd (head?_eq_none_iff.1 hf) this
def KZ (h0:(za c fs).2.2=0):rC c fs≠[]↔∃q,Full c fs q/\tB c fs (nH q)= []:=by
 have a:opn c fs (uQ c fs)<=ctV c fs:=by
  unfold opn;exact le_trans (length_filter_le _ _) (by simp)
 constructor
 ·intro h;obtain⟨x,g⟩:=exists_mem_of_ne_nil _ h;obtain⟨h1,d,h3,e⟩:=WO h0 _ _ (wM c fs _) a g;exact⟨x,KY h0 h1 d h3 e,head?_eq_none_iff.1 h3⟩
 ·rintro⟨q,b,f⟩;exact aN h0 b f _ _ (wM c fs _) (dz b _ (le_refl _)) a
def prW (s:Nat->Nat) (f:Nat->Bool):List Nat->Nat
 | []=>1
 |w::l=>if f w=true then s w*prW s f l else prW s f l
theorem kw {s:Nat->Nat} {f:Nat->Bool} (h:∀w,f w=true->0<s w):∀l,0<prW s f l
 | []=>Nat.one_pos
 |w::l=>by
  rw[prW];split
  ·rename_i q;exact Nat.mul_pos (h w q) (kw h l)
  ·exact kw h l
theorem Ka {s:Nat->Nat} {f g:Nat->Bool} {v:Nat} (a:∀w,g w=(!decide (w=v)&&f w)):∀l,v∉l->prW s g l=prW s f l
 | [],_=>rfl
 |w::l,h=>by
  rw[mem_cons,not_or] at h;rw[prW,prW,a w,decide_eq_false (λe=>h.1 e.symm),Bool.not_false,Bool.true_and,Ka a l h.2]
theorem UA {s:Nat->Nat} {f g:Nat->Bool} {v:Nat} (a:∀w,g w=(!decide (w=v)&&f w)) (hf:f v=true):∀l:List Nat,l.Nodup->v∈l->prW s f l=s v*prW s g l
 | [],_,h=>by cases h
 |w::l,b,h=>by
  rw[nodup_cons] at b;by_cases e:w=v
  ·subst e;rw[prW,prW,ip hf,a w,decide_eq_true rfl,Ka a l b.1];rfl
  ·have c:=UA (s:=s) a hf l b.2 ((mem_cons.1 h).resolve_left λq=>e q.symm);rw[prW,prW,a w,decide_eq_false e,Bool.not_false,Bool.true_and,c];split
   ·exact Nat.mul_left_comm ..
   ·rfl
theorem RS (h0:(za c fs).2.2=0):∀m p n,POk c fs p->(rR c fs m p n).length+1<=2*prW (szV c fs) (qr c fs p) (List.range (ctV c fs))
 |0,p,n,d=>by
  have:=kw (s:=szV c fs) (f:=qr c fs p) (λw h=>by simp only[qr,Bool.and_eq_true,decide_eq_true_eq] at h;omega) (List.range (ctV c fs));rw[rR];split<;>simp<;>omega
 |m+1,p,n,d=>by
  have o:=kw (s:=szV c fs) (f:=qr c fs p) (λw h=>by simp only[qr,Bool.and_eq_true,decide_eq_true_eq] at h;omega) (List.range (ctV c fs));rw[rR];split
  ·simp;omega
  ·split
   ·simp;omega
   ·rename_i v e;obtain⟨q,l,_⟩:=pb e;have u:2<=szV c fs v:=by simp only[qr,Bool.and_eq_true,decide_eq_true_eq] at l;omega
    have t:∀k,k<szV c fs v->∀w,qr c fs (uP c fs p v k) w=(!decide (w=v)&&qr c fs p w):=λk a w=>by
     unfold qr;rw[Z6 d h0 q a];cases decide (w=v)<;>cases decide (1<szV c fs w)<;>cases deV c fs p w<;>rfl
    have j:∀k,k<szV c fs v->prW (szV c fs) (qr c fs (uP c fs p v k)) (List.range (ctV c fs))=prW (szV c fs) (λw=> !decide (w=v)&&qr c fs p w) (List.range (ctV c fs)):=λk a=>by
     congr 1;funext w;exact t k a w
    have b:=UA (s:=szV c fs) (f:=qr c fs p) (g:=λw=> !decide (w=v)&&qr c fs p w) (λw=>rfl) l (List.range (ctV c fs)) nodup_range (mem_range.2 q);rw[b];generalize prW (szV c fs) (λw=> !decide (w=v)&&qr c fs p w) (List.range (ctV c fs))=W at j;have key:∀k,k<=szV c fs v->(uR (λk i=>rR c fs m (uP c fs p v k) i) k (n+1)).2.length+k<=2*(k*W):=λk a=>by
     induction k with
     |zero=>simp[uR]
     |succ k r=>
      have r:=r ow;have:=RS h0 m (uP c fs p v k) (n+1+(uR (λk i=>rR c fs m (uP c fs p v k) i) k (n+1)).2.length) (d.dec ow);rw[j k ow] at this;rw[uR,length_append,Nat.add_mul,Nat.one_mul];omega
    have:=key _ (le_refl _);rw[length_cons];omega
def prL:List Nat->Nat
 | []=>1
 |r::l=>r*prL l
theorem Kb:∀ {l:List Nat},(∀r∈l,0<r)->0<prL l
 | [],_=>Nat.one_pos
 |r::l,h=>Nat.mul_pos (h r mem_cons_self) (Kb λq a=>h q (mem_cons_of_mem _ a))
theorem Kc:∀ {l:List Nat} {n:Nat},(∀r∈l,0<r)->(K6 l n<=4096\/n*prL l<=4096)->K6 l n=n*prL l
 | [],n,_,_=>by rw[K6,prL,Nat.mul_one]
 |r::l,n,b,h=>by
  have h1:=Kb λq a=>b q (mem_cons_of_mem _ a);rw[K6] at h⊢;rw[prL,<-Nat.mul_assoc] at h⊢;have c:n*r<=n*r*prL l:=Nat.le_mul_of_pos_right _ h1;split
  ·rename_i q;rw[ip q] at h;rcases h with h|h<;>omega
  ·rename_i q;rw[iq q] at h;exact Kc (λq a=>b q (mem_cons_of_mem _ a)) h
def Ke {l:List Nat} (a:∀r∈l,0<r) (h:K7 l<=4096\/prL l<=4096):K7 l=prL l:=by
 unfold K7 at h⊢;have h0:¬(l.any (· ==0))=true:=λq=>by
  obtain⟨r,hr,e⟩:=any_eq_true.1 q;have:=a r hr;simp at e;omega
 rw[iq h0] at h⊢;rw[Kc a (by rwa [Nat.one_mul]),Nat.one_mul]
theorem UB {s:Nat->Nat} {f:Nat->Bool} :∀l:List Nat,(∀w∈l,0<s w)->prW s f l<=prL (l.map s)
 | [],_=>le_refl _
 |w::l,h=>by
  have a:=UB (f:=f) l λq b=>h q (mem_cons_of_mem _ b);rw[prW,map_cons,prL];split
  ·exact Nat.mul_le_mul_left _ a
  ·exact le_trans a (Nat.le_mul_of_pos_left _ (h w mem_cons_self))
def Kf:Vu c (tV c fs) (oV c fs)=(List.range (ctV c fs)).map (szV c fs):=by
 refine ext_getElem (by simp[Vu,ctV]) λi h1 a=> ?_;rw[getElem_map,getElem_range];unfold szV;simp only[Vu] at h1⊢;split
 ·rename_i q;rw[getElem_append_left (by simpa using q),getElem_map,getD_eq_getElem?_getD,getElem?_eq_getElem q];rfl
 ·rename_i q;rw[getElem_append_right (by simpa using q),getElem_map]
def Kg (h:∀v,v<ctV c fs->0<szV c fs v):∀r∈Vu c (tV c fs) (oV c fs),0<r:=λr hr=>by
 rw[Kf] at hr;obtain⟨v,a,rfl⟩:=mem_map.1 hr;exact h v (mem_range.1 a)
def Kh (h:yr c fs=0):(dy c fs).length<=8191:=by
 have h0:=gO h;by_cases b:∀v,v<ctV c fs->0<szV c fs v
 ·have h1:=RS h0 (ctV c fs) (uQ c fs) 0 (wM c fs _);have g:=UB (s:=szV c fs) (f:=qr c fs (uQ c fs)) (List.range (ctV c fs)) λw i=>b w (mem_range.1 i);rw[<-Kf] at g;have h3:=Ke (Kg b) (.inl (RF h));have d:=RF h;unfold Dk at d;unfold dy;have h5:K7 (Vu c (tV c fs) (oV c fs))<=4096:=d;omega
 ·have:∃v,v<ctV c fs/\szV c fs v=0:=by
   refine Classical.byContradiction λq=>b λv a=>Nat.pos_of_ne_zero λe=>q ⟨v,a,e⟩
  obtain⟨v,a,e⟩:=this;have h1:=(V9 h0 a e).2 (nH (uQ c fs));cases e2:WM c fs (uQ c fs) with
  |none=>exact absurd (head?_eq_none_iff.1 e2) h1
  |some x=>unfold dy;rw[(dx e2 _ _).2];simp
def WNu (n k:Nat) (S:Nat->Prop) (h:Heap):Prop:=n<h.next/\h.at' n=some (.row [.int .i64 (k:Int)])/\∀i,S i↔i=n
def WNu.lcl (n:Nat):Lcl (WNu n):=by
 refine⟨λk S h y i d=> ?_,λk S h h' y f e=> ?_⟩
 ·obtain⟨b,c,a⟩:=y;rw[(a i).1 d];exact b
 ·obtain⟨b,c,a⟩:=y;exact⟨by omega,by rw[e _ ((a _).2 rfl)];exact c,a⟩
def zCN (c:Cat) (fs:List Fac):D:=if yr c fs=0 then .tuple [.int .i64 ((rC c fs).length:Int), .int .i64 0] else .tuple [.int .i64 0, .int .i64 (yr c fs)]
theorem Ki {ca cb ce cp x:D} (U:yu c (.agg [ca,cb,ce,cp])) (hs:c.Sm) (hx:zd 12 (nz fs) x) (hF:LU fs) (a2:∀f∈fs,f.Ok) (hL:yr c fs=0->(rC c fs).length<=1048576) (g:Heap):
  zA prog 18 [.agg [ca,cb,ce,cp],x] g λr h'=>h'=g/\r=zCN c fs:=by
 refine xU kr λa6=> ?_;refine xP λR T=> ?_;have d:=KP U hs hx hF a2;have p:∀ (h:Heap) a b,Ext g h->D.tuple [.int .i64 a, .int .i64 b]=zCN c fs->R (.tuple [.int .i64 a, .int .i64 b]) h:=λh a b hE e=>T _ _ ⟨hE,⟨trivial,trivial,trivial⟩,e⟩;by_cases u:yr c fs=0
 case neg=>
  have C:(!(yr c fs==0))=true:=by simpa using u
  have t:=p g 0 (yr c fs) (Ext.refl g) (by unfold zCN;rw[iq u]);have d:∀g,zA prog 29 [.agg [ca,cb,ce,cp],x] g λr h'=>h'=g/\r= .tuple [.nilptr, .int .i64 (yr c fs)]:=λg=>(d g).mono λr h' q=>⟨q.1,by
   rcases q.2 with⟨_,e⟩ | ⟨e,_⟩
   ·exact e
   ·exact absurd e u⟩
  clear hL u p T;refine xO mix func18 zFL rfl rfl ?_;simp only[f18,gJ]
  repeat' first|simp only[go_sem, *]|apply bc<;>intro U|(refine zA.mono (d _) ?_;rintro r h ⟨W,rfl⟩)
 case pos=>
 have hL:=hL u;have hB:=Nat.le_trans (Kh u) (by decide:8191<=1048576);have d:∀g,zA prog 29 [.agg [ca,cb,ce,cp],x] g λr h'=>h'=g/\∃td od,r= .tuple [.iptr [ca,cb,ce,cp,x,td,od] 0, .int .i64 0]/\SpD c fs ca cb ce cp x td od:=λg=>(d g).mono λr h' q=>⟨q.1,by
   rcases q.2 with⟨e,_⟩ | ⟨_,td,od,e,S,_⟩
   ·exact absurd u e
   ·exact⟨td,od,e,S⟩⟩
 obtain⟨n,hn⟩:∃n,g.next=n:=⟨_,rfl⟩;have E:zQ prog 3 (.ptr n 0) (.int .i64 0) (g.new n (.row [.int .i64 0]))=some (g.new n (.row [.int .i64 0])):=by
  rw[zR (zK _ _ _) wW (by simp) rfl rfl,p5];rfl
 obtain⟨H,hH,ad,h1,w,Z⟩:∃H:Heap,(g.new n (.row [.int .i64 0])).new (n+1) (.row [.nilsl])=H/\H.next=n+2/\H.at' n=some (.row [.int .i64 0])/\H.at' (n+1)=some (.row [.nilsl])/\Ext g H:=⟨_,rfl,by rw[<-hn,zp _ (by rw[zF];exact Nat.le_refl _)],by rw[zH ow,zK],zK _ _ _,by rw[<-hn];exact((Ext.refl g).new (Nat.le_refl _) _).new ow _⟩;have a1:(g.new n (.row [.int .i64 0])).next=n+1:=by rw[<-hn];exact zF _ _
 refine xO mix func18 zFL rfl rfl ?_;simp only[f18,gJ]
 repeat' first|simp only[go_sem, *]|apply bc<;>intro U
 refine(d _).mono ?_;rintro r k ⟨W,td,od,rfl,S⟩;subst W;have Q:=λg=>CM [ca,cb,ce,cp,x,td,od] (n+1) g
 rename Heap=>g
 repeat' first|simp only[go_sem,KW, *]|apply bc<;>intro U|(refine zA.mono (Q _) ?_;rintro r h ⟨W,rfl⟩)
 subst W
 rename Heap=>H
 generalize o:LRec.mk _ _ _ _ _ _ _=L;have a3:L.pending=none:=by rw[<-o]
 have a4:L.st= .ready:=by rw[<-o]
 have A:WNu n 0 (λj=>j=n) H:=⟨by omega,h1,λ_=>Iff.rfl⟩;have z:NdH (n+1) [] (λj=>j=n+1) H:=⟨by omega, .nilsl,[],w, .inl ⟨rfl,rfl⟩,λe=>e,rfl,(by intro m hm;cases hm),(by intro a b m m' i e;cases e),λi=>⟨λe=> .inl e,λe=>e.elim id λe=>e.elim (λe=>e.elim) λ⟨m,hm,_⟩=>by cases hm⟩⟩;clear hH a1 d Q h1 w E;have hV:Lcl λ_ (_:Nat->Prop) (_:Heap)=>False:=⟨λ_ _ _ y=>y.elim,λ_ _ _ _ y=>y.elim⟩
 refine KQ (V:=λ_ _=>False) (n:=(rC c fs).length) (el:=elP (rC c fs)) ad (WNu.lcl n) hV (NdH.lcl (n+1) []) (NdH.lcl (n+1) (dy c fs)) (NdHx.lcl (n+1)) a4 a3 A z (λi h1 w=>by omega) (λyl aj ai hd=>(HF S hB yl aj ai hd).mono λr h' ⟨r',T1,T2,q1,q2,q3,q4,q5⟩=>⟨T1,T2,q1,q2,q3,q4,q5.imp (λq=>⟨q.2.1,q.2.2⟩) λq=>⟨q.2.1,q.2.2⟩⟩) ?_ ?_ ?_
 ·intro k S0 h3 hk M ak a5 a0;have l:=ak;rw[<-o] at l;obtain⟨w1,w2,X⟩:=a5;refine yg.round (g:=R5) mix l rfl kr kr kr ?_;simp only[go_sem];refine⟨l,?_⟩;generalize F:LRec.mk .busy _ _ _ _ _ _=B;have ag:({ B with st:= .ready,pending:=none } :LRec)=L:=by rw[<-F,<-o]
  obtain⟨v,I,t1,t2,t3⟩:∃v,h3.set (n+2) (.loop B)=v/\v.at' n=some (.row [.int .i64 (k:Int)])/\v.at' (n+2)=some (.loop B)/\But (λi=>i=n+2) h3 v:=⟨_,rfl,by rw[zE ow];exact w2,zD _ _ _,by rw[zT];exact Nat.le_refl _,λi _ K=>zE K⟩;have ew:IntKind.i64.wrap ((k:Int)+1)=((k+1:Nat):Int):=zq (by unfold lim;omega);have E:zQ prog 3 (.ptr n 0) (.int .i64 ((k+1:Nat):Int)) v=some (v.set n (.row [.int .i64 ((k+1:Nat):Int)])):=by
   rw[zR t1 wW (by simp) rfl rfl];rfl
  rw[I];have t:∀fr,wK (LpZ (n+2) L (WNu n) (λ_ _=>False) k S0 h3) (n+2) .normal fr (v.set n (.row [.int .i64 ((k+1:Nat):Int)])):=λfr=>by
   have hb:=t3.1;refine Lp.finZ (WNu.lcl n) ag M a0 (by rw[zE ow];exact t2) (S':=S0) (λi K=> .inl K) ⟨by rw[zT];exact hb,λi K C=> ?_⟩ ⟨by rw[zT];omega,zD _ _ _,X⟩;rw[zE λe=>C (.inr ((X i).2 e)),t3.2 i K λe=>C (.inl e)]
  clear o F I l A z p T;simp only[go_sem,t1,ew,E];exact t _
 ·intro S' Y w O P J s hw N;obtain⟨w1,w2,X⟩:=hw;have G:Ext g w:=Ext.of_but Z s λj hj=>by rcases hj with rfl|rfl<;>omega
  have t:=p w ((rC c fs).length:Int) 0 G (by unfold zCN;rw[ip u]);clear o A z p T G N O P J s X u;exact au
 ·intro S' Y w O P J s hv N;exact hv.elim
theorem FJ {f:Nat->List Part} {W:Nat} :∀s,(∀k,k<s->(f k).length<=W)->((List.range s).flatMap f).length<=s*W
 |0,_=>by simp
 |s+1,h=>by
  have b:=FJ s λk a=>h k ow;have:=h s ow;rw[List.range_succ,List.flatMap_append,List.length_append,Nat.succ_mul];simp only[List.flatMap_cons,List.flatMap_nil,List.append_nil];omega
theorem WP (h0:(za c fs).2.2=0):∀m p,POk c fs p->(tC c fs m p).length<=prW (szV c fs) (qr c fs p) (List.range (ctV c fs))
 |0,p,b=>by
  have:=kw (s:=szV c fs) (f:=qr c fs p) (λw h=>by simp only[qr,Bool.and_eq_true,decide_eq_true_eq] at h;omega) (List.range (ctV c fs));rw[tC];split<;>simp<;>omega
 |m+1,p,b=>by
  have d:=kw (s:=szV c fs) (f:=qr c fs p) (λw h=>by simp only[qr,Bool.and_eq_true,decide_eq_true_eq] at h;omega) (List.range (ctV c fs));rw[tC];split
  ·simp
  ·split
   ·simp;omega
   ·rename_i v e;obtain⟨i,l,_⟩:=pb e;have j:∀k,k<szV c fs v->prW (szV c fs) (qr c fs (uP c fs p v k)) (List.range (ctV c fs))=prW (szV c fs) (λw=> !decide (w=v)&&qr c fs p w) (List.range (ctV c fs)):=λk a=>by
     congr 1;funext w;unfold qr;rw[Z6 b h0 i a];cases decide (w=v)<;>cases decide (1<szV c fs w)<;>cases deV c fs p w<;>rfl
    rw[UA (s:=szV c fs) (f:=qr c fs p) (g:=λw=> !decide (w=v)&&qr c fs p w) (λw=>rfl) l (List.range (ctV c fs)) List.nodup_range (List.mem_range.2 i)];refine FJ _ λk a=> ?_;rw[<-j k a];exact WP h0 m _ (b.dec a)
def Qq (h:yr c fs=0):(rC c fs).length<=4096:=by
 have h0:=gO h;by_cases b:∀v,v<ctV c fs->0<szV c fs v
 ·have h1:=WP h0 (ctV c fs) (uQ c fs) (wM c fs _);have d:=UB (s:=szV c fs) (f:=qr c fs (uQ c fs)) (List.range (ctV c fs)) λw g=>b w (List.mem_range.1 g);rw[<-Kf] at d;have h3:=Ke (Kg b) (.inl (RF h));have h5:K7 (Vu c (tV c fs) (oV c fs))<=4096:=RF h;unfold rC;omega
 ·have:∃v,v<ctV c fs/\szV c fs v=0:=by
   refine Classical.byContradiction λq=>b λv a=>Nat.pos_of_ne_zero λe=>q ⟨v,a,e⟩
  obtain⟨v,a,e⟩:=this;have h1:=(V9 h0 a e).2 (nH (uQ c fs));cases e2:WM c fs (uQ c fs) with
  |none=>exact absurd (List.head?_eq_none_iff.1 e2) h1
  |some x=>unfold rC;rw[(dx e2 _ 0).1];simp
section
variable {c:Cat} {fs:List Fac}
def Le.mem {p q:Part} (h:Le p q) {v:Vio} (a:v∈tB c fs (nH p)):v∈tB c fs (nH q):=h.gap.vios a
end
end Go.V
