/- A machine of abstract values for programs of the model, further rules, part 1. No condition. -/
import Derived.Test.YthcjhnmnhfgdiaaGreatDoorW00
import Derived.Laws.CopyRow
import Derived.ChangeKeysEq
import Derived.Laws.StructEq
import Derived.Laws.Concat
import Derived.Lib.Builder
import Derived.Laws.Slices
import Derived.Great.FillDense
set_option linter.all false
set_option maxHeartbeats 8000000
namespace Go.V
open Go.RowKit (Below)
structure Loc where
 blk:Nat
 endd:Nat
 size:Nat
abbrev Imm:=Nat->Nat->Option Value
abbrev Ren:=Nat->Option Loc
def fits (k:IntKind) (n:Int):Prop:=k.wrap n=n
def QD (v:Value) (b p n cap:Nat):Prop:=∃sp,v= .slice (some ⟨b,p,sp⟩) n cap/\(sp=none\/cap=0)
def QD.mk (b p n cap:Nat):QD (.slice (some ⟨b,p,none⟩) n cap) b p n cap:=⟨none,rfl, .inl rfl⟩
mutual
def rel (M : Imm) (ρ : Ren) : D -> Value -> Prop
  | .bool b, v => v = .bool b
  | .int k n, v => v = .int k n /\ fits k n
  | .str s, v => ∃ b : ByteArray, v = .string b /\ b.data.toList = s /\ s.length <= lim
  | .nilptr, v => v = .pointer none
  | .ptr id off, v => ∃ l, ρ id = some l /\ v = .pointer (some ⟨l.blk, off, none⟩)
  | .iptr cs off, v => ∃ b p, v = .pointer (some ⟨b, p + off, none⟩) /\ sj M ρ cs b p
  | .nilsl, v => v = .slice none 0 0
  | .sl sz xs tk, v => 0 < sz /\ xs.length <= lim /\ ∃ b p cap, QD v b p xs.length cap /\ xs.length <= cap /\ rn M ρ sz xs b p /\
      (match tk with
       | .no => True
       | .full => cap = xs.length
       | .own t => ∃ l, ρ t = some l /\ l.blk = b /\ l.endd = p + xs.length * sz /\ p + cap * sz <= l.size /\ 0 < cap)
  | .rs id sz off len, v => 0 < sz /\ len <= lim /\ ∃ l cap o, ρ id = some l /\ v = .slice (some ⟨l.blk, o, none⟩) len cap /\ (len <= cap /\ cap <= maxLen) /\ off + cap * sz <= l.size /\ (cap = 0 \/ o = off)
  | .nilmap, v => v = .map none
  | .map id, v => ∃ l, ρ id = some l /\ v = .map (some l.blk)
  | .fn f a c, v => (∃ g, f = .func g) /\ ∃ va vc, v = .func f va vc /\ yD M ρ a va.toList /\ yD M ρ c vc.toList
  | .yld id, v => ∃ l, ρ id = some l /\ v = .func (.yield l.blk) #[] #[]
  | .nilfn, v => v = .nilFunc
  | .agg cs, v => ∃ vs, v = .agg vs /\ yD M ρ cs vs.toList /\ cs.all D.flat = true
  | .tuple cs, v => ∃ vs, v = .tuple vs /\ yD M ρ cs vs.toList
  | .iface t d, v => ∃ u, v = .iface t u /\ rel M ρ d u
  | .niliface, v => v = .nilIface
def yD (M:Imm) (ρ:Ren):List D->List Value->Prop
 | [],vs=>vs= []
 |d::ds,vs=>∃v vs',vs=v::vs'/\rel M ρ d v/\yD M ρ ds vs'
def sj (M:Imm) (ρ:Ren):List D->Nat->Nat->Prop
 | [],_,_=>True
 |d::ds,b,p=>(d.flat=true/\∃v,M b p=some v/\rel M ρ d v)/\sj M ρ ds b (p+1)
def rn (M:Imm) (ρ:Ren) (sz:Nat):List (List D)->Nat->Nat->Prop
 | [],_,_=>True
 |x::xs,b,p=>x.length=sz/\sj M ρ x b p/\rn M ρ sz xs b (p+sz)
end
def MLe (M M':Imm):Prop:=∀b o v,M b o=some v->M' b o=some v
def RLe (ρ ρ':Ren):Prop:=∀i l,ρ i=some l->ρ' i=some l
def MLe.refl (M:Imm):MLe M M:=λ_ _ _ h=>h
def RLe.refl (ρ:Ren):RLe ρ ρ:=λ_ _ h=>h
def MLe.trans {M M' a:Imm} (h:MLe M M') (h':MLe M' a):MLe M a:=λb o v e=>h' b o v (h b o v e)
def RLe.trans {M M' a:Ren} (h:RLe M M') (h':RLe M' a):RLe M a:=λi l e=>h' i l (h i l e)
section mono
variable {M M':Imm} {ρ ρ':Ren} (hM:MLe M M') (hr:RLe ρ ρ')
mutual
theorem qU (hM:MLe M M') (hr:RLe ρ ρ'):∀ (d:D) (v:Value),rel M ρ d v->rel M' ρ' d v
 | .bool _,_,h=>by simpa [rel] using h
 | .int _ _,_,h=>by simpa [rel] using h
 | .str _,_,h=>by simpa [rel] using h
 | .nilptr,_,h=>by simpa [rel] using h
 | .ptr _ _,_,h=>by
  simp only[rel] at h⊢;obtain⟨l,h1,e⟩:=h;exact⟨l,hr _ _ h1,e⟩
 | .iptr cs off,_,h=>by
  simp only[rel] at h⊢;obtain⟨b,p,h1,e⟩:=h;exact⟨b,p,h1,nq hM hr cs b p e⟩
 | .nilsl,_,h=>by simpa [rel] using h
 | .sl sz xs tk,_,h=>by
  simp only[rel] at h⊢;obtain⟨h0,g,b,p,cap,h1,e,h3,i⟩:=h;refine⟨h0,g,b,p,cap,h1,e,gD hM hr sz xs b p h3,?_⟩;cases tk with
  |no=>trivial
  |full=>exact i
  |own t=>
   obtain⟨l,j,k⟩:=i;exact⟨l,hr _ _ j,k⟩
 | .rs _ _ _ _,_,h=>by
  simp only[rel] at h⊢;obtain⟨h0,g,l,cap,o,h1,e⟩:=h;exact⟨h0,g,l,cap,o,hr _ _ h1,e⟩
 | .nilmap,_,h=>by simpa [rel] using h
 | .map _,_,h=>by
  simp only[rel] at h⊢;obtain⟨l,h1,e⟩:=h;exact⟨l,hr _ _ h1,e⟩
 | .fn f a c,_,h=>by
  simp only[rel] at h⊢;obtain⟨h0,m,n,h1,e,h3⟩:=h;exact⟨h0,m,n,h1,wR hM hr a _ e,wR hM hr c _ h3⟩
 | .yld _,_,h=>by
  simp only[rel] at h⊢;obtain⟨l,h1,e⟩:=h;exact⟨l,hr _ _ h1,e⟩
 | .nilfn,_,h=>by simpa [rel] using h
 | .agg cs,_,h=>by
  simp only[rel] at h⊢;obtain⟨vs,h1,e,h3⟩:=h;exact⟨vs,h1,wR hM hr cs _ e,h3⟩
 | .tuple cs,_,h=>by
  simp only[rel] at h⊢;obtain⟨vs,h1,e⟩:=h;exact⟨vs,h1,wR hM hr cs _ e⟩
 | .iface t d,_,h=>by
  simp only[rel] at h⊢;obtain⟨u,h1,e⟩:=h;exact⟨u,h1,qU hM hr d u e⟩
 | .niliface,_,h=>by simpa [rel] using h
theorem wR (hM:MLe M M') (hr:RLe ρ ρ'):∀ (ds:List D) (vs:List Value),yD M ρ ds vs->yD M' ρ' ds vs
 | [],_,h=>by simpa [yD] using h
 |d::ds,_,h=>by
  simp only[yD] at h⊢;obtain⟨v,a,h1,b,h3⟩:=h;exact⟨v,a,h1,qU hM hr d v b,wR hM hr ds a h3⟩
theorem nq (hM:MLe M M') (hr:RLe ρ ρ'):∀ (ds:List D) (b p:Nat),sj M ρ ds b p->sj M' ρ' ds b p
 | [],_,_,_=>by simp[sj]
 |d::ds,b,p,h=>by
  simp only[sj] at h⊢;obtain⟨⟨h0,v,h1,a⟩,h3⟩:=h;exact⟨⟨h0,v,hM _ _ _ h1,qU hM hr d v a⟩,nq hM hr ds b (p+1) h3⟩
theorem gD (hM:MLe M M') (hr:RLe ρ ρ'):∀ (sz:Nat) (xs:List (List D)) (b p:Nat),rn M ρ sz xs b p->rn M' ρ' sz xs b p
 |_,[],_,_,_=>by simp[rn]
 |sz,x::xs,b,p,h=>by
  simp only[rn] at h⊢;exact⟨h.1,nq hM hr x b p h.2.1,gD hM hr sz xs b (p+sz) h.2.2⟩
end
end mono
variable {M:Imm}{ρ:Ren}{sz i nid n id:Nat}{w w':World}{vs:List Value}{v vx vy:Value}{h' h:Heap}{t u:TypeId}{cs ds:List D}{d x y z:D}{ob:Obj}{r:Bool}{lo hi:Option D}{xs:List (List D)}{α:Type}
theorem zW:∀ {ds:List D} {vs:List Value},yD M ρ ds vs->vs.length=ds.length
 | [],_,h=>by simp only[yD] at h;simp[h]
 |d::ds,vs,h=>by
  simp only[yD] at h;obtain⟨v,a,rfl,_,h3⟩:=h;simp[zW h3]
theorem qC:∀ {ds:List D} {vs:List Value},yD M ρ ds vs->∀ (i:Nat) (d:D),ds[i]? =some d->∃v,vs[i]? =some v/\rel M ρ d v
 | [],_,_,i,d,a=>by simp at a
 |e::ds,vs,h,i,d,a=>by
  simp only[yD] at h;obtain⟨v,c,rfl,b,h3⟩:=h;cases i with
  |zero=>simp at a;subst a;exact⟨v,by simp,b⟩
  |succ i=>simp at a;simpa using qC h3 i d a
theorem yG:∀ {ds:List D} {vs:List Value},vs.length=ds.length->(∀ (i:Nat) (d:D) (v:Value),ds[i]? =some d->vs[i]? =some v->rel M ρ d v)->yD M ρ ds vs
 | [],vs,a,_=>by simp only[yD];simpa using a
 |d::ds,[],a,_=>by simp at a
 |d::ds,v::vs,a,h=>by
  simp only[yD];exact⟨v,vs,rfl,h 0 d v (by simp) (by simp),yG (by simpa using a) λi e u b c=>h (i+1) e u (by simpa using b) (by simpa using c)⟩
theorem to:∀ {ds:List D} {b p:Nat},sj M ρ ds b p->∀ (i:Nat) (d:D),ds[i]? =some d->d.flat=true/\∃v,M b (p+i)=some v/\rel M ρ d v
 | [],_,_,_,i,d,a=>by simp at a
 |e::ds,b,p,h,i,d,a=>by
  simp only[sj] at h;obtain⟨⟨h0,v,h1,c⟩,h3⟩:=h;cases i with
  |zero=>simp at a;subst a;exact⟨h0,v,h1,c⟩
  |succ i=>
   simp at a;obtain⟨hf,u,f,hr⟩:=to h3 i d a;exact⟨hf,u,by rw[<-f];congr 1;omega,hr⟩
theorem yu:∀ {ds:List D} {b p:Nat},(∀ (i:Nat) (d:D),ds[i]? =some d->d.flat=true/\∃v,M b (p+i)=some v/\rel M ρ d v)->sj M ρ ds b p
 | [],_,_,_=>by simp[sj]
 |d::ds,b,p,h=>by
  simp only[sj];refine⟨by simpa using h 0 d (by simp),yu λi e c=> ?_⟩;obtain⟨h0,v,h1,a⟩:=h (i+1) e (by simpa using c);exact⟨h0,v,by rw[<-h1];congr 1;omega,a⟩
theorem jZ:∀ {xs:List (List D)} {b p:Nat},rn M ρ sz xs b p->∀ (i:Nat) (x:List D),xs[i]? =some x->x.length=sz/\sj M ρ x b (p+i*sz)
 | [],_,_,_,i,x,a=>by simp at a
 |y::xs,b,p,h,i,x,a=>by
  simp only[rn] at h;cases i with
  |zero=>simp at a;subst a;simpa using⟨h.1,h.2.1⟩
  |succ i=>
   simp at a;have:=jZ h.2.2 i x a;rw[Nat.add_mul,Nat.one_mul,show p+(i*sz+sz)=p+sz+i*sz by omega];exact this
theorem ue:∀ {xs:List (List D)} {b p:Nat},(∀ (i:Nat) (x:List D),xs[i]? =some x->x.length=sz/\sj M ρ x b (p+i*sz))->rn M ρ sz xs b p
 | [],_,_,_=>by simp[rn]
 |x::xs,b,p,h=>by
  simp only[rn];have h0:=h 0 x (by simp);refine⟨h0.1,by simpa using h0.2,ue λi y a=> ?_⟩;have:=h (i+1) y (by simpa using a);rw[Nat.add_mul,Nat.one_mul,show p+(i*sz+sz)=p+sz+i*sz by omega] at this;exact this
def qj (M:Imm) (ρ:Ren):List (D×D)->List MapEntry->Prop
 | [],es=>es= []
 |(k,d)::ds,es=>∃e es',es=e::es'/\rel M ρ k e.key/\rel M ρ d e.val/\qj M ρ ds es'
def cL (M:Imm) (ρ:Ren) (fr:Frm) (tmps:Array Value):Prop:=∀i,rel M ρ (fr i) (tmps.getD i undef)
def qX (M:Imm) (ρ:Ren) (w:World) (l:Loc):Obj->Prop
 | .row cs=>(∀o,M l.blk o=none)/\∃c e,w.heap[l.blk]? =some (.cells c e (0,0))/\l.size=c.size/\cs.length<=c.size/\∀ (i:Nat) (d:D),cs[i]? =some d->d.flat=true/\∃v,c[i]? =some v/\rel M ρ d v
 | .tok=>(∀o,l.endd<=o->M l.blk o=none)/\l.endd<=l.size/\∃c e,w.heap[l.blk]? =some (.cells c e (0,0))/\l.size=c.size
 | .map es=>∃en clock,w.heap[l.blk]? =some (.map en clock)/\qj M ρ es en.toList
 | .loop r=>∃L:Go.Loop,w.heap[l.blk]? =some (.loop L)/\L.state=r.st/\L.pending=r.pending/\L.params=r.params/\L.assign=r.assign/\L.body=r.body/\L.tmps.size=r.n/\cL M ρ r.fr L.tmps
 | .siter s pos=>∃b:ByteArray,w.heap[l.blk]? =some (.stringIter b pos)/\b.data.toList=s
 | .trow t full cs=>(∀o,M l.blk o=none)/\∃c e,w.heap[l.blk]? =some (.cells c e (0,0))/\l.size=c.size/\cs.length<=c.size/\(∀ (i:Nat) (d:D),cs[i]? =some d->d.flat=true/\∃v,c[i]? =some v/\rel M ρ d v)/\e=t/\(full=true->c.size=cs.length)
structure Base extends World where
 O:Imm
 keep:Nat->Prop
 kept:∀b,keep b->b<heap.size
structure Kept (w0:Base) (w:World):Prop where
 os:w.os=w0.os
 tape:w.tape=w0.tape
 output:w.output=w0.output
 size:w0.heap.size<=w.heap.size
 block:∀b,w0.keep b->w.heap[b]? =w0.heap[b]?
 drawn:w0.drawn<=w.drawn
structure Bel (n:Nat) (w w':World):Prop extends Below n w w' where
 drawn:w.drawn<=w'.drawn
def Bel.refl (n:Nat) (w:World):Bel n w w:=⟨Below.refl n w,Nat.le_refl _⟩
structure Sim (w0:Base) (G:List Nat) (M:Imm) (ρ:Ren) (h:Heap) (w:World):Prop where
 below:Kept w0 w
 imm:∀b o v,M b o=some v->w.cell? ⟨b,o,none⟩ =some v
 live:∀i ob,h.at' i=some ob->∃l,ρ i=some l/\¬w0.keep l.blk/\qX M ρ w l ob
 apart:∀i j oi oj li lj,h.at' i=some oi->h.at' j=some oj->ρ i=some li->ρ j=some lj->li.blk=lj.blk->i=j
 gdef:∀b,b∈G->¬w0.keep b/\w.heap[b]? =some (.deferred (some []))
 old:∀b o v,w0.keep b->M b o=some v->w0.O b o=some v
variable {l:Loc}
def qv (a:w'.heap[l.blk]? =w.heap[l.blk]?):∀ {b:Obj},qX M ρ w l b->qX M ρ w' l b
 | .row _,h=>by simpa only[qX,a] using h
 | .tok,h=>by simpa only[qX,a] using h
 | .map _,h=>by simpa only[qX,a] using h
 | .loop _,h=>by simpa only[qX,a] using h
 | .siter _ _,h=>by simpa only[qX,a] using h
 | .trow _ _ _,h=>by simpa only[qX,a] using h
def sI:∀ {a:Obj},qX M ρ w l a->l.blk<w.heap.size
 | .row _,h=>by obtain⟨_,c,e,h,_⟩:=h;exact(Array.getElem?_eq_some_iff.1 h).1
 | .tok,h=>by obtain⟨_,_,c,e,h,_⟩:=h;exact(Array.getElem?_eq_some_iff.1 h).1
 | .map _,h=>by obtain⟨c,e,h,_⟩:=h;exact(Array.getElem?_eq_some_iff.1 h).1
 | .loop _,h=>by obtain⟨c,h,_⟩:=h;exact(Array.getElem?_eq_some_iff.1 h).1
 | .siter _ _,h=>by obtain⟨c,h,_⟩:=h;exact(Array.getElem?_eq_some_iff.1 h).1
 | .trow _ _ _,h=>by obtain⟨_,c,e,h,_⟩:=h;exact(Array.getElem?_eq_some_iff.1 h).1
variable {M':Imm}{ρ':Ren}
theorem cM (hM:MLe M M') (hr:RLe ρ ρ'):∀ (ds:List (D×D)) (b:List MapEntry),qj M ρ ds b->qj M' ρ' ds b
 | [],_,h=>by simpa [qj] using h
 |(k,d)::ds,_,h=>by
  simp only[qj] at h⊢;obtain⟨e,a,h1,c,h3,f⟩:=h;exact⟨e,a,h1,qU hM hr _ _ c,qU hM hr _ _ h3,cM hM hr ds a f⟩
def wS (hM:MLe M M') (hr:RLe ρ ρ') (m:∀o,M l.blk o=none->M' l.blk o=none):∀ {n:Obj},qX M ρ w l n->qX M' ρ' w l n
 | .row _,h=>by
  obtain⟨h0,c,e,h1,f,h3,j⟩:=h;refine⟨λo=>m o (h0 o),c,e,h1,f,h3,λi d k=> ?_⟩;obtain⟨h5,v,a,b⟩:=j i d k;exact⟨h5,v,a,qU hM hr _ _ b⟩
 | .tok,h=>⟨λo u=>m o (h.1 o u),h.2⟩
 | .map _,h=>by
  obtain⟨q,p,h1,f⟩:=h;exact⟨q,p,h1,cM hM hr _ _ f⟩
 | .loop _,h=>by
  obtain⟨L,h1,f,h3,j,h5,r,s,t⟩:=h;exact⟨L,h1,f,h3,j,h5,r,s,λi=>qU hM hr _ _ (t i)⟩
 | .siter _ _,h=>h
 | .trow _ _ _,h=>by
  obtain⟨h0,c,e,h1,f,h3,j,g⟩:=h;refine⟨λo=>m o (h0 o),c,e,h1,f,h3,λi d k=> ?_,g⟩;obtain⟨h5,v,a,b⟩:=j i d k;exact⟨h5,v,a,qU hM hr _ _ b⟩
def rM (M:Imm) (b p:Nat) (vs:List Value):Imm:=λb' o=>if b'=b/\p<=o/\o<p+vs.length then vs[o-p]? else M b' o
def uf (ρ:Ren) (i:Nat) (l:Loc):Ren:=λj=>if j=i then some l else ρ j
def qL (h:ρ i=none):RLe ρ (uf ρ i l):=λj m e=>by
 unfold uf;by_cases a:j=i
 ·subst a;rw[h] at e;cases e
 ·simpa [a] using e
def rq {b p:Nat} (h:∀o,p<=o->M b o=none):MLe M (rM M b p vs):=λb' o v e=>by
 unfold rM;split
 ·rename_i a;rw[a.1,h o a.2.1] at e;cases e
 ·exact e
def bv {b p:Nat} (h:vs[i]? =some v):rM M b p vs b (p+i)=some v:=by
 have a:i<vs.length:=(List.getElem?_eq_some_iff.1 h).1;unfold rM;rw[ip ⟨rfl,by omega,by omega⟩,show p+i-p=i by omega];exact h
section sim
variable {w0:Base} {G:List Nat} {M:Imm} {ρ:Ren} {h:Heap} {w:World}
def Sim.lt (a:Sim w0 G M ρ h w) {b o:Nat} (e:M b o=some v):b<w.heap.size:=by
 have:=World.block_lt_of_cell? _ _ (a.imm b o v e);exact this
def Sim.none_at (a:Sim w0 G M ρ h w) {b:Nat} (c:w.heap.size<=b) (o:Nat):M b o=none:=by
 cases e:M b o with
 |none=>rfl
 |some v=>have:=a.lt e;omega
def Sim.nokeep (c:Sim w0 G M ρ h w) {b:Nat} (d:w.heap.size<=b):¬w0.keep b:=λa=>by
 have:=w0.kept b a;have:=c.below.size;omega
def Kept.world (a:Kept w0 w) (c:Bel w.heap.size w w'):Kept w0 w':=
 ⟨c.os.trans a.os,c.tape.trans a.tape,c.output.trans a.output,Nat.le_trans a.size c.size,λb d=>(c.block b (Nat.lt_of_lt_of_le (w0.kept b d) a.size)).trans (a.block b d),Nat.le_trans a.drawn c.drawn⟩
def Sim.world (hs:Sim w0 G M ρ h w) (hb:Bel w.heap.size w w'):Sim w0 G M ρ h w' where
 below:=hs.below.world hb
 imm b o v e:=by
  have hl:=hs.lt e;have:=hs.imm b o v e;rw[<-this];exact World.cell?_of_block (w:=w) (hb.block b hl)
 live i ob e:=by
  obtain⟨l,h1,h2,h3⟩:=hs.live i ob e;exact⟨l,h1,h2,qv (hb.block _ (sI h3)) h3⟩
 apart:=hs.apart
 gdef b hb':=by
  obtain⟨h1,h2⟩:=hs.gdef b hb';exact⟨h1,by rw[hb.block b (Array.getElem?_eq_some_iff.1 h2).1];exact h2⟩
 old:=hs.old
def Sim.drew (a:Sim w0 G M ρ h w):Sim w0 G M ρ h w.drew:=a.world ⟨Below.drew (Below.refl _ _),Nat.le_succ _⟩
def Sim.alloc (a:Sim w0 G M ρ h w) (o:Go.Obj):Sim w0 G M ρ h (w.alloc o):=a.world ⟨(Below.refl _ _).alloc (Nat.le_refl _) o,Nat.le_refl _⟩
def gE {O:Imm} {K:Nat->Prop} {b' p:Nat} (f:∀b o v,K b->M b o=some v->O b o=some v) (c:¬K b'):∀b o v,K b->rM M b' p vs b o=some v->O b o=some v:=λb o v a e=>by
 unfold rM at e;split at e
 ·rename_i d;rw[d.1] at a;exact absurd a c
 ·exact f b o v a e
def Sim.allocImm (d:Sim w0 G M ρ h w) (c:Array Value) (e:TypeId) (n:Nat):Sim w0 G (rM M w.heap.size 0 (c.toList.take n)) ρ h (w.alloc (.cells c e)):=by
 have g:MLe M (rM M w.heap.size 0 (c.toList.take n)):=rq λo _=>d.none_at (Nat.le_refl _) o;have f:=d.alloc (.cells c e);refine { below:=f.below,imm:=λb o v a=> ?_,live:=λi q a=> ?_,apart:=d.apart,gdef:=f.gdef,old:=gE d.old (d.nokeep (Nat.le_refl _)) }
 ·unfold rM at a;split at a
  ·rename_i k;obtain⟨rfl,_,j⟩:=k;rw[World.cell?_alloc_new];simp only[Nat.sub_zero,List.getElem?_take] at a;split at a
   ·simpa using a
   ·cases a
  ·exact f.imm b o v a
 ·obtain⟨l,h1,j,h3⟩:=d.live i q a;have m:=sI h3;refine⟨l,h1,j,wS g (RLe.refl _) (λo p=> ?_) (qv (w:=w) (Below.heap_alloc _ _ _ m) h3)⟩;unfold rM;rw[iq ow];exact p
def Sim.allocObj (g:Sim w0 G M ρ h w) (F:ρ nid=none) (o:Go.Obj) (A:Obj) (l:Loc) (E:l.blk=w.heap.size) (H:qX M (uf ρ nid l) (w.alloc o) l A):
  Sim w0 G M (uf ρ nid l) (h.new nid A) (w.alloc o):=by
 have m:=g.alloc o;have f:=qL (l:=l) F;refine { below:=m.below,imm:=m.imm,live:=λi u e=> ?_,apart:=λi j v x s t b c p q r=> ?_,gdef:=m.gdef,old:=g.old }
 ·simp only[Heap.new] at e;split at e
  ·rename_i a;subst a;cases e;exact⟨l,by simp[uf],by rw[E];exact g.nokeep (Nat.le_refl _),H⟩
  ·rename_i a;obtain⟨z,h1,C,h3⟩:=m.live i u e;exact⟨z,f _ _ h1,C,wS (MLe.refl _) f (λ_ h=>h) h3⟩
 ·simp only[Heap.new] at b c;have key:∀k ok n,h.at' k=some ok->uf ρ nid l k=some n->k≠nid->n.blk<w.heap.size/\ρ k=some n:=by
   intro k ok n B y D;obtain⟨z,h1,_,h3⟩:=g.live k ok B;simp only[uf,D,if_false] at y;rw[h1] at y;cases y;exact⟨sI h3,h1⟩
  by_cases a:i=nid<;>by_cases d:j=nid
  ·rw[a,d]
  ·exfalso;simp only[d,if_false] at c;have:=(key j x t c q d).1;simp only[uf,a,if_true] at p;cases p;omega
  ·exfalso;simp only[a,if_false] at b;have:=(key i v s b p a).1;simp only[uf,d,if_true] at q;cases q;omega
  ·simp only[a,if_false] at b;simp only[d,if_false] at c;exact g.apart i j v x s t b c (key i v s b p a).2 (key j x t c q d).2 r
def Sim.del (hs:Sim w0 G M ρ h w) (i:Nat):Sim w0 G M ρ (h.del i) w where
 below:=hs.below
 imm:=hs.imm
 live j ob e:=by
  simp only[Heap.del] at e;split at e
  ·cases e
  ·exact hs.live j ob e
 apart j k oj ok lj lk ej ek:=by
  simp only[Heap.del] at ej ek;split at ej
  ·cases ej
  ·split at ek
   ·cases ek
   ·exact hs.apart j k oj ok lj lk ej ek
 gdef:=hs.gdef
 old:=hs.old
def Sim.less (hs:Sim w0 G M ρ h w) (hl:∀i ob,h'.at' i=some ob->h.at' i=some ob):Sim w0 G M ρ h' w where
 below:=hs.below
 imm:=hs.imm
 live j ob e:=hs.live j ob (hl j ob e)
 apart j k oj ok lj lk ej ek:=hs.apart j k oj ok lj lk (hl _ _ ej) (hl _ _ ek)
 gdef:=hs.gdef
 old:=hs.old
def Sim.put (a:Sim w0 G M ρ h w) {s c:Obj} (y:h.at' i=some s) (C:ρ i=some l) (E:w'.os=w.os) (H:w'.tape=w.tape) (p:w'.output=w.output)
  (F:w'.heap.size=w.heap.size) (g:∀b,b≠l.blk->w'.heap[b]? =w.heap[b]?) (z:∀o v,M l.blk o=some v->w'.cell? ⟨l.blk,o,none⟩ =some v) (D:∃x,w.heap[l.blk]? =some x/\∀d,x≠ .deferred d)
  (O:qX M ρ w' l c) (u:w.drawn<=w'.drawn:=by exact Nat.le_refl _):Sim w0 G M ρ (h.set i c) w':=by
 obtain⟨U,h1,I,h3⟩:=a.live i s y;rw[C] at h1;cases h1;refine { below:=⟨E.trans a.below.os,H.trans a.below.tape,p.trans a.below.output,by rw[F];exact a.below.size,λk n=>by rw[g k (λe=>I (e▸n))];exact a.below.block k n,Nat.le_trans a.below.drawn u⟩,imm:=λb o v e=> ?_,live:=λj t e=> ?_,apart:=λj k t ok r Q J K S T B=> ?_,gdef:=λb f=> ?_,old:=a.old }
 ·by_cases f:b=l.blk
  ·subst f;exact z o v e
  ·have:=a.imm b o v e;rw[<-this];exact World.cell?_of_block (w:=w) (g b f)
 ·simp only[Heap.set] at e;split at e
  ·rename_i A;subst A;cases e;exact⟨l,C,I,O⟩
  ·rename_i A;obtain⟨r,q,m,L⟩:=a.live j t e;refine⟨r,q,m,qv (g _ λf=>A (a.apart j i t s r l e y q C f)) L⟩
 ·have key:∀k ok,(h.set i c).at' k=some ok->∃R,h.at' k=some R:=by
   intro k ok e;simp only[Heap.set] at e;split at e
   ·rename_i g;subst g;exact⟨s,y⟩
   ·exact⟨ok,e⟩
  obtain⟨o1,e1⟩:=key j t J;obtain⟨o2,e2⟩:=key k ok K;exact a.apart j k o1 o2 r Q e1 e2 S T B
 ·obtain⟨q,m⟩:=a.gdef b f;refine⟨q,?_⟩;obtain⟨x,P,N⟩:=D;rw[g b λe=>by subst e;rw[P] at m;cases m;exact N _ rfl];exact m
end sim
def qV (b o j:Nat):(⟨b,o,none⟩:Addr).add j= ⟨b,o+j,none⟩:=by
 unfold Addr.add;split<;>simp_all
section ty
variable {P:Program} {w:World}
def nu {d:TypeDesc} (a:P.underlying t=some d):∃i,P.info? t=some i:=by
 unfold Program.underlying at a;cases e:P.info? t with
 |none=>rw[e] at a;cases a
 |some i=>exact⟨i,rfl⟩
def yE (a:szT P t≠0):(sizeOf t).run P w= .ok (szT P t) w:=by
 cases e:P.info? t with
 |none=>simp[szT,Program.cellsOf,e] at a
 |some i=>exact run_sizeOf _ e
def pf {d:TypeDesc} (b:P.underlying t=some d):(sizeOf t).run P w= .ok (szT P t) w:=by
 obtain⟨i,a⟩:=nu b;exact run_sizeOf _ a
def ja {ag:Bool} (h:agT P t=some ag):∃d,P.underlying t=some d/\(isAgg t).run P w= .ok ag w:=by
 unfold agT at h;cases e:P.underlying t with
 |none=>simp[e] at h
 |some d=>
  refine⟨d,rfl,?_⟩;simp only[isAgg,Sem.run_bind,run_underlying e,Result.andThen_ok];rw[e] at h;cases d<;>simp_all
def wI {t e:TypeId} (h:qO P t=some e):P.underlying t=some (.slice e):=by
 unfold qO at h;split at h<;>simp_all
def nv {t e:TypeId} (h:cJ P t=some (n,e)):P.underlying t=some (.array n e):=by
 unfold cJ at h;split at h<;>simp_all
def gF {t k e:TypeId} (h:Vb P t=some (k,e)):P.underlying t=some (.map k e):=by
 unfold Vb at h;split at h<;>simp_all
def gG {f off:Nat} (h:zl P t f=some (off,u)):∃ (fs:Array Field) (fl:Field),P.underlying t=some (.struct fs)/\fs[f]? =some fl/\fl.offset=off/\fl.type=u:=by
 unfold zl at h;split at h
 ·rename_i fs a;split at h
  ·rename_i fl hf;simp only[Option.some.injEq,Prod.mk.injEq] at h;exact⟨fs,fl,a,hf,h.1,h.2⟩
  ·cases h
 ·cases h
end ty
def bw (M:Imm) (ρ:Ren) (w:World) (cs:List D) (b p:Nat):Prop:=
 ∀ (i:Nat) (d:D),cs[i]? =some d->d.flat=true/\∃v,w.cell? ⟨b,p+i,none⟩ =some v/\rel M ρ d v
section
variable {P:Program} {w0:Base} {G:List Nat} {M:Imm} {ρ:Ren} {h:Heap} {w:World}
def Sim.holds (f:Sim w0 G M ρ h w) {b p:Nat} (c:sj M ρ cs b p):bw M ρ w cs b p:=λi d e=>by
 obtain⟨h0,v,h1,a⟩:=to c i d e;exact⟨h0,v,f.imm _ _ _ h1,a⟩
def Sim.row (m:Sim w0 G M ρ h w) (j:h.at' id=some (.row cs)) (k:ρ id=some l):bw M ρ w cs l.blk 0:=λi d g=>by
 obtain⟨n,h1,_,_,c,e,a,_,_,h3⟩:=m.live id _ j;rw[k] at h1;cases h1;obtain⟨f,v,b,h5⟩:=h3 i d g;exact⟨f,v,by simp[World.cell?,a,b],h5⟩
def Sim.trow (m:Sim w0 G M ρ h w) {full:Bool} (j:h.at' id=some (.trow u full cs)) (k:ρ id=some l):bw M ρ w cs l.blk 0:=λi d g=>by
 obtain⟨n,h1,_,_,c,e,a,_,_,h3,_⟩:=m.live id _ j;rw[k] at h1;cases h1;obtain⟨f,v,b,h5⟩:=h3 i d g;exact⟨f,v,by simp[World.cell?,a,b],h5⟩
def bw.loadCells {b p:Nat} (h:bw M ρ w cs b p) {off n:Nat} (l:off+n<=cs.length):
  ∃vs:List Value,vs.length=n/\(loadCells ⟨b,p+off,none⟩ n).run P w= .ok vs.toArray w/\yD M ρ ((cs.drop off).take n) vs/\((cs.drop off).take n).all D.flat=true/\∀ (j:Nat) (v:Value),vs[j]? =some v->w.cell? ⟨b,p+off+j,none⟩ =some v:=by
 let f:Nat->Value:=λj=>(w.cell? ⟨b,p+off+j,none⟩).getD undef
 have hf:∀j,j<n->w.cell? ((⟨b,p+off,none⟩:Addr).add j)=some (f j):=λj g=>by
  obtain⟨_,v,h1,_⟩:=h (off+j) cs[off+j] (List.getElem?_eq_getElem ow);rw[<-Nat.add_assoc] at h1;rw[qV];simp[f,h1]
 refine⟨(List.range n).map f,by simp,run_loadCells w _ n f hf,yG (by simp;omega) λi d v c a=> ?_,List.all_eq_true.2 λd c=> ?_,λj v a=> ?_⟩
 ·simp only[List.getElem?_take,List.getElem?_drop] at c;split at c
  ·rename_i e;obtain⟨_,u,h1,k⟩:=h (off+i) d c;rw[<-Nat.add_assoc] at h1;simp[e] at a;subst a;simpa [f,h1] using k
  ·cases c
 ·obtain⟨i,e⟩:=List.mem_iff_getElem?.1 c;simp only[List.getElem?_take,List.getElem?_drop] at e;split at e
  ·exact(h _ d e).1
  ·cases e
 ·simp only[List.getElem?_map] at a;by_cases g:j<n
  ·simp[g] at a;subst a;have:=hf j g
   rwa [qV] at this
  ·simp[g] at a
def bw.loadVar {b p:Nat} (g:bw M ρ w cs b p) {ag:Bool} (f:agT P t=some ag) {off:Nat} (a:zM ag (szT P t) cs off=some d):
  ∃v,(loadVar t ⟨b,p+off,none⟩).run P w= .ok v w/\rel M ρ d v:=by
 obtain⟨td,j,c⟩:=ja (w:=w) f;cases ag with
 |true=>
  simp only[zM,if_true] at a;split at a
  ·cases a
  ·split at a
   ·rename_i i;obtain⟨vs,h1,e,h3,h,_⟩:=g.loadCells (P:=P) i;cases a;refine⟨.agg vs.toArray,?_,?_⟩
    ·simp[Go.loadVar,c,pf j,e]
    ·simp only[rel];exact⟨_,rfl,by simpa using h3,h⟩
   ·cases a
 |false=>
  simp only[zM,Bool.false_eq_true,if_false] at a;obtain⟨_,v,h1,e⟩:=g off d a;exact⟨v,by simp[Go.loadVar,c,h1],e⟩
def YV (P:Program) (w0:Base) (G:List Nat) (M:Imm) (ρ:Ren) (nid:Nat) (w:World) (s:Sem Value) (d:D) (h':Heap):Prop:=
 ∃v w' M' ρ',s.run P w= .ok v w'/\MLe M M'/\RLe ρ ρ'/\(∀i,h'.next<=i\/i≠nid->ρ' i=ρ i)/\Sim w0 G M' ρ' h' w'/\rel M' ρ' d v
variable {h:Heap}
def rQ (a:(h.new nid ob).next<=i\/i≠nid):i≠nid:=by
 rcases a with a|a
 ·simp only[Heap.new] at a;omega
 ·exact a
def YV.pure {s:Sem Value} (b:Sim w0 G M ρ h w) (hr:s.run P w= .ok v w) (a:rel M ρ d v):YV P w0 G M ρ nid w s d h:=
 ⟨v,w,M,ρ,hr,MLe.refl _,RLe.refl _,λ_ _=>rfl,b,a⟩
def KA (f:Sim w0 G M ρ h w) {a d:D} (i:rel M ρ a vx) (c:sH P t a h=some d):YV P w0 G M ρ nid w (Instr.loadAt t vx) d h:=by
 unfold sH at c;split at c
 ·cases c
 ·rename_i ag e;split at c
  ·rename_i cs off;simp only[rel] at i;obtain⟨b,p,rfl,m⟩:=i;obtain⟨v,h1,g⟩:=(f.holds m).loadVar e c;exact .pure f (by simp[Instr.loadAt,Instr.sureAddr,h1]) g
  ·rename_i id off;simp only[rel] at i;obtain⟨l,k,rfl⟩:=i;split at c
   ·rename_i cs j;obtain⟨v,h1,g⟩:=(f.row j k).loadVar e c;rw[Nat.zero_add] at h1;exact .pure f (by simp[Instr.loadAt,Instr.sureAddr,h1]) g
   ·rename_i u full cs j;obtain⟨v,h1,g⟩:=(f.trow j k).loadVar e c;rw[Nat.zero_add] at h1;exact .pure f (by simp[Instr.loadAt,Instr.sureAddr,h1]) g
   ·cases c
  ·cases c
def bz (k:Sim w0 G M ρ h w) {f:Nat} (g:rel M ρ x vx) (a:t7 P t x f=some d):YV P w0 G M ρ nid w (Instr.fieldAt t vx f) d h:=by
 unfold t7 at a;split at a
 ·rename_i off s i;obtain⟨fs,fl,m,c,rfl,rfl⟩:=gG i;split at a
  ·cases a
  ·rename_i n;have j:=yE (P:=P) (w:=w) n;have e:∀b o,(fieldPlace ⟨b,o,none⟩ fl).run P w= .ok ⟨b,o+fl.offset,none⟩ w:=λb o=>by
    simp[fieldPlace,j,n,qV]
   split at a
   ·rename_i cs o;cases a;simp only[rel] at g;obtain⟨b,p,rfl,q⟩:=g;refine .pure k (v:= .pointer (some ⟨b,p+o+fl.offset,none⟩)) ?_ ?_
    ·simp[Instr.fieldAt,run_underlying m,c,Instr.sureAddr,e]
    ·simp only[rel];exact⟨b,p,by rw[Nat.add_assoc],q⟩
   ·rename_i id o;cases a;simp only[rel] at g;obtain⟨l,r,rfl⟩:=g;refine .pure k (v:= .pointer (some ⟨l.blk,o+fl.offset,none⟩)) ?_ ?_
    ·simp[Instr.fieldAt,run_underlying m,c,Instr.sureAddr,e]
    ·simp only[rel];exact⟨l,r,rfl⟩
   ·cases a
 ·cases a
def b0 (A:Sim w0 G M ρ h w) {x i d:D} (g:rel M ρ x vx) (E:rel M ρ i vy) (a:zQ P t x i=some d):YV P w0 G M ρ nid w (Instr.indexAt t vx vy) d h:=by
 unfold zQ at a;split at a
 ·rename_i k n;simp only[rel] at E;obtain⟨rfl,_⟩:=E;split at a
  ·rename_i e K;have y:=wI K;split at a
   ·rename_i sz xs tk;split at a
    ·rename_i j;split at a
     ·rename_i h0;split at a
      ·rename_i c z;cases a;have N:=g;simp only[rel] at g;obtain⟨u,s,b,p,cap,⟨O,rfl,C⟩,r,I,_⟩:=g;obtain⟨F,H⟩:=jZ I _ _ z;have L:n.toNat<xs.length:=(List.getElem?_eq_some_iff.1 z).1;obtain rfl:O=none:=C.resolve_right ow;have m:n<(xs.length:Int):=ow;have q:szT P e≠0:=ow;refine .pure A (v:= .pointer (some ⟨b,p+n.toNat*sz,none⟩)) ?_ ?_
       ·simp[Instr.indexAt,asIntOf,run_underlying y,h0,m,yE q,qV,j]
       ·simp only[rel];exact⟨b,p+n.toNat*sz,rfl,H⟩
      ·cases a
     ·cases a
    ·cases a
   ·rename_i id sz off len;split at a
    ·rename_i f;simp only[Bool.and_eq_true,decide_eq_true_eq] at f;obtain⟨⟨j,h0⟩,m⟩:=f;cases a;simp only[rel] at g;obtain⟨u,s,l,cap,o,B,rfl,r,_,Q⟩:=g;obtain rfl:o=off:=ow;have q:szT P e≠0:=ow;refine .pure A (v:= .pointer (some ⟨l.blk,o+n.toNat*sz,none⟩)) ?_ ?_
     ·simp[Instr.indexAt,asIntOf,run_underlying y,h0,m,yE q,qV,j]
     ·simp only[rel];exact⟨l,B,rfl⟩
    ·cases a
   ·cases a
  ·split at a
   ·rename_i len e J;have y:=nv J;split at a
    ·rename_i f;simp only[Bool.and_eq_true,decide_eq_true_eq] at f;obtain⟨⟨h0,m⟩,q⟩:=f;split at a
     ·rename_i cs o;cases a;simp only[rel] at g;obtain⟨b,p,rfl,z⟩:=g;refine .pure A (v:= .pointer (some ⟨b,p+o+n.toNat*szT P e,none⟩)) ?_ ?_
      ·simp[Instr.indexAt,asIntOf,run_underlying y,Instr.sureAddr,h0,m,yE q,qV]
      ·simp only[rel];exact⟨b,p,by rw[Nat.add_assoc],z⟩
     ·rename_i id o;cases a;simp only[rel] at g;obtain⟨l,B,rfl⟩:=g;refine .pure A (v:= .pointer (some ⟨l.blk,o+n.toNat*szT P e,none⟩)) ?_ ?_
      ·simp[Instr.indexAt,asIntOf,run_underlying y,Instr.sureAddr,h0,m,yE q,qV]
      ·simp only[rel];exact⟨l,B,rfl⟩
     ·cases a
    ·cases a
   ·cases a
 ·cases a
end
open List hiding max min map and or get le lt range extract
variable {M:Imm}{w:World}{h:Heap}
def yj {k:IntKind} {n:Int} (h:fits k n):rel M ρ (.int k n) (.int k n):=by simp only[rel];exact⟨trivial,h⟩
def yy (b:Bool):rel M ρ (.bool b) (.bool b):=by simp only[rel]
def wT (k:IntKind) (n:Int):fits k (k.wrap n):=by
 unfold fits IntKind.wrap;cases k<;>simp[IntKind.bits,IntKind.signed]<;>(repeat' split)<;>omega
def uK (k:IntKind) (n:Int):fits k n↔k.min<=n/\n<=k.max:=by
 unfold fits IntKind.wrap IntKind.min IntKind.max;cases k<;>simp[IntKind.bits,IntKind.signed]<;>(repeat' split)<;>omega
def QE {k:IntKind} {a b:Int} (d:fits k a):fits k (a.tmod b):=by
 rw[uK] at d⊢;have h0:(a.tmod b).natAbs<=a.natAbs:=by rw[Int.natAbs_tmod];exact Nat.mod_le _ _
 have c:0<=a->0<=a.tmod b:=λh=>Int.tmod_nonneg b h;have h3:a<=0->a.tmod b<=0:=λh=>by
  have:=Int.tmod_nonneg b (a:= -a) ow;rw[Int.neg_tmod] at this;omega
 have e:k.min<=0/\0<=k.max:=by cases k<;>simp[IntKind.min,IntKind.max,IntKind.bits,IntKind.signed]
 rcases Int.le_total 0 a with h|h
 ·have:=c h;omega
 ·have:=h3 h;omega
def QF {k:IntKind} {a:Int} (c:fits k a) (n:Nat):fits k (a.fdiv (2^n)):=by
 rw[uK] at c⊢;have e:k.min<=0/\0<=k.max:=by cases k<;>simp[IntKind.min,IntKind.max,IntKind.bits,IntKind.signed]
 have d:(1:Int)<=2^n:=Int.pow_pos ow;generalize(2:Int)^n=m at d⊢;rw[Int.fdiv_eq_ediv_of_nonneg _ ow];rcases(show a<0\/0<=a by omega) with h|h
 ·have h3:=Int.ediv_neg_of_neg_of_pos h (by omega:(0:Int)<m);have b:a<=a/m:=Int.le_ediv_of_mul_le ow (by
   have:a*m<=a*1:=Int.mul_le_mul_of_nonpos_left ow ow;omega)
  omega
 ·have h3:0<=a/m:=Int.ediv_nonneg h ow;have b:=Int.ediv_le_self m h;omega
section
variable {P:Program} {w0:Base} {G:List Nat} {M:Imm} {ρ:Ren} {h:Heap} {w:World} {nid:Nat}
def KB {op:BinOp} {k:IntKind} {a b:Int} (g:fits k a) (c:VZ op k a b=some d) (e:op≠ .shl/\op≠ .shr) (t:TypeId):
  ∃v,(binOp op t (.int k a) (.int k b)).run P w= .ok v w/\rel M ρ d v:=by
 cases op with
 |shl=>exact absurd rfl e.1
 |shr=>exact absurd rfl e.2
 |quo=>
  simp only[VZ] at c;split at c
  ·cases c
  ·rename_i f;injection c with c;subst c;exact⟨.int k (k.wrap (a.tdiv b)),by simp[binOp,Op.intDiv,f],yj (wT _ _)⟩
 |rem=>
  simp only[VZ] at c;split at c
  ·cases c
  ·rename_i f;injection c with c;subst c;exact⟨.int k (a.tmod b),by simp[binOp,Op.intDiv,f],yj (QE g)⟩
 |add=>cases c;exact⟨.int k (k.wrap (a+b)),by simp[binOp,Op.intArith],yj (wT _ _)⟩
 |sub=>cases c;exact⟨.int k (k.wrap (a-b)),by simp[binOp,Op.intArith],yj (wT _ _)⟩
 |mul=>cases c;exact⟨.int k (k.wrap (a*b)),by simp[binOp,Op.intArith],yj (wT _ _)⟩
 |and=>cases c;exact⟨.int k (k.wrap (BitVec.ofInt k.bits a &&& BitVec.ofInt k.bits b).toNat),by simp[binOp,Op.intBits],yj (wT _ _)⟩
 |or=>cases c;exact⟨.int k (k.wrap (BitVec.ofInt k.bits a |||BitVec.ofInt k.bits b).toNat),by simp[binOp,Op.intBits],yj (wT _ _)⟩
 |xor=>cases c;exact⟨.int k (k.wrap (BitVec.ofInt k.bits a ^^^ BitVec.ofInt k.bits b).toNat),by simp[binOp,Op.intBits],yj (wT _ _)⟩
 |andNot=>cases c;exact⟨.int k (k.wrap (BitVec.ofInt k.bits a &&& ~~~ BitVec.ofInt k.bits b).toNat),by simp[binOp,Op.intBits],yj (wT _ _)⟩
 |eql=>cases c;exact⟨.bool (a==b),by simp[binOp,Op.intCmp],yy _⟩
 |neq=>cases c;exact⟨.bool (a !=b),by simp[binOp,Op.intCmp],yy _⟩
 |lss=>cases c;exact⟨.bool (decide (a<b)),by simp[binOp,Op.intCmp],yy _⟩
 |leq=>cases c;exact⟨.bool (decide (a<=b)),by simp[binOp,Op.intCmp],yy _⟩
 |gtr=>cases c;exact⟨.bool (decide (a>b)),by simp[binOp,Op.intCmp],yy _⟩
 |geq=>cases c;exact⟨.bool (decide (a>=b)),by simp[binOp,Op.intCmp],yy _⟩
def Tp {op:BinOp} {k k':IntKind} {a b:Int} (f:fits k a) (c:Zs op k a b=some d) (t:TypeId):
  ∃v,(binOp op t (.int k a) (.int k' b)).run P w= .ok v w/\rel M ρ d v:=by
 unfold Zs at c;split at c
 ·cases c
 ·rename_i e;cases op<;>simp only at c<;>first
   |(injection c with c;subst c;exact⟨.int k (k.wrap (a*2^ (min b.toNat k.bits))),by simp[binOp,Op.shift,e],yj (wT _ _)⟩)
   |(injection c with c;subst c;exact⟨.int k (a.fdiv (2^ (min b.toNat k.bits))),by simp[binOp,Op.shift,e],yj (QF f _)⟩)
   |cases c
def yk (b:ByteArray):b.toList=b.data.toList:=ByteArray.toList_eq b
def KD {op:BinOp} {a b:ByteArray} (c:Lo op a.data.toList b.data.toList=some d) (t:TypeId):
  ∃v,(binOp op t (.string a) (.string b)).run P w= .ok v w/\rel M ρ d v:=by
 cases op with
 |add=>
  simp only[Lo] at c;split at c
  ·rename_i e;injection c with c;subst c;refine⟨.string (a++b),?_,?_⟩
   ·simp only[binOp];refine run_string_add_sum w a b ?_;have h1:a.size=a.data.toList.length:=by rw[Array.length_toList];rfl
    have f:b.size=b.data.toList.length:=by rw[Array.length_toList];rfl
    unfold lim at e;omega
   ·simp only[rel];exact⟨_,rfl,by simp,by simpa using e⟩
  ·cases c
 |eql=>cases c;exact⟨.bool (a.data.toList==b.data.toList),by rw[<-yk,<-yk];rfl,yy _⟩
 |neq=>cases c;exact⟨.bool (!(a.data.toList==b.data.toList)),by rw[<-yk,<-yk];rfl,yy _⟩
 |lss=>cases c;exact⟨.bool (dX a.data.toList b.data.toList),by simp only[binOp,Op.stringOp,yk,dX,Sem.run_pure],yy _⟩
 |leq=>cases c;exact⟨.bool (dX a.data.toList b.data.toList||a.data.toList==b.data.toList),by simp only[binOp,Op.stringOp,yk,dX,Sem.run_pure],yy _⟩
 |gtr=>cases c;exact⟨.bool (!(dX a.data.toList b.data.toList||a.data.toList==b.data.toList)),by simp only[binOp,Op.stringOp,yk,dX,Sem.run_pure],yy _⟩
 |geq=>cases c;exact⟨.bool (!(dX a.data.toList b.data.toList)),by simp only[binOp,Op.stringOp,yk,dX,Sem.run_pure],yy _⟩
 |_=>cases c
theorem ug:∀ {ks:List Kd} {as a:List D} {r:Bool},eqK ks as a=some r->as.length=ks.length/\a.length=ks.length
 | [],[],[],_,_=>⟨rfl,rfl⟩
 | .b::ks, .bool x::as, .bool y::a,r,h=>by
  simp only[eqK,Option.map_eq_some_iff] at h;obtain⟨q,h,_⟩:=h;have:=ug h;simp[this]
 | .i::ks, .int k x::as, .int k' y::a,r,h=>by
  simp only[eqK] at h;split at h
  ·simp only[Option.map_eq_some_iff] at h;obtain⟨q,h,_⟩:=h;have:=ug h;simp[this]
  ·cases h
 | .s::ks, .str x::as, .str y::a,r,h=>by
  simp only[eqK,Option.map_eq_some_iff] at h;obtain⟨q,h,_⟩:=h;have:=ug h;simp[this]
theorem rR:∀ {k1 k2:List Kd} {as a:List D} {r:Bool},eqK (k1++k2) as a=some r->
  ∃r1 r2,eqK k1 (as.take k1.length) (a.take k1.length)=some r1/\eqK k2 (as.drop k1.length) (a.drop k1.length)=some r2/\r=(r1&&r2)
 | [],k2,as,a,r,h=>⟨true,r,by simp[eqK],by simpa using h,by simp⟩
 | .b::k1,k2, .bool x::as, .bool y::a,r,h=>by
  simp only[cons_append,eqK,Option.map_eq_some_iff] at h;obtain⟨q,h,rfl⟩:=h;obtain⟨r1,r2,h1,c,rfl⟩:=rR h;exact⟨x==y&&r1,r2,by simp[eqK,h1],by simpa using c,by simp[Bool.and_assoc]⟩
 | .i::k1,k2, .int k x::as, .int k' y::a,r,h=>by
  simp only[cons_append,eqK] at h;split at h
  ·rename_i d;simp only[Option.map_eq_some_iff] at h;obtain⟨q,h,rfl⟩:=h;obtain⟨r1,r2,h1,c,rfl⟩:=rR h;exact⟨x==y&&r1,r2,by simp[eqK,h1,d],by simpa using c,by simp[Bool.and_assoc]⟩
  ·cases h
 | .s::k1,k2, .str x::as, .str y::a,r,h=>by
  simp only[cons_append,eqK,Option.map_eq_some_iff] at h;obtain⟨q,h,rfl⟩:=h;obtain⟨r1,r2,h1,c,rfl⟩:=rR h;exact⟨x==y&&r1,r2,by simp[eqK,h1],by simpa using c,by simp[Bool.and_assoc]⟩
def Zt {vs:Array Value} (h:yD M ρ ds vs.toList) (a n:Nat):yD M ρ ((ds.drop a).take n) (vs.extract a (a+n)).toList:=by
 have g:=zW h;refine yG ?_ λi d v b c=> ?_
 ·simp at g⊢;omega
 ·simp only[getElem?_take,getElem?_drop] at b;split at b
  ·rename_i f;obtain⟨u,h1,e⟩:=qC h (a+i) d b
   have:v=u:=by
    have h3:(vs.extract a (a+n)).toList[i]? =vs.toList[a+i]? :=by
     simp[f]
    rw[h3,h1] at c;cases c;rfl
   rw[this];exact e
  ·cases b
def oP {ag:Bool} (e:agT P t=some ag) {vs:Array Value} (hr:yD M ρ ds vs.toList) (hf:ds.all D.flat=true) {off:Nat} (a:zM ag (szT P t) ds off=some d):
  ∃v,(part t vs off).run P w= .ok v w/\rel M ρ d v:=by
 obtain⟨td,h,b⟩:=ja (w:=w) e;cases ag with
 |true=>
  simp only[zM,if_true] at a;split at a
  ·cases a
  ·split at a
   ·cases a;refine⟨.agg (vs.extract off (off+szT P t)),by simp[part,b,pf h],?_⟩;simp only[rel];exact⟨_,rfl,Zt hr off _,all_eq_true.2 λd g=>all_eq_true.1 hf d (mem_of_mem_drop (mem_of_mem_take g))⟩
   ·cases a
 |false=>
  simp only[zM,Bool.false_eq_true,if_false] at a;obtain⟨v,h1,f⟩:=qC hr off d a;refine⟨v,?_,f⟩;have c:vs[off]? =some v:=by simpa using h1
  simp[part,b,c]
def sr {d : Nat} {t : TypeId} {ks : List Kd} (h : wg P d t = some ks) (a : agT P t = some false) : ∃ c, ks = [c] := by
  cases d with
  | zero => simp [wg] at h
  | succ d =>
    unfold wg at h;unfold agT at a;cases hu : P.underlying t with
    | none => rw [hu] at h; cases h
    | some td =>
      rw [hu] at h a;cases td <;> simp only at h a <;> first
        | (split at h
           · cases h; exact ⟨_, rfl⟩
           · cases h)
        | (cases h; done)
        | (cases a; done)
theorem cN {d k : Nat} (ih : ∀ (t : TypeId) (ks : List Kd) (ag : Bool), wg P d t = some ks -> agT P t = some ag -> ∀ (J K : D) (a b : Value) (r : Bool), zV ag J = true -> zV ag K = true ->
      rel M ρ J a -> rel M ρ K b -> eqK ks J.cells K.cells = some r -> (Op.equalIn (d + k) t a b).run P w = .ok r w) :
    ∀ (fs : List Field) (off n : Nat) (ks : List Kd), hZ (wg P d) P.cellsOf fs off n = some ks -> ∀ (as p : List D) (xs ys : Array Value) (r : Bool), yD M ρ as xs.toList -> yD M ρ p ys.toList -> as.all D.flat = true -> p.all D.flat = true ->
      eqK ks (as.drop off) (p.drop off) = some r -> (Op.eqFields (d + k) xs ys fs).run P w = .ok r w
  | [], off, n, ks, j, as, p, xs, ys, r, T, U, Q, R, B => by
    simp only [hZ] at j;split at j
    · cases j
      have := ug B;cases E : as.drop off with
      | nil => cases hq' : p.drop off with
        | nil => rw [E, hq'] at B; simp [eqK] at B; simp [Op.eqFields, B]
        | cons _ _ => rw [hq'] at this; simp at this
      | cons _ _ => rw [E] at this; simp at this
    · cases j
  | f :: fs, off, n, ks, j, as, p, xs, ys, r, T, U, Q, R, B => by
    simp only [hZ] at j;split at j
    · rename_i m
      simp only [Bool.and_eq_true, bne_iff_ne, ne_eq, beq_iff_eq] at m;obtain ⟨⟨z, I⟩, Y⟩ := m;split at j
      · rename_i i h
        split at j
        · rename_i o
          simp only [beq_iff_eq] at o;simp only [Option.map_eq_some_iff] at j;obtain ⟨kr, W, rfl⟩ := j;obtain ⟨r1, r2, h1, h2, rfl⟩ := rR B;obtain ⟨ag, l⟩ : ∃ ag, agT P f.type = some ag := by
            cases hd : d with
            | zero => rw [hd] at h; simp [wg] at h
            | succ d' =>
              rw [hd] at h;unfold wg at h;unfold agT;cases hu : P.underlying f.type with
              | none => rw [hu] at h; cases h
              | some td => cases td <;> simp
          have q := ug h1;have ad : szT P f.type = i.length := o.symm;have cell : ∀ (cs : List D) (vs : Array Value), yD M ρ cs vs.toList -> cs.all D.flat = true -> ((cs.drop off).take i.length).length = i.length ->
              (∀ c, ag = false -> (cs.drop off).take i.length = [c] -> zV false c = true /\ c.cells = [c]) -> (ag = true -> i.length ≠ 0) -> (ag = false -> i.length = 1) ->
              ∃ v L, (part f.type vs f.offset).run P w = .ok v w /\ rel M ρ L v /\ zV ag L = true /\ L.cells = (cs.drop off).take i.length := by
            intro cs vs hr G C Z s F;rw [I];cases ag with
            | true =>
              have X : off + i.length <= cs.length := by
                have := s rfl;simp only [length_take, length_drop] at C; omega
              obtain ⟨v, p1, p2⟩ := oP (w := w) l hr G (off := off) (d := .agg ((cs.drop off).take i.length)) (by simp [zM, ad, s rfl, X]);exact ⟨v, _, p1, p2, rfl, rfl⟩
            | false =>
              have S := F rfl;have H : off < cs.length := by simp only [length_take, length_drop] at C; omega
              have u : (cs.drop off).take i.length = [cs[off]] := by rw [S, drop_eq_getElem_cons H, take_succ_cons, take_zero]
              obtain ⟨v, p1, p2⟩ := oP (w := w) l hr G (off := off) (d := cs[off]) (by simp [zM, H]);obtain ⟨q1, q2⟩ := Z _ rfl u;exact ⟨v, _, p1, p2, q1, by rw [q2, u]⟩
          have g : (ag = true -> i.length ≠ 0) /\ (ag = false -> i.length = 1) := by
            refine ⟨λ_ => by rw [o]; exact Y, λe => ?_⟩;subst e;obtain ⟨c, rfl⟩ := sr h l;rfl
          have x : ∀ (c e : D) (rr : Bool), ag = false -> (eqK i [c] [e] = some rr) -> (zV false c = true /\ c.cells = [c]) /\ (zV false e = true /\ e.cells = [e]) := by
            intro c e rr hf E;subst hf;obtain ⟨kk, rfl⟩ := sr h l;cases kk <;> cases c <;> cases e <;> simp [eqK, zV, D.cells] at E ⊢
          have one : ∀ cs : List D, ((cs.drop off).take i.length).length = i.length -> ag = false -> ∃ c, (cs.drop off).take i.length = [c] := by
            intro cs C hf;have := g.2 hf;rw [this] at C;exact length_eq_one_iff.1 (by rw [<- this] at C; rw [C, this])
          obtain ⟨va, N, ai, ak, au, a0⟩ := cell as xs T Q q.1 (λc hf V => by
            obtain ⟨e, y⟩ := one p q.2 hf;rw [V, y] at h1;exact (x c e r1 hf h1).1) g.1 g.2
          obtain ⟨vb, O, a1, a2, a3, a4⟩ := cell p ys U R q.2 (λc hf V => by
            obtain ⟨e, y⟩ := one as q.1 hf;rw [V, y] at h1;exact (x e c r1 hf h1).2) g.1 g.2
          have E := ih f.type i ag h l N O va vb r1 au a3 ak a2 (by rw [a0, a4]; exact h1);have A := cN ih fs (off + i.length) n kr W as p xs ys r2 T U Q R (by rw [drop_drop, drop_drop] at h2; exact h2);simp only [Op.eqFields, ne_eq, z, not_false_eq_true, if_true, Sem.run_bind, ai, a1, Result.andThen_ok, E];cases r1 with
          | true => simpa using A
          | false => simp
        · cases j
      · cases j
    · cases j
theorem X5 (k : Nat) : ∀ (d : Nat) (t : TypeId) (ks : List Kd) (ag : Bool), wg P d t = some ks -> agT P t = some ag -> ∀ (e f : D) (a b : Value) (r : Bool), zV ag e = true -> zV ag f = true ->
      rel M ρ e a -> rel M ρ f b -> eqK ks e.cells f.cells = some r -> (Op.equalIn (d + k) t a b).run P w = .ok r w
  | 0, t, ks, ag, h, _, _, _, _, _, _, _, _, _, _, _ => by simp [wg] at h
  | d + 1, t, ks, ag, h, j, e, f, a, b, r, l, m, g, rb, i => by
    rw [show d + 1 + k = (d + k) + 1 by omega];have h' := h;unfold wg at h;cases hu : P.underlying t with
    | none => rw [hu] at h; cases h
    | some td =>
      rw [hu] at h;have c : ∀ x : Bool, (match td with | .struct _ => true | .array _ _ => true | _ => false) = x -> ag = x := by
        intro x C;unfold agT at j;rw [hu] at j;cases td <;> simp_all
      cases td <;> simp only at h <;> (try (cases h; done))
      · split at h
        · cases h
          obtain rfl := c false rfl;cases e <;> simp [zV] at l <;> cases f <;> simp [zV] at m <;> simp [D.cells, eqK] at i;simp only [rel] at g rb;subst g rb i;simp [Op.equalIn, run_underlying hu]
        · cases h
      · split at h
        · cases h
          obtain rfl := c false rfl;cases e <;> simp [zV] at l <;> cases f <;> simp [zV] at m <;> simp [D.cells, eqK] at i;simp only [rel] at g rb;obtain ⟨rfl, _⟩ := g;obtain ⟨rfl, _⟩ := rb;obtain ⟨rfl, rfl⟩ := i;simp [Op.equalIn, run_underlying hu]
        · cases h
      · split at h
        · cases h
          obtain rfl := c false rfl;cases e <;> simp [zV] at l <;> cases f <;> simp [zV] at m <;> simp [D.cells, eqK] at i;simp only [rel] at g rb;obtain ⟨x, rfl, rfl, _⟩ := g;obtain ⟨y, rfl, rfl, _⟩ := rb;rw [run_equalIn_string w _ t x y hu, yk, yk, i]
        · cases h
      · rename_i fs
        split at h
        · cases h
        · rename_i q
          obtain rfl := c true rfl;cases e <;> simp [zV] at l;cases f <;> simp [zV] at m;rename_i as z;simp only [rel] at g rb;obtain ⟨xs, rfl, s, o⟩ := g;obtain ⟨ys, rfl, u, p⟩ := rb;have hf : P.fieldsOf t = fs := by simp [Program.fieldsOf, hu]
          rw [run_equalIn_struct w (d + k) t xs ys (by rw [hf]; exact hu) (by simpa using q), hf];exact cN (λB v n h1 A => X5 k d B v n h1 A) fs.toList 0 _ ks h as z xs ys r s u o p (by simpa [D.cells] using i)
end
section
variable {P:Program} {w0:Base} {G:List Nat} {M:Imm} {ρ:Ren} {h:Heap} {w:World} {nid:Nat}
def zBQ (P:Program) (w:World) (t:TypeId) (a b:Value) (r:Bool):Prop:=
 (∀o o',(eqGuard .eql t o o' a b).run P w= .ok () w/\(eqGuard .neq t o o' a b).run P w= .ok () w)/\
  (binOp .eql t a b).run P w= .ok (.bool r) w/\(binOp .neq t a b).run P w= .ok (.bool (!r)) w
def aA {a b:Value} (h1:∀o c,eqGuard .eql t o c a b=pure ()/\eqGuard .neq t o c a b=pure ())
  (e:binOp .eql t a b=do pure (.bool (<-Op.equal t a b))) (h3:binOp .neq t a b=do pure (.bool (!(<-Op.equal t a b))))
  (f:∀d,(Op.equalIn (d+1) t a b).run P w= .ok r w):zBQ P w t a b r:=by
 have h5:(Op.equal t a b).run P w= .ok r w:=f 9999;refine⟨λo c=>⟨by rw[(h1 o c).1];rfl,by rw[(h1 o c).2];rfl⟩,?_,?_⟩
 ·rw[e];simp only[Sem.run_bind,h5,Result.andThen_ok,Sem.run_pure]
 ·rw[h3];simp only[Sem.run_bind,h5,Result.andThen_ok,Sem.run_pure]
def GN {a b:Value} (c:rel M ρ x a) (e:rel M ρ y b) (f:veq (P.underlying t) x y=some r):zBQ P w t a b r:=by
 unfold veq at f;split at f<;>(try (cases f;done))<;>(injection f with f;subst f)<;>simp only[rel] at c e<;>rename_i g
 all_goals
  first
   |(subst c;subst e)
   |(subst c;obtain⟨_,_,rfl⟩:=e)
   |(subst e;obtain⟨_,_,rfl⟩:=c)
   |(subst c;obtain⟨_,_,rfl,_⟩:=e)
   |(subst e;obtain⟨_,_,rfl,_⟩:=c)
   |(subst c;obtain⟨_,_,_,_,_,⟨_,rfl,_⟩,_⟩:=e)
   |(subst e;obtain⟨_,_,_,_,_,⟨_,rfl,_⟩,_⟩:=c)
   |(subst c;obtain⟨_,_,_,_,_,rfl,_⟩:=e)
   |(subst e;obtain⟨_,_,_,_,_,rfl,_⟩:=c)
   |(subst c;obtain⟨_,_,_,_,_,_,rfl,_⟩:=e)
   |(subst e;obtain⟨_,_,_,_,_,_,rfl,_⟩:=c)
   |(subst e;obtain⟨_,_,rfl⟩:=c)
   |(subst c;obtain⟨_,_,_,_,_,rfl,_⟩:=e)
   |(subst c;obtain⟨_,_,_,rfl,_⟩:=e)
   |(subst e;obtain⟨_,_,_,rfl,_⟩:=c)
   |(subst c;obtain⟨_,_,_,_,_,rfl⟩:=e)
 all_goals
  first
   |exact aA (λo h=>⟨rfl,rfl⟩) rfl rfl (λd=>by simp[Op.equalIn,run_underlying g])
   |skip
def dh {ks:List Kd} (a:eqT P t=some ks) {as c:List D} {xs ys:Array Value} (g:yD M ρ as xs.toList/\as.all D.flat=true) (h:yD M ρ c ys.toList/\c.all D.flat=true) (i:eqK ks as c=some r):zBQ P w t (.agg xs) (.agg ys) r:=by
 unfold eqT at a;split at a
 ·rename_i fs k;split at a
  ·cases a
  ·rename_i j;have b:P.eqGuardType P.depth t=false:=by simpa using j
   have e:=λd=>X5 (P:=P) (M:=M) (ρ:=ρ) (w:=w) d 8 t ks true a (by simp[agT,k]) (.agg as) (.agg c) (.agg xs) (.agg ys) r rfl rfl (by simp only[rel];exact⟨xs,rfl,g⟩) (by simp only[rel];exact⟨ys,rfl,h⟩) i;refine⟨λo f=>⟨run_eqGuard_agg w .eql t o f xs ys b,run_eqGuard_agg w .neq t o f xs ys b⟩,?_,?_⟩
   ·rw[run_eql_struct,show(10000:Nat)=8+9992 from rfl,e];rfl
   ·rw[run_neq_struct,show(10000:Nat)=8+9992 from rfl,e];rfl
 ·cases a
def X6 (op:BinOp) (t:TypeId) (o c:Operand) (k k':IntKind) (a b:Int):eqGuard op t o c (.int k a) (.int k' b)=pure ():=by cases op<;>rfl
def X7 (op:BinOp) (t:TypeId) (o c:Operand) (a b:ByteArray):eqGuard op t o c (.string a) (.string b)=pure ():=by cases op<;>rfl
theorem GO (Y:Sim w0 G M ρ h w) {op:BinOp} {a b:Value} (o z:Operand) (A:rel M ρ x a) (n:rel M ρ y b) (c:pb P op t (isC o||isC z) x y=some d):
  YV P w0 G M ρ nid w (do eqGuard op t o z a b;binOp op t a b) d h:=by
 have m:∀v,(eqGuard op t o z a b).run P w= .ok () w->(binOp op t a b).run P w= .ok v w->rel M ρ d v->YV P w0 G M ρ nid w (do eqGuard op t o z a b;binOp op t a b) d h:=λv h1 E h3=>
  .pure Y (by simp only[Sem.run_bind,h1,Result.andThen_ok,E]) h3
 have B:∀r,zBQ P w t a b r->∀f g:Option D,f=some (.bool r)->g=some (.bool (!r))->tE op f g=some d->YV P w0 G M ρ nid w (do eqGuard op t o z a b;binOp op t a b) d h:=λr K f g hf H C=>by
  cases op<;>simp only[tE] at C<;>(try (cases C;done))
  ·rw[hf] at C;cases C;exact m _ (K.1 o z).1 K.2.1 (yy _)
  ·rw[H] at C;cases C;exact m _ (K.1 o z).2 K.2.2 (yy _)
 have other:IZ P op t x y=some d->YV P w0 G M ρ nid w (do eqGuard op t o z a b;binOp op t a b) d h:=λC=>by
  cases hr:veq (P.underlying t) x y with
  |none=>unfold IZ at C;rw[hr] at C;cases op<;>simp[tE] at C
  |some r=>exact B r (GN A n hr) _ _ (by rw[hr];rfl) (by rw[hr];rfl) C
 cases x with
 |niliface=>
  simp only[pb] at c;simp only[rel] at A;subst A;split at c
  ·simp only[rel] at n;subst n;split at c
   ·rename_i U;unfold To at c;split at c
    ·rename_i ms I;have H:∀op,(eqGuard op t o z .nilIface .nilIface).run P w= .ok () w:=λop=>by
      cases o<;>cases z<;>simp only[isC,Bool.or_self,Bool.or_true,Bool.or_false,Bool.false_eq_true,Bool.true_or] at U<;>cases op<;>rfl
     have T:∀d,(Op.equalIn (d+1) t .nilIface .nilIface).run P w= .ok true w:=λd=>by simp[Op.equalIn,run_underlying I]
     have h5:(Op.equal t .nilIface .nilIface).run P w= .ok true w:=T 9999;cases op<;>simp only[tE] at c<;>(try (cases c;done))
     ·cases c;exact m (.bool true) (H _) (by show((do pure (.bool (<-Op.equal t .nilIface .nilIface))):Sem Value).run P w=_;simp only[Sem.run_bind,h5,Result.andThen_ok,Sem.run_pure]) (yy _)
     ·cases c;exact m (.bool false) (H _) (by show((do pure (.bool (!(<-Op.equal t .nilIface .nilIface)))):Sem Value).run P w=_;simp only[Sem.run_bind,h5,Result.andThen_ok,Sem.run_pure];rfl) (yy _)
    ·cases c
   ·cases c
  ·simp only[rel] at n;obtain⟨u,rfl,_⟩:=n;rename_i ti R;unfold To at c;split at c
   ·rename_i ms I;exact B false (aA (λo z=>⟨rfl,rfl⟩) rfl rfl (λd=>by simp[Op.equalIn,run_underlying I])) _ _ rfl rfl c
   ·cases c
  ·cases c
 |iface ti R=>
  simp only[pb] at c;simp only[rel] at A;obtain⟨u,rfl,_⟩:=A;split at c
  ·simp only[rel] at n;subst n;unfold To at c;split at c
   ·rename_i ms I;exact B false (aA (λo z=>⟨rfl,rfl⟩) rfl rfl (λd=>by simp[Op.equalIn,run_underlying I])) _ _ rfl rfl c
   ·cases c
  ·cases c
 |int k p=>
  simp only[pb] at c;split at c
  ·rename_i k' q;simp only[rel] at A n;obtain⟨rfl,O⟩:=A;obtain⟨rfl,fb⟩:=n;have H:(eqGuard op t o z (.int k p) (.int k' q)).run P w= .ok () w:=by rw[X6];rfl
   have go:∀ (c:Zs op k p q=some d),YV P w0 G M ρ nid w (do eqGuard op t o z (.int k p) (.int k' q);binOp op t (.int k p) (.int k' q)) d h:=λc=>by
    obtain⟨v,h1,E⟩:=Tp (P:=P) (w:=w) (M:=M) (ρ:=ρ) (k':=k') O c t;exact m v H h1 E
   unfold sG at c;split at c
   ·exact go c
   ·exact go c
   ·rename_i h1 E;split at c
    ·rename_i W;subst W;obtain⟨v,h3,S⟩:=KB (P:=P) (w:=w) (M:=M) (ρ:=ρ) O c ⟨h1,E⟩ t;exact m v H h3 S
    ·cases c
  ·cases c
 |str s=>
  simp only[pb] at c;split at c
  ·simp only[rel] at A n;obtain⟨ba,rfl,rfl,la⟩:=A;obtain⟨bb,rfl,rfl,lb⟩:=n;obtain⟨v,h1,E⟩:=KD (P:=P) (w:=w) (M:=M) (ρ:=ρ) c t;exact m v (by rw[X7];rfl) h1 E
  ·cases c
 |agg as=>
  simp only[pb] at c;split at c
  ·rename_i Q;simp only[rel] at A n;obtain⟨xs,rfl,L⟩:=A;obtain⟨ys,rfl,N⟩:=n;split at c
   ·rename_i ks Z;cases hr:eqK ks as Q with
    |none=>unfold Tn at c;rw[hr] at c;cases op<;>simp[tE] at c
    |some r=>exact B r (dh Z L N hr) _ _ (by rw[hr];rfl) (by rw[hr];rfl) c
   ·cases c
  ·cases c
 |ptr i k=>
  simp only[pb] at c;split at c
  ·rename_i j q;split at c
   ·rename_i F;simp only[Bool.and_eq_true] at F;have e1:=Nat.eq_of_beq_eq_true F.1;have e2:=Nat.eq_of_beq_eq_true F.2;subst e1 e2;simp only[rel] at A n;obtain⟨l,X,rfl⟩:=A;obtain⟨l',J,rfl⟩:=n;rw[X] at J;cases J;unfold Ia at c;split at c
    ·rename_i e I;split at c
     ·rename_i ji V;exact B true (aA (λo z=>⟨rfl,rfl⟩) rfl rfl (λd=>by simp[Op.equalIn,run_underlying I,sizeOf,typeInfo,V,run_sameAddr_same])) _ _ rfl rfl c
     ·cases c
    ·cases c
   ·cases c
  ·exact other c
 |_=>exact other c
def CU (e:Sim w0 G M ρ h w) {op:UnOp} {a:Value} (c:rel M ρ x a) (b:vun op x=some d):YV P w0 G M ρ nid w (Op.unary op a) d h:=by
 unfold vun at b;split at b
 ·cases b;simp only[rel] at c;obtain⟨rfl,_⟩:=c;exact .pure e (by simp only[Op.unary,Op.intArith,Sem.run_pure]) (yj (wT _ _))
 ·cases b;simp only[rel] at c;subst c;exact .pure e (by simp only[Op.unary,Sem.run_pure]) (yy _)
 ·cases b
def QG (q:Sim w0 G M ρ h w) {x i d:D} (j:rel M ρ x vx) (p:rel M ρ i vy) (a:tF P t x i=some d):YV P w0 G M ρ nid w (Instr.index t vx vy) d h:=by
 unfold tF at a;split at a
 ·rename_i k n;simp only[rel] at p;obtain⟨rfl,_⟩:=p;split at a
  ·rename_i s;simp only[rel] at j;obtain⟨b,rfl,rfl,_⟩:=j;split at a
   ·rename_i z;split at a
    ·rename_i h0;split at a
     ·rename_i c g;cases a;have u:b[n.toNat]? =some c:=by
       have:b.data[n.toNat]? =some c:=by simpa using g
       rw[<-this];rfl
      refine .pure q (v:= .int .u8 c.toNat) ?_ (yj ?_)
      ·simp[Instr.index,asIntOf,run_underlying z,h0,u]
      ·rw[uK];have:=c.toNat_lt;simp[IntKind.min,IntKind.max,IntKind.signed,IntKind.bits];omega
     ·cases a
    ·cases a
   ·cases a
  ·rename_i cs;simp only[rel] at j;obtain⟨vs,rfl,o,l⟩:=j;split at a
   ·rename_i len e y;split at a
    ·rename_i ag f;split at a
     ·rename_i g;simp only[Bool.and_eq_true,decide_eq_true_eq] at g;obtain⟨v,h1,r⟩:=oP (w:=w) f o l a;obtain⟨td,m,_⟩:=ja (w:=w) f;exact .pure q (by simp[Instr.index,asIntOf,run_underlying (nv y),g,pf m,h1]) r
     ·cases a
    ·cases a
   ·cases a
  ·cases a
 ·cases a
def QH (j:Sim w0 G M ρ h w) {f off:Nat} {ag:Bool} (g:rel M ρ (.agg cs) vx) (hf:zl P t f=some (off,u)) (b:agT P u=some ag) (l:zM ag (szT P u) cs off=some d):
  YV P w0 G M ρ nid w (Instr.field t vx f) d h:=by
 obtain⟨fs,fl,k,c,rfl,rfl⟩:=gG hf;simp only[rel] at g;obtain⟨vs,rfl,e,a⟩:=g;obtain⟨v,h1,i⟩:=oP (w:=w) b e a l;exact .pure j (by simp[Instr.field,run_underlying k,c,asAgg,h1]) i
def X8 (g:Sim w0 G M ρ h w) (e:rel M ρ x vx) (a:so x i=some d):YV P w0 G M ρ nid w (Instr.extract vx i) d h:=by
 unfold so at a;split at a
 ·simp only[rel] at e;obtain⟨vs,rfl,c⟩:=e;obtain⟨v,h1,f⟩:=qC c i d a;have b:vs[i]? =some v:=by simpa using h1
  exact .pure g (by simp[Instr.extract,b]) f
 ·cases a
end
open Nat(zero_le le_refl le_trans lt_irrefl le_of_lt lt_of_lt_of_le lt_of_le_of_lt lt_succ_iff_lt_or_eq le_of_lt_succ)
section
variable {P:Program} {w0:Base} {G:List Nat} {M:Imm} {ρ:Ren} {h:Heap} {w:World} {nid:Nat}
def kS {l u:Nat} (a:wM n lo hi=some (l,u)):cK n hi=some u/\Zo u lo=some l:=by
 unfold wM at a;split at a
 ·cases a
 ·rename_i h' c;split at a
  ·cases a
  ·rename_i d b;cases a;exact⟨c,b⟩
def aB {u:Nat} (a:cK n hi=some u) {vhi:Option Value} (c:∀d,hi=some d->∃v,vhi=some v/\rel M ρ d v) (b:hi=none->vhi=none):
  (vhi=none/\u=n)\/∃k x,vhi=some (.int k x)/\0<=x/\x<=n/\u=x.toNat:=by
 cases hi with
 |none=>simp[cK] at a;exact .inl ⟨b rfl,a.symm⟩
 |some d=>
  cases d with
  |int k x=>
   simp only[cK,Bool.and_eq_true,decide_eq_true_eq] at a;split at a
   ·rename_i e;obtain⟨v,rfl,hr⟩:=c _ rfl;simp only[rel] at hr;obtain⟨rfl,_⟩:=hr;cases a;exact .inr ⟨k,x,rfl,e.1,e.2,rfl⟩
   ·cases a
  |_=>simp[cK] at a
def Vd {l:Nat} (a:Zo n lo=some l) {vlo:Option Value} (c:∀d,lo=some d->∃v,vlo=some v/\rel M ρ d v) (b:lo=none->vlo=none):
  (vlo=none/\l=0)\/∃k x,vlo=some (.int k x)/\0<=x/\x<=n/\l=x.toNat:=by
 cases lo with
 |none=>simp[Zo] at a;exact .inl ⟨b rfl,a.symm⟩
 |some d=>
  cases d with
  |int k x=>
   simp only[Zo,Bool.and_eq_true,decide_eq_true_eq] at a;split at a
   ·rename_i e;obtain⟨v,rfl,hr⟩:=c _ rfl;simp only[rel] at hr;obtain⟨rfl,_⟩:=hr;cases a;exact .inr ⟨k,x,rfl,e.1,e.2,rfl⟩
   ·cases a
  |_=>simp[Zo] at a
def uD {l u:Nat} (b:wM n lo hi=some (l,u)):l<=u/\u<=n:=by
 obtain⟨h1,a⟩:=kS b;refine⟨?_,?_⟩
 ·cases lo with
  |none=>simp[Zo] at a;omega
  |some d=>
   cases d with
   |int k x=>
    simp only[Zo,Bool.and_eq_true,decide_eq_true_eq] at a;split at a
    ·cases a;omega
    ·cases a
   |_=>simp[Zo] at a
 ·cases hi with
  |none=>simp[cK] at h1;omega
  |some d=>
   cases d with
   |int k x=>
    simp only[cK,Bool.and_eq_true,decide_eq_true_eq] at h1;split at h1
    ·cases h1;omega
    ·cases h1
   |_=>simp[cK] at h1
def sJ {n cap:Nat} {l u:Nat} (o:wM n lo hi=some (l,u)) (g:n<=cap) (f:Bool) {vlo vhi:Option Value}
  (e:∀d,lo=some d->∃v,vlo=some v/\rel M ρ d v) (b:lo=none->vlo=none) (c:∀d,hi=some d->∃v,vhi=some v/\rel M ρ d v) (a:hi=none->vhi=none):
  (Instr.sliceBounds f n cap vlo vhi none).run P w= .ok (l,u,cap) w:=by
 obtain⟨h1,m⟩:=kS o;rcases aB h1 c a with⟨rfl,rfl⟩ | ⟨k,x,rfl,h,p,rfl⟩ <;>rcases Vd m e b with⟨rfl,rfl⟩ | ⟨k',y,rfl,i,j,rfl⟩
 ·simp[Instr.sliceBounds]
 ·simp[Instr.sliceBounds,run_sliceBound w k' y _ _ i j]
 ·simp[Instr.sliceBounds,run_sliceBound w k x cap _ h ow]
 ·simp[Instr.sliceBounds,run_sliceBound w k x cap _ h ow,run_sliceBound w k' y x.toNat _ i j]
def aC {b p:Nat} (c:rn M ρ sz xs b p) (l u:Nat):rn M ρ sz ((xs.take u).drop l) b (p+l*sz):=
 ue λi x a=>by
  have h1:xs[l+i]? =some x:=by
   simp only[getElem?_drop,getElem?_take] at a;split at a
   ·exact a
   ·cases a
  have:=jZ c _ _ h1;rw[Nat.add_mul,<-Nat.add_assoc] at this;exact this
def nw {b m:D} {l u:Nat} (a:rp n lo b m=some (l,u)):cK n (some m)=some u/\cK u (some b)=some u/\Zo u lo=some l:=by
 unfold rp at a;split at a
 ·cases a
 ·rename_i h e;split at a
  ·cases a
  ·rename_i i f;split at a
   ·rename_i c;split at a
    ·cases a
    ·rename_i g d;cases a;subst c;exact⟨e,f,d⟩
   ·cases a
def ny {a m:D} {l u:Nat} (b:rp n lo a m=some (l,u)):l<=u/\u<=n:=by
 obtain⟨h1,c,h3⟩:=nw b;have k1:wM n lo (some m)=some (l,u):=by unfold wM;rw[h1];simp only;rw[h3]
 exact uD k1
def ph {n cap:Nat} {o m:D} {l u:Nat} (B:rp n lo o m=some (l,u)) (j:n<=cap) (h:Bool) {vlo:Option Value} {vhi c:Value}
  (g:∀d,lo=some d->∃v,vlo=some v/\rel M ρ d v) (a:lo=none->vlo=none) (f:rel M ρ o vhi) (A:rel M ρ m c):
  (Instr.sliceBounds h n cap vlo (some vhi) (some c)).run P w= .ok (l,u,u) w:=by
 obtain⟨h1,t,h3⟩:=nw B;rcases aB (M:=M) (ρ:=ρ) (vhi:=some c) h1 (λd e=>by cases e;exact⟨c,rfl,A⟩) (λe=>by cases e) with⟨e,_⟩ | ⟨k,x,e,q,F,p⟩
 ·cases e
 ·cases e;rcases aB (M:=M) (ρ:=ρ) (vhi:=some vhi) t (λd e=>by cases e;exact⟨vhi,rfl,f⟩) (λe=>by cases e) with⟨e,_⟩ | ⟨k',y,e,r,s,b⟩
  ·cases e
  ·cases e;rcases Vd h3 g a with⟨rfl,rfl⟩ | ⟨i,z,rfl,C,E,rfl⟩
   ·simp[Instr.sliceBounds,run_sliceBound w k x cap _ q ow,<-p,run_sliceBound w k' y u _ r s,<-b]
   ·simp[Instr.sliceBounds,run_sliceBound w k x cap _ q ow,<-p,run_sliceBound w k' y u _ r s,<-b,run_sliceBound w i z u _ C E]
def Tq (F:Sim w0 G M ρ h w) {x d L m:D} {R vhi Q:Value} {vlo:Option Value} (y:rel M ρ x R)
  (r:∀d,lo=some d->∃v,vlo=some v/\rel M ρ d v) (g:lo=none->vlo=none) (n:rel M ρ L vhi) (J:rel M ρ m Q)
  (a:X3 P t x lo L m=some d):YV P w0 G M ρ nid w (Instr.sliceAt t R vlo (some vhi) (some Q)) d h:=by
 unfold X3 at a;split at a
 ·cases a
 ·rename_i e U;split at a
  ·cases a
  ·rename_i I;have s:=wI U;have H:=yE (P:=P) (w:=w) I;have i:P.underlying t=some (.slice (P.elem t)):=by rw[s];simp[Program.elem,s]
   split at a
   ·rename_i sz xs tk;split at a
    ·rename_i E;split at a
     ·rename_i l u k;cases a;simp only[rel] at y;obtain⟨h0,z,b,p,cap,⟨O,rfl,B⟩,f,S,V⟩:=y;have c:=ph (P:=P) (w:=w) (M:=M) (ρ:=ρ) k f true r g n J;have C:=ny k;rcases B with rfl|rfl
      case inr=>
       obtain rfl:xs= []:=eq_nil_of_length_eq_zero ow;simp only[length_nil] at C;obtain rfl:u=0:=ow;obtain rfl:l=0:=ow;refine .pure F (v:= .slice (some ⟨b,p,O⟩) 0 0) ?_ ?_
       ·rw[run_sliceAt_slice (w:=w) t _ _ _ _ i];simp only[Instr.slice,Sem.run_bind,run_underlying s,Result.andThen_ok,c,H,Sem.run_pure];rfl
       ·simp only[rel];exact⟨h0,by simp,b,p,0,⟨O,rfl, .inr rfl⟩,by simp,by simp[rn],by simp⟩
      refine .pure F (v:= .slice (some ⟨b,if u=l then p else p+l*sz,none⟩) (u-l) (u-l)) ?_ ?_
      ·rw[run_sliceAt_slice (w:=w) t _ _ _ _ i];simp only[Instr.slice,Sem.run_bind,run_underlying s,Result.andThen_ok,c,H,Sem.run_pure];congr 2;split<;>simp[qV,<-E]
      ·simp only[rel];have j:((xs.take u).drop l).length=u-l:=by simp only[length_drop,length_take];omega
       refine⟨h0,by omega,b,_,_,by rw[j];exact QD.mk _ _ _ _,by omega,?_,j.symm⟩;by_cases T:u=l
       ·have:(xs.take u).drop l= []:=by apply eq_nil_of_length_eq_zero;omega
        rw[this];simp[rn]
       ·rw[iq T];exact aC S l u
     ·cases a
    ·cases a
   ·rename_i id sz off len;split at a
    ·rename_i E;split at a
     ·rename_i l u k;split at a
      ·rename_i A;cases a;simp only[rel] at y;obtain⟨h0,z,N,cap,o,W,rfl,f,K,X⟩:=y;have c:=ph (P:=P) (w:=w) (M:=M) (ρ:=ρ) k f.1 true r g n J;refine .pure F (v:= .slice (some ⟨N.blk,o,none⟩) 0 0) ?_ ?_
       ·rw[run_sliceAt_slice (w:=w) t _ _ _ _ i];simp only[Instr.slice,Sem.run_bind,run_underlying s,Result.andThen_ok,c,H,Sem.run_pure];rw[ip A.symm,A,Nat.sub_self]
       ·simp only[rel];exact⟨h0,by simp,N.blk,o,0,QD.mk _ _ _ _,le_refl _,by simp[rn],rfl⟩
      ·cases a
     ·cases a
    ·cases a
   ·split at a
    ·rename_i q k;cases a;simp only[rel] at y;subst y;obtain⟨l,u⟩:=q;have c:=ph (P:=P) (w:=w) (M:=M) (ρ:=ρ) k (le_refl 0) true r g n J;have B:=ny k;obtain rfl:l=0:=ow;obtain rfl:u=0:=ow;refine .pure F (v:= .slice none 0 0) ?_ (by simp only[rel]);rw[run_sliceAt_slice (w:=w) t _ _ _ _ i];simp only[Instr.slice,Sem.run_bind,run_underlying s,Result.andThen_ok,c,H,Sem.run_pure];rfl
    ·cases a
   ·cases a
theorem QI (F:Sim w0 G M ρ h w) {vlo vhi:Option Value} (B:rel M ρ x vx)
  (y:∀d,lo=some d->∃v,vlo=some v/\rel M ρ d v) (j:lo=none->vlo=none) (r:∀d,hi=some d->∃v,vhi=some v/\rel M ρ d v) (i:hi=none->vhi=none)
  (a:pc P t x lo hi none=some d):YV P w0 G M ρ nid w (Instr.sliceAt t vx vlo vhi none) d h:=by
 simp only[pc] at a;split at a
 ·rename_i s;split at a
  ·rename_i f;split at a
   ·rename_i l u k;cases a;simp only[rel] at B;obtain⟨b,rfl,rfl,A⟩:=B;have n:b.size=b.data.toList.length:=by rw[Array.length_toList];rfl
    rw[<-n] at k;have c:=sJ (P:=P) (w:=w) (M:=M) (ρ:=ρ) k (le_refl _) false y j r i;have z:=uD k;refine .pure F (v:= .string (b.extract l u)) ?_ ?_
    ·rw[run_sliceAt_string (w:=w) t _ _ _ _ f];simp only[Instr.slice,Sem.run_bind,run_underlying f,Result.andThen_ok,Option.isSome_none,Bool.false_eq_true,if_false,c,Sem.run_pure]
    ·simp only[rel];refine⟨_,rfl,?_,?_⟩
     ·simp[ByteArray.data_extract,drop_take]
     ·simp only[length_drop,length_take];omega
   ·cases a
  ·cases a
 ·rename_i sz xs tk;split at a
  ·rename_i e D;split at a
   ·rename_i n;split at a
    ·rename_i l u k;cases a;simp only[rel] at B;obtain⟨h0,A,b,p,cap,⟨R,rfl,z⟩,m,S,O⟩:=B;have c:=sJ (P:=P) (w:=w) (M:=M) (ρ:=ρ) k m true y j r i;have H:=uD k;have f:=wI D;have J:=yE (P:=P) (w:=w) (t:=e) ow;rcases z with rfl|rfl
     case inr=>
      obtain rfl:xs= []:=eq_nil_of_length_eq_zero ow;simp only[length_nil] at H;obtain rfl:u=0:=ow;obtain rfl:l=0:=ow;refine .pure F (v:= .slice (some ⟨b,p,R⟩) 0 0) ?_ ?_
      ·have g:P.underlying t=some (.slice (P.elem t)):=by rw[f];simp[Program.elem,f]
       rw[run_sliceAt_slice (w:=w) t _ _ _ _ g];simp only[Instr.slice,Sem.run_bind,run_underlying f,Result.andThen_ok,c,J,Sem.run_pure];rfl
      ·simp only[rel];refine⟨h0,by simp,b,p,0,⟨R,rfl, .inr rfl⟩,by simp,by simp[rn],?_⟩;cases tk<;>simp[X2]
     refine .pure F (v:= .slice (some ⟨b,if cap=l then p else p+l*sz,none⟩) (u-l) (cap-l)) ?_ ?_
     ·have g:P.underlying t=some (.slice (P.elem t)):=by rw[f];simp[Program.elem,f]
      rw[run_sliceAt_slice (w:=w) t _ _ _ _ g];simp only[Instr.slice,Sem.run_bind,run_underlying f,Result.andThen_ok,c,J,Sem.run_pure];congr 2;split<;>simp[qV,<-n]
     ·simp only[rel];have E:((xs.take u).drop l).length=u-l:=by simp only[length_drop,length_take];omega
      refine⟨h0,by omega,b,_,_,by rw[E];exact QD.mk _ _ _ _,by omega,?_,?_⟩
      ·by_cases K:cap=l
       ·have:(xs.take u).drop l= []:=by apply eq_nil_of_length_eq_zero;omega
        rw[this];simp[rn]
       ·rw[iq K];exact aC S l u
      ·cases tk with
       |no=>simp only[X2]
       |own t=>simp only[X2]
       |full=>
        simp only at O;by_cases C:u=xs.length
        ·simp only[X2,C,if_true,take_length,length_drop];omega
        ·simp only[X2,C,if_false]
    ·cases a
   ·cases a
  ·cases a
 ·rename_i id sz off len;split at a
  ·rename_i e D;split at a
   ·rename_i n;split at a
    ·rename_i l u k;cases a;simp only[rel] at B;obtain⟨h0,A,Q,cap,o,T,rfl,m,N,I⟩:=B;have c:=sJ (P:=P) (w:=w) (M:=M) (ρ:=ρ) k m.1 true y j r i;have z:=uD k;have f:=wI D;have J:=yE (P:=P) (w:=w) (t:=e) ow;refine .pure F (v:= .slice (some ⟨Q.blk,if cap=l then o else o+l*sz,none⟩) (u-l) (cap-l)) ?_ ?_
     ·have g:P.underlying t=some (.slice (P.elem t)):=by rw[f];simp[Program.elem,f]
      rw[run_sliceAt_slice (w:=w) t _ _ _ _ g];simp only[Instr.slice,Sem.run_bind,run_underlying f,Result.andThen_ok,c,J,Sem.run_pure];congr 2;split<;>simp[qV,<-n]
     ·simp only[rel];refine⟨h0,by omega,Q,cap-l,_,T,rfl,by omega,?_,?_⟩
      ·have:(cap-l)*sz+l*sz=cap*sz:=by rw[<-Nat.add_mul];congr 1;omega
       omega
      ·by_cases K:cap=l
       ·left;omega
       ·right;rw[iq K];rcases I with I|I
        ·omega
        ·rw[I]
    ·cases a
   ·cases a
  ·cases a
 ·split at a
  ·rename_i e D;split at a
   ·cases a
   rename_i L;split at a
   ·rename_i q k;cases a;simp only[rel] at B;subst B;have c:=sJ (P:=P) (w:=w) (M:=M) (ρ:=ρ) k (le_refl 0) true y j r i;have z:=uD k;have f:=wI D;obtain⟨l,u⟩:=q;obtain rfl:l=0:=ow;obtain rfl:u=0:=ow;refine .pure F (v:= .slice none 0 0) ?_ (by simp only[rel]);have g:P.underlying t=some (.slice (P.elem t)):=by rw[f];simp[Program.elem,f]
    rw[run_sliceAt_slice (w:=w) t _ _ _ _ g];have U:=yE (P:=P) (w:=w) L;simp only[Instr.slice,Sem.run_bind,run_underlying f,Result.andThen_ok,c,U,Sem.run_pure];rfl
   ·cases a
  ·cases a
 ·cases a
theorem qg (sz:Nat):∀ (n:Nat) (cs:List D),(yH sz n cs).length=n
 |0,_=>rfl
 |n+1,cs=>by simp[yH,qg sz n]
theorem gH (sz:Nat):∀ (n:Nat) (ds:List D),yH sz n (ds.take (n*sz))=yH sz n ds
 |0,_=>rfl
 |n+1,ds=>by
  simp only[yH];rw[take_take,Nat.min_eq_left (by rw[Nat.succ_mul];omega),drop_take,show(n+1)*sz-sz=n*sz by rw[Nat.succ_mul];omega,gH sz n]
variable {M:Imm}
theorem pi {sz b:Nat} :∀ (n:Nat) {ds:List D} {p:Nat},ds.length=n*sz->sj M ρ ds b p->rn M ρ sz (yH sz n ds) b p
 |0,_,_,_,_=>trivial
 |n+1,ds,p,f,h=>by
  have g:ds.length=n*sz+sz:=by rw[f,Nat.succ_mul]
  have c:=to h;simp only[yH,rn];refine⟨by simp;omega,yu λi d a=> ?_,pi n (by simp;omega) (yu λi d a=> ?_)⟩
  ·rw[getElem?_take] at a;split at a
   ·exact c i d a
   ·cases a
  ·rw[getElem?_drop] at a;obtain⟨h1,v,e,h3⟩:=c _ d a;exact⟨h1,v,by rw[<-e];congr 1;omega,h3⟩
def Ts (hs:Sim w0 G M ρ h w) {t e:TypeId} {n:Nat} {x d:D} {lo hi:Option D} {vx:Value} {vlo vhi:Option Value} (ht:cJ P t=some (n,e)) (hx:rel M ρ x vx)
  (hlo:∀d,lo=some d->∃v,vlo=some v/\rel M ρ d v) (hlo':lo=none->vlo=none) (hhi:∀d,hi=some d->∃v,vhi=some v/\rel M ρ d v) (hhi':hi=none->vhi=none)
  (hv:bu P n e x lo hi h=some d):YV P w0 G M ρ nid w (Instr.sliceAt t vx vlo vhi none) d h:=by
 unfold bu at hv;split at hv
 ·rename_i hc;simp only[Bool.and_eq_true,decide_eq_true_eq] at hc;obtain⟨h0,hlim⟩:=hc;have hu:=nv ht;have hz:=yE (P:=P) (w:=w) (t:=e) ow;split at hv
  ·cases hv
  ·rename_i l u hb;have hrun:=sJ (P:=P) (w:=w) (M:=M) (ρ:=ρ) hb (le_refl _) false hlo hlo' hhi hhi';have hsp:=uD hb;split at hv
   ·rename_i id off;split at hv
    ·rename_i cs hi';split at hv
     ·rename_i hle;cases hv;simp only[rel] at hx;obtain⟨lc,hl,rfl⟩:=hx;obtain⟨lc',h1,_,hM,c,ty,hw,hls,hlen,_⟩:=hs.live id _ hi';rw[hl] at h1;cases h1;refine .pure hs (v:= .slice (some ⟨lc.blk,if n=l then off else off+l*szT P e,none⟩) (u-l) (n-l)) ?_ ?_
      ·simp only[Instr.sliceAt,Sem.run_bind,run_underlying hu,Result.andThen_ok,Instr.sureAddr,Sem.run_pure,hrun,hz];congr 2;split<;>simp[qV]
      ·simp only[rel];refine⟨h0,by omega,lc,n-l,_,hl,rfl,⟨by omega,by unfold maxLen;unfold lim at *;omega⟩,?_,?_⟩
       ·have:(n-l)*szT P e+l*szT P e=n*szT P e:=by rw[<-Nat.add_mul];congr 1;omega
        omega
       ·by_cases hcc:n=l
        ·left;omega
        ·right;rw[iq hcc]
     ·cases hv
    ·cases hv
   ·rename_i cs off;split at hv
    ·rename_i hle;cases hv;simp only[rel] at hx;obtain⟨b,p,rfl,hC⟩:=hx;have hg:=to hC;have hE:rn M ρ (szT P e) (yH (szT P e) n ((cs.drop off).take (n*szT P e))) b (p+off):=pi _ (by simp;omega) (yu λi d hi=>by
      rw[getElem?_take] at hi;split at hi
      ·rw[getElem?_drop] at hi;obtain⟨g1,v,g2,g3⟩:=hg _ d hi;exact⟨g1,v,by rw[<-g2];congr 1;omega,g3⟩
      ·cases hi)
     have hch:yH (szT P e) n ((cs.drop off).take (n*szT P e))=yH (szT P e) n (cs.drop off):=gH _ _ _;rw[hch] at hE;refine .pure hs (v:= .slice (some ⟨b,if n=l then p+off else p+off+l*szT P e,none⟩) (u-l) (n-l)) ?_ ?_
     ·simp only[Instr.sliceAt,Sem.run_bind,run_underlying hu,Result.andThen_ok,Instr.sureAddr,Sem.run_pure,hrun,hz];congr 2;split<;>simp[qV]
     ·have hl2:(((yH (szT P e) n (cs.drop off)).take u).drop l).length=u-l:=by rw[length_drop,length_take,qg];omega
      simp only[rel];refine⟨h0,by omega,b,_,n-l,by rw[hl2];exact QD.mk _ _ _ _,by omega,?_,?_⟩
      ·by_cases hcc:n=l
       ·have:((yH (szT P e) n (cs.drop off)).take u).drop l= []:=by apply eq_nil_of_length_eq_zero;omega
        rw[this];simp[rn]
       ·rw[iq hcc];exact aC hE l u
      ·by_cases hun:u=n
       ·rw[ip hun];simp only;omega
       ·rw[iq hun];trivial
    ·cases hv
   ·cases hv
 ·cases hv
def Ve {b:Nat} (hr:yD M ρ ds vs) (hf:ds.all D.flat=true) (hM:∀o,M b o=none):sj (rM M b 0 vs) ρ ds b 0:=
 yu λi d a=>by
  obtain⟨v,h1,c⟩:=qC hr i d a;exact⟨all_eq_true.1 hf d (mem_of_getElem? a),v,bv h1,qU (rq λo _=>hM o) (RLe.refl _) _ _ c⟩
def wD (hr:rel M ρ d v):yD M ρ d.cells v.cells.toList:=by
 cases d<;>first
  |(simp only[rel] at hr;obtain⟨vs,rfl,h,_⟩:=hr;simpa [D.cells,Value.cells] using h;done)
  |skip
 all_goals
  have b:v.cells= #[v]:=by
   simp only[rel] at hr
   first
    |(subst hr;rfl)
    |(obtain⟨rfl,_⟩:=hr;rfl)
    |(obtain⟨_,rfl,_⟩:=hr;rfl)
    |(obtain⟨_,_,rfl⟩:=hr;rfl)
    |(obtain⟨_,_,rfl,_⟩:=hr;rfl)
    |(obtain⟨_,_,_,_,_,⟨_,rfl,_⟩,_⟩:=hr;rfl)
    |(obtain⟨_,_,_,_,_,rfl,_⟩:=hr;rfl)
    |(obtain⟨_,_,_,_,_,_,rfl,_⟩:=hr;rfl)
    |(obtain⟨_,_,_,rfl,_⟩:=hr;rfl)
  rw[b];simp only[D.cells];exact yG (by simp) λi d u h1 a=>by
   cases i with
   |zero=>simp at h1 a;subst h1 a;exact hr
   |succ i=>simp at h1
def wa (hr:rel M ρ d v) (a:d.notTuple=true):d.cells.all D.flat=true:=by
 cases d with
 |agg cs=>simp only[rel] at hr;exact(by obtain⟨_,_,_,h⟩:=hr;exact h)
 |tuple cs=>cases a
 |_=>rfl
def lP (t:TypeId) (v:Value):(newVar t v).run P w= .ok ⟨w.heap.size,0,none⟩ (w.alloc (.cells v.cells t)):=by
 simp[newVar,newRow]
def X9 (c:Sim w0 G M ρ h w) (d:rel M ρ x v) (e:x.notTuple=true):YV P w0 G M ρ nid w (Instr.box t v) (.iptr x.cells 0) h:=by
 have b:∀o,M w.heap.size o=none:=c.none_at (le_refl _);have a:=c.allocImm v.cells t v.cells.size;rw[show v.cells.toList.take v.cells.size=v.cells.toList by rw[<-Array.length_toList];exact take_length] at a;refine⟨.pointer (some ⟨w.heap.size,0,none⟩),_,rM M w.heap.size 0 v.cells.toList,ρ,?_,rq λo _=>b o,RLe.refl _,λ_ _=>rfl,a,?_⟩
 ·simp[Instr.box,lP]
 ·simp only[rel];exact⟨w.heap.size,0,rfl,Ve (wD d) (wa d e) b⟩
variable {w:World}
def oQ {c:Array Value} (hM:∀o,M l.blk o=none) (h:w.heap[l.blk]? =some (.cells c t (0,0))) (f:l.size=c.size) (b:ds.length<=c.size)
  (hr:yD M ρ ds (c.toList.take ds.length)) (hf:ds.all D.flat=true):qX M ρ w l (.row ds):=
 ⟨hM,c,t,h,f,b,λi d a=>by
  obtain⟨v,h1,g⟩:=qC hr i d a;have e:i<ds.length:=(List.getElem?_eq_some_iff.1 a).1;exact⟨all_eq_true.1 hf d (mem_of_getElem? a),v,by simpa [getElem?_take,e] using h1,g⟩⟩
def Sim.newRow (d:Sim w0 G M ρ h w) (b:ρ nid=none) {c:Array Value} (t:TypeId) (a:ds.length<=c.size) (hr:yD M ρ ds (c.toList.take ds.length)) (hf:ds.all D.flat=true):
  Sim w0 G M (uf ρ nid ⟨w.heap.size,0,c.size⟩) (h.new nid (.row ds)) (w.alloc (.cells c t)):=by
 refine d.allocObj b _ _ _ rfl (oQ (l:=⟨w.heap.size,0,c.size⟩) (d.none_at (le_refl _)) (t:=t) (c:=c) ?_ rfl a ?_ hf)
 ·show(w.heap.push _)[w.heap.size]? =_;simp
 ·have:=wR (MLe.refl M) (qL (l:=⟨w.heap.size,0,c.size⟩) b) _ _ hr;exact this
def rt {c:Array Value} {full:Bool} (hM:∀o,M l.blk o=none) (g:w.heap[l.blk]? =some (.cells c t (0,0))) (f:l.size=c.size) (d:ds.length<=c.size) (b:full=true->c.size=ds.length)
  (hr:yD M ρ ds (c.toList.take ds.length)) (hf:ds.all D.flat=true):qX M ρ w l (.trow t full ds):=by
 obtain⟨h0,c',e,h1,h,h3,i⟩:=oQ hM g f d hr hf;have a:=h1;rw[g] at a;cases a;exact⟨h0,c,t,h1,h,h3,i,rfl,b⟩
def Sim.newTRow (e:Sim w0 G M ρ h w) (d:ρ nid=none) {c:Array Value} (t:TypeId) (full:Bool) (b:ds.length<=c.size) (a:full=true->c.size=ds.length) (hr:yD M ρ ds (c.toList.take ds.length)) (hf:ds.all D.flat=true):
  Sim w0 G M (uf ρ nid ⟨w.heap.size,0,c.size⟩) (h.new nid (.trow t full ds)) (w.alloc (.cells c t)):=by
 refine e.allocObj d _ _ _ rfl (rt (l:=⟨w.heap.size,0,c.size⟩) (e.none_at (le_refl _)) (t:=t) (c:=c) ?_ rfl b a ?_ hf)
 ·show(w.heap.push _)[w.heap.size]? =_;simp
 ·have:=wR (MLe.refl M) (qL (l:=⟨w.heap.size,0,c.size⟩) d) _ _ hr;exact this
def Zu (k:Sim w0 G M ρ h w) (e:ρ nid=none) (f:rel M ρ x v) (l:x.notTuple=true):YV P w0 G M ρ nid w (Instr.box t v) (.ptr nid 0) (h.new nid (.trow t true x.cells)):=by
 have d:=wD f;have j:=zW d;have a:x.cells.length=v.cells.size:=by rw[<-j];simp
 have b:=k.newTRow e t true (ds:=x.cells) (c:=v.cells) ow (λ_=>a.symm) (by rw[a,<-Array.length_toList,take_length];exact d) (wa f l);refine⟨.pointer (some ⟨w.heap.size,0,none⟩),_,M,_,?_,MLe.refl _,qL e,λi g=>by simp[uf,rQ g],b,?_⟩
 ·simp[Instr.box,lP]
 ·simp only[rel];exact⟨_,by simp[uf];rfl,rfl⟩
def gI (k:Sim w0 G M ρ h w) (e:ρ nid=none) (f:rel M ρ x v) (l:x.notTuple=true):YV P w0 G M ρ nid w (Instr.box t v) (.ptr nid 0) (h.new nid (.row x.cells)):=by
 have d:=wD f;have j:=zW d;have a:x.cells.length=v.cells.size:=by rw[<-j];simp
 have b:=k.newRow e t (ds:=x.cells) (c:=v.cells) ow (by rw[a,<-Array.length_toList,take_length];exact d) (wa f l);refine⟨.pointer (some ⟨w.heap.size,0,none⟩),_,M,_,?_,MLe.refl _,qL e,λi g=>by simp[uf,rQ g],b,?_⟩
 ·simp[Instr.box,lP]
 ·simp only[rel];exact⟨_,by simp[uf];rfl,rfl⟩
end
section
variable {P:Program} {w0:Base} {G:List Nat} {M:Imm} {ρ:Ren} {h:Heap} {w:World} {nid:Nat}
def QJ (v:Value) (h:rO v=true) (a:v.oneCell'=true):(cst v).flat=true:=by
 unfold rO at h;split at h<;>(first|rfl|cases a|cases h)
theorem Vg:∀ (vs:List Value),hP vs=true->vs.all (·.oneCell')=true->(L8 vs).all D.flat=true
 | [],_,_=>by simp[L8]
 |v::vs,h,a=>by
  simp only[all_cons,Bool.and_eq_true] at a;simp only[hP,Bool.and_eq_true] at h;simp only[L8,all_cons,Bool.and_eq_true];exact⟨QJ v h.1 a.1,Vg vs h.2 a.2⟩
mutual
theorem WA:∀ (v:Value),rO v=true->rel M ρ (cst v) v
 | .bool b,_=>by simp only[cst,rel]
 | .int k n,h=>by simp only[rO,beq_iff_eq] at h;simp only[cst];exact yj h
 | .string s,h=>by simp only[rO,decide_eq_true_eq] at h;simp only[cst,rel];exact⟨s,rfl,rfl,h⟩
 | .pointer none,_=>by simp only[cst,rel]
 | .pointer (some _),h=>by simp[rO] at h
 | .slice none 0 0,_=>by simp only[cst,rel]
 | .slice none 0 (_+1),h=>by simp[rO] at h
 | .slice none (_+1) _,h=>by simp[rO] at h
 | .slice (some _) _ _,h=>by simp[rO] at h
 | .map none,_=>by simp only[cst,rel]
 | .map (some _),h=>by simp[rO] at h
 | .nilFunc,_=>by simp only[cst,rel]
 | .nilIface,_=>by simp only[cst,rel]
 | .agg cs,h=>by simp only[rO,Bool.and_eq_true] at h;simp only[cst,rel];exact⟨cs,rfl,aD cs.toList h.1,Vg cs.toList h.1 h.2⟩
 | .tuple cs,h=>by simp only[rO] at h;simp only[cst,rel];exact⟨cs,rfl,aD cs.toList h⟩
 | .float _ _,h=>by simp[rO] at h
 | .complex _ _ _,h=>by simp[rO] at h
 | .chan _,h=>by simp[rO] at h
 | .func _ _ _,h=>by simp[rO] at h
 | .iface _ _,h=>by simp[rO] at h
theorem aD:∀ (vs:List Value),hP vs=true->yD M ρ (L8 vs) vs
 | [],_=>by simp only[L8,yD]
 |v::vs,h=>by
  simp only[hP,Bool.and_eq_true] at h;simp only[L8,yD];exact⟨v,vs,rfl,WA v h.1,aD vs h.2⟩
end
def uE (a:qK P t=some z):∃i v,P.info? t=some i/\i.zero=some v/\rel M ρ z v/\(zeroValue t).run P w= .ok v w:=by
 unfold qK at a;cases c:P.info? t with
 |none=>rw[c] at a;cases a
 |some i=>
  rw[c] at a;simp only[Option.bind_some] at a;cases b:i.zero with
  |none=>rw[b] at a;cases a
  |some v=>
   rw[b] at a;simp only at a;split at a
   ·rename_i d;cases a;exact⟨i,v,rfl,b,WA v d,by simp[zeroValue,typeInfo,c,b]⟩
   ·cases a
def WB (t:TypeId) (cs:List D):lO t cs= .row cs\/lO t cs= .trow t true cs:=by
 unfold lO;split
 ·exact .inl rfl
 ·split
  ·split
   ·exact .inl rfl
   ·split
    ·split
     ·exact .inr rfl
     ·exact .inl rfl
    ·exact .inl rfl
  ·exact .inl rfl
def QK (c:Sim w0 G M ρ h w) (b:ρ nid=none) (g:qK P t=some z) (d:z.notTuple=true):YV P w0 G M ρ nid w (Instr.alloc t true (.tuple #[])) (.ptr nid 0) (h.new nid (lO t z.cells)):=by
 obtain⟨i,v,_,_,hr,a⟩:=uE (M:=M) (ρ:=ρ) (w:=w) g;obtain⟨u,j,M',k,h1,f⟩:YV P w0 G M ρ nid w (Instr.box t v) (.ptr nid 0) (h.new nid (lO t z.cells)):=by
  rcases WB t z.cells with e|e
  ·rw[e];exact gI (P:=P) c b (t:=t) hr d
  ·rw[e];exact Zu (P:=P) c b (t:=t) hr d
 refine⟨u,j,M',k,?_,f⟩;rw[<-h1];simp[Instr.alloc,Instr.box,a]
def kT (hr:rel M ρ d v) (hf:d.flat=true):v.oneCell'=true:=by
 cases d<;>simp[D.flat] at hf<;>simp only[rel] at hr<;>first
  |(subst hr;rfl)
  |(obtain⟨rfl,_⟩:=hr;rfl)
  |(obtain⟨_,rfl,_⟩:=hr;rfl)
  |(obtain⟨_,_,rfl⟩:=hr;rfl)
  |(obtain⟨_,_,rfl,_⟩:=hr;rfl)
  |(obtain⟨_,_,_,_,_,⟨_,rfl,_⟩,_⟩:=hr;rfl)
  |(obtain⟨_,_,_,_,_,rfl,_⟩:=hr;rfl)
  |(obtain⟨_,_,_,_,_,_,rfl,_⟩:=hr;rfl)
  |(obtain⟨_,_,_,rfl,_⟩:=hr;rfl)
theorem wb:∀ {ds:List D} {vs:List Value},yD M ρ ds vs->ds.all D.flat=true->∀v∈vs,v.oneCell'=true
 | [],_,h,_,v,a=>by simp only[yD] at h;subst h;simp at a
 |d::ds,_,h,hf,v,a=>by
  simp only[yD] at h;obtain⟨u,c,rfl,h1,b⟩:=h;simp only[all_cons,Bool.and_eq_true] at hf;rcases mem_cons.1 a with rfl|a
  ·exact kT h1 hf.1
  ·exact wb b hf.2 v a
def oR {off:Nat} (h1:cs.all D.flat=true) (b:ds.all D.flat=true):(yU cs ds off).all D.flat=true:=by
 unfold yU;rw[all_append,all_append];simp only[Bool.and_eq_true];exact⟨⟨all_eq_true.2 λd a=>all_eq_true.1 h1 d (mem_of_mem_take a),b⟩,all_eq_true.2 λd a=>all_eq_true.1 h1 d (mem_of_mem_drop a)⟩
def qr (l m:List α) (a:Nat) (c:a+m.length<=l.length) (i:Nat):
  (l.take a++m++l.drop (a+m.length))[i]? =if i<a then l[i]? else if i<a+m.length then m[i-a]? else l[i]? :=by
 have h1:(l.take a).length=a:=by simp;omega
 by_cases b:i<a
 ·rw[ip b,append_assoc,getElem?_append_left ow,getElem?_take,ip b]
 ·rw[iq b,append_assoc,getElem?_append_right ow,h1];by_cases h3:i<a+m.length
  ·rw[ip h3,getElem?_append_left ow]
  ·rw[iq h3,getElem?_append_right ow,getElem?_drop];congr 1;omega
def ru {as ds:List D} {xs vs:List Value} {off:Nat} (e:yD M ρ as xs) (g:yD M ρ ds vs) (j:off+ds.length<=as.length):
  yD M ρ (yU as ds off) (xs.take off++vs++xs.drop (off+vs.length)):=by
 have h1:=zW e;have h:=zW g;refine yG ?_ λi d v c a=> ?_
 ·simp[yU];omega
 ·unfold yU at c;rw[qr _ _ _ j] at c;rw[qr _ _ _ ow,h] at a;split at c
  ·rename_i f;rw[ip f] at a;obtain⟨u,e1,e2⟩:=qC e i d c;rw[e1] at a;cases a;exact e2
  ·rename_i f;rw[iq f] at a;split at c
   ·rename_i b;rw[ip b] at a;obtain⟨u,e1,e2⟩:=qC g _ d c;rw[e1] at a;cases a;exact e2
   ·rename_i b;rw[iq b] at a;obtain⟨u,e1,e2⟩:=qC e i d c;rw[e1] at a;cases a;exact e2
def Sim.setRow (k:Sim w0 G M ρ h w) {cs cs':List D} (i:h.at' id=some (.row cs)) (j:ρ id=some l) {c c':Array Value} (g:w.heap[l.blk]? =some (.cells c t (0,0)))
  (f:c'.size=c.size) (a:cs'.length<=c'.size) (hr:yD M ρ cs' (c'.toList.take cs'.length)) (hf:cs'.all D.flat=true):Sim w0 G M ρ (h.set id (.row cs')) (w.setRow l.blk c'):=by
 obtain⟨r,h1,_,hM,p,q,h3,m,_,_⟩:=k.live id _ i;rw[j] at h1;cases h1;rw[g] at h3;cases h3;refine k.put i j (setRow_os w _ _) (setRow_tape w _ _) (setRow_output w _ _) (setRow_size w _ _) (λb n=>setRow_other w _ _ _ n) (λo v e=>by rw[hM o] at e;cases e) ⟨_,g,λd=>by simp⟩ ?_;exact oQ hM (setRow_heap w _ _ c' t (0,0) g) (by rw[m,f]) a hr hf
def Sim.setTRow (m:Sim w0 G M ρ h w) {full:Bool} {cs cs':List D} (j:h.at' id=some (.trow u full cs)) (k:ρ id=some l) {c c':Array Value} (i:w.heap[l.blk]? =some (.cells c t (0,0)))
  (a:c'.size=c.size) (f:cs'.length<=c'.size) (g:cs'.length=cs.length) (hr:yD M ρ cs' (c'.toList.take cs'.length)) (hf:cs'.all D.flat=true):Sim w0 G M ρ (h.set id (.trow u full cs')) (w.setRow l.blk c'):=by
 obtain⟨y,h1,_,hM,s,x,h3,n,_,_,p,q⟩:=m.live id _ j;rw[k] at h1;cases h1;rw[i] at h3;cases h3;refine m.put j k (setRow_os w _ _) (setRow_tape w _ _) (setRow_output w _ _) (setRow_size w _ _) (λb r=>setRow_other w _ _ _ r) (λo v e=>by rw[hM o] at e;cases e) ⟨_,i,λd=>by simp⟩ ?_;subst p;exact rt hM (setRow_heap w _ _ c' t (0,0) i) (by rw[n,a]) f (λe=>by rw[a,q e,g]) hr hf
def Sim.setTRow' (k:Sim w0 G M ρ h w) {cs cs':List D} (i:h.at' id=some (.trow u false cs)) (j:ρ id=some l) {c c':Array Value} (g:w.heap[l.blk]? =some (.cells c t (0,0)))
  (f:c'.size=c.size) (a:cs'.length<=c'.size) (hr:yD M ρ cs' (c'.toList.take cs'.length)) (hf:cs'.all D.flat=true):Sim w0 G M ρ (h.set id (.trow u false cs')) (w.setRow l.blk c'):=by
 obtain⟨x,h1,_,hM,q,r,h3,m,_,_,n,s⟩:=k.live id _ i;rw[j] at h1;cases h1;rw[g] at h3;cases h3;refine k.put i j (setRow_os w _ _) (setRow_tape w _ _) (setRow_output w _ _) (setRow_size w _ _) (λb p=>setRow_other w _ _ _ p) (λo v e=>by rw[hM o] at e;cases e) ⟨_,g,λd=>by simp⟩ ?_;subst n;exact rt hM (setRow_heap w _ _ c' t (0,0) g) (by rw[m,f]) a (λe=>by cases e) hr hf
def Sim.storeRow (t:Sim w0 G M ρ h w) {id off:Nat} (q:h.at' id=some (.row cs)) (r:ρ id=some l) (hr:yD M ρ ds vs) (hf:ds.all D.flat=true) (p:off+ds.length<=cs.length):
  ∃y,(storeCells ⟨l.blk,off,none⟩ vs).run P w= .ok () y/\Sim w0 G M ρ (h.set id (.row (yU cs ds off))) y:=by
 obtain⟨C,h1,_,hM,c,e,x,A,s,a⟩:=t.live id _ q;rw[r] at h1;cases h1;have B:=zW hr;have g:=wb hr hf;have k:=run_storeCells_at P l.blk off e vs 0 c w x ow g;rw[Nat.add_zero] at k;refine⟨w.setRow l.blk (c.toList.take off++vs++c.toList.drop (off+vs.length)).toArray,k,?_⟩;have j:yD M ρ cs (c.toList.take cs.length):=yG (by simp;omega) λi d v h1 m=>by
  obtain⟨_,u,e1,e2⟩:=a i d h1;have b:i<cs.length:=(List.getElem?_eq_some_iff.1 h1).1;rw[getElem?_take,ip b] at m
  have:some v=some u:=by rw[<-m,<-e1];simp
  cases this;exact e2
 have f:(yU cs ds off).length=cs.length:=by simp[yU];omega
 have o:(c.toList.take off++vs++c.toList.drop (off+vs.length)).length=c.size:=by simp;omega
 refine t.setRow q r x (by simpa using o) (by rw[f];simp only[size_toArray];omega) ?_ (oR (all_eq_true.2 λd z=>by
  obtain⟨i,n⟩:=mem_iff_getElem?.1 z;exact(a i d n).1) hf)
 rw[f];have:=ru j hr p;refine yG (by simp;omega) λi d v h1 m=> ?_;have b:i<cs.length:=by rw[<-f];exact(List.getElem?_eq_some_iff.1 h1).1
 obtain⟨u,e1,e2⟩:=qC this i d h1
 have:some v=some u:=by
  rw[<-m,<-e1,getElem?_take,ip b,qr _ _ _ (by simp;omega),qr _ _ _ (by simp;omega),getElem?_take,ip b]
 cases this;exact e2
theorem QL (O:Sim w0 G M ρ h w) {a x:D} (N:rel M ρ a vy) (T:rel M ρ x vx) (q:zP P t a x h=some h'):
  ∃U,(Instr.storeAt t vy vx).run P w= .ok () U/\Sim w0 G M ρ h' U:=by
 unfold zP at q;split at q
 ·rename_i id off;split at q
  ·rename_i cs H;split at q
   ·rename_i F;simp only[Bool.and_eq_true,decide_eq_true_eq] at F;obtain⟨⟨⟨B,E⟩,z⟩,k⟩:=F;cases q;simp only[rel] at N;obtain⟨l,I,rfl⟩:=N;obtain⟨W,h1,_,hM,c,e,L,R,J,b⟩:=O.live id _ H;rw[I] at h1;cases h1;have j:=wD T;have A:=zW j;have C:vx.cells.size=x.cells.length:=by rw[<-A];simp
    have m:=wb j k;have o:=run_storeCells_at P l.blk off e vx.cells.toList 0 c w L (by simp;omega) m;rw[Nat.add_zero] at o;refine⟨w.setRow l.blk (c.toList.take off++vx.cells.toList++c.toList.drop (off+vx.cells.toList.length)).toArray,?_,?_⟩
    ·have p:(sizeOf t).run P w= .ok vx.cells.size w:=by
      rw[C,E];cases K:P.info? t with
      |some i=>exact run_sizeOf _ K
      |none=>
       exfalso;have h0:szT P t=0:=by simp[szT,Program.cellsOf,K]
       exact B h0
     simp only[Instr.storeAt,Instr.sureAddr,storeVar,Sem.run_bind,Sem.run_pure,Result.andThen_ok,p,ne_eq,not_true_eq_false,if_false];exact o
    ·have n:yD M ρ cs (c.toList.take cs.length):=yG (by simp;omega) λi d v h1 r=>by
      obtain⟨_,u,e1,e2⟩:=b i d h1;have f:i<cs.length:=(List.getElem?_eq_some_iff.1 h1).1;rw[getElem?_take,ip f] at r
      have:some v=some u:=by rw[<-r,<-e1];simp
      cases this;exact e2
     have g:(yU cs x.cells off).length=cs.length:=by simp[yU];omega
     have y:(c.toList.take off++vx.cells.toList++c.toList.drop (off+vx.cells.toList.length)).length=c.size:=by simp;omega
     refine O.setRow H I L (by simpa using y) (by rw[g];simp only[size_toArray];omega) ?_ (oR (all_eq_true.2 λd Q=>by
      obtain⟨i,s⟩:=mem_iff_getElem?.1 Q;exact(b i d s).1) k)
     rw[g];have:=ru n j z;refine yG (by simp;omega) λi d v h1 r=> ?_;have f:i<cs.length:=by rw[<-g];exact(List.getElem?_eq_some_iff.1 h1).1
     obtain⟨u,e1,e2⟩:=qC this i d h1
     have:some v=some u:=by
      rw[<-r,<-e1,getElem?_take,ip f,qr _ _ _ (by simp;omega),qr _ _ _ (by simp;omega),getElem?_take,ip f]
     cases this;exact e2
   ·cases q
  ·rename_i u full cs H;split at q
   ·rename_i F;simp only[Bool.and_eq_true,decide_eq_true_eq] at F;obtain⟨⟨⟨B,E⟩,z⟩,k⟩:=F;cases q;simp only[rel] at N;obtain⟨l,I,rfl⟩:=N;obtain⟨W,h1,_,hM,c,e,L,R,J,b,V,S⟩:=O.live id _ H;rw[I] at h1;cases h1;have j:=wD T;have A:=zW j;have C:vx.cells.size=x.cells.length:=by rw[<-A];simp
    have m:=wb j k;have o:=run_storeCells_at P l.blk off e vx.cells.toList 0 c w L (by simp;omega) m;rw[Nat.add_zero] at o;refine⟨w.setRow l.blk (c.toList.take off++vx.cells.toList++c.toList.drop (off+vx.cells.toList.length)).toArray,?_,?_⟩
    ·have p:(sizeOf t).run P w= .ok vx.cells.size w:=by
      rw[C,E];cases K:P.info? t with
      |some i=>exact run_sizeOf _ K
      |none=>
       exfalso;have h0:szT P t=0:=by simp[szT,Program.cellsOf,K]
       exact B h0
     simp only[Instr.storeAt,Instr.sureAddr,storeVar,Sem.run_bind,Sem.run_pure,Result.andThen_ok,p,ne_eq,not_true_eq_false,if_false];exact o
    ·have n:yD M ρ cs (c.toList.take cs.length):=yG (by simp;omega) λi d v h1 r=>by
      obtain⟨_,u,e1,e2⟩:=b i d h1;have f:i<cs.length:=(List.getElem?_eq_some_iff.1 h1).1;rw[getElem?_take,ip f] at r
      have:some v=some u:=by rw[<-r,<-e1];simp
      cases this;exact e2
     have g:(yU cs x.cells off).length=cs.length:=by simp[yU];omega
     have y:(c.toList.take off++vx.cells.toList++c.toList.drop (off+vx.cells.toList.length)).length=c.size:=by simp;omega
     refine O.setTRow H I L (by simpa using y) (by rw[g];simp only[size_toArray];omega) g ?_ (oR (all_eq_true.2 λd Q=>by
      obtain⟨i,s⟩:=mem_iff_getElem?.1 Q;exact(b i d s).1) k)
     rw[g];have:=ru n j z;refine yG (by simp;omega) λi d v h1 r=> ?_;have f:i<cs.length:=by rw[<-g];exact(List.getElem?_eq_some_iff.1 h1).1
     obtain⟨u,e1,e2⟩:=qC this i d h1
     have:some v=some u:=by
      rw[<-r,<-e1,getElem?_take,ip f,qr _ _ _ (by simp;omega),qr _ _ _ (by simp;omega),getElem?_take,ip f]
     cases this;exact e2
   ·cases q
  ·cases q
 ·cases q
end
section
variable {P:Program} {w0:Base} {G:List Nat} {M:Imm} {ρ:Ren} {h:Heap} {w:World} {nid:Nat}
theorem gL:∀ (fs:List Field) (a:List (Nat×Nat)),gA P fs=some a->(fs.mapM (m:=Sem) λf=>do pure (f.offset,<-sizeOf f.type)).run P w= .ok a w
 | [],a,h=>by simp[gA] at h;subst h;rfl
 |f::fs,a,h=>by
  simp only[gA] at h;split at h
  ·cases h
  ·rename_i c;simp only[Option.map_eq_some_iff] at h;obtain⟨e,b,rfl⟩:=h;have d:=gL fs e b;rw[mapM_cons];simp only[Sem.run_bind,yE (P:=P) (w:=w) c,Result.andThen_ok,Sem.run_pure,d]
def QM (off:Nat) (vs:Array Value) (cells:Array Value) (d:off+vs.size<=cells.size):
  (vs.zipIdx.foldl (λcs (x:Value×Nat)=>cs.setIfInBounds (off+x.2) x.1) cells).toList=cells.toList.take off++vs.toList++cells.toList.drop (off+vs.toList.length):=by
 obtain⟨h1,c⟩:=Go.Great.foldl_set off vs.toList 0 cells;rw[<-Array.foldl_toList,Array.toList_zipIdx];apply ext_getElem?;intro i;rw[Array.getElem?_toList,c,qr _ _ _ (by simp;omega)];simp only[Nat.add_zero,Array.length_toList,Array.getElem?_toList];by_cases b:i<off
 ·rw[iq ow,ip b]
 ·rw[iq b];by_cases a:i<off+vs.size
  ·rw[ip ⟨by omega,a,by omega⟩,ip a]
  ·rw[iq ow,iq a]
theorem jb (place:Nat->Option (Nat×Nat)) (ev:Operand->D) (b:Operand->Value):∀ (l:List (Nat×Operand)) (cs cs':List D) (cells:Array Value),(∀p∈l,rel M ρ (ev p.2) (b p.2))->yD M ρ cs cells.toList->cs.all D.flat=true->
  qB place cs (l.map λp=>(p.1,ev p.2))=some cs'->∃a,Instr.fill place cells (l.map λp=>(p.1,b p.2))=some a/\(yD M ρ cs' a.toList/\cs'.all D.flat=true)/\a.size=cells.size
 | [],cs,cs',cells,_,hr,hf,c=>by simp only[map_nil,qB,Option.some.injEq] at c;subst c;exact⟨cells,rfl,⟨hr,hf⟩,rfl⟩
 |p::l,cs,cs',cells,g,hr,hf,c=>by
  simp only[map_cons,qB] at c;split at c
  ·cases c
  ·rename_i off size h;split at c
   ·rename_i j;simp only[Bool.and_eq_true,decide_eq_true_eq] at j;obtain⟨⟨h0,h1⟩,o⟩:=j;have k:=wD (g p (by simp));have f:=zW k;have e:=zW hr;have i:(b p.2).cells.size=size:=by rw[<-h1,<-f];simp
    have n:cells.size=cs.length:=by rw[<-e];simp
    have d:=QM off (b p.2).cells cells ow;obtain⟨a,e1,e2,e3⟩:=jb place ev b l _ cs' ((b p.2).cells.zipIdx.foldl (λcs (x:Value×Nat)=>cs.setIfInBounds (off+x.2) x.1) cells) (λq m=>g q (by simp[m])) (by
     rw[d];exact ru hr k ow) (oR hf (wa (g p (by simp)) h0)) c
    refine⟨a,?_,e2,?_⟩
    ·simp only[map_cons,Instr.fill,h,i];rw[iq (by simp;omega)];exact e1
    ·rw[e3,<-Array.length_toList,d];simp;omega
   ·cases c
def QN (A:Sim w0 G M ρ h w) {parts:Array (Nat×Operand)} (ev:Operand->D) (g:Operand->Value) (y:∀p∈parts.toList,rel M ρ (ev p.2) (g p.2))
  (b:zt P t (parts.toList.map λp=>(p.1,ev p.2))=some d):YV P w0 G M ρ nid w (Instr.build t (parts.map λp=>(p.1,g p.2))) d h:=by
 unfold zt at b;split at b
 ·cases b
 ·rename_i z F;split at b
  ·cases b
  rename_i q;simp only[Bool.not_eq_true,Bool.not_eq_false'] at q;obtain⟨i,B,I,H,k,c⟩:=uE (P:=P) (M:=M) (ρ:=ρ) (w:=w) F;have l:=wD k;have o:=wa k q;split at b
  ·rename_i r j;simp only[Option.map_eq_some_iff] at b;obtain⟨cs',hf,rfl⟩:=b;unfold wi at j;split at j
   ·rename_i fs E;obtain⟨a,e1,e2,_⟩:=jb (λ(i:Nat)=>r[i]?) ev g parts.toList _ _ B.cells y l o hf;refine .pure A (v:= .agg a) ?_ (by simp only[rel];exact⟨_,rfl,e2⟩);have u:(fs.mapM (m:=Sem) λf=>do pure (f.offset,<-sizeOf f.type)).run P w= .ok r.toArray w:=by
     have:=gL (P:=P) (w:=w) fs.toList r j;rw[show fs=fs.toList.toArray by simp,mapM_toArray];simp only[Sem.run_map,this,Result.andThen_ok]
    simp only[Instr.build,Sem.run_bind,c,Result.andThen_ok,run_underlying E,u,Array.toList_map]
    have:(λ(x:Nat)=>r.toArray[x]?)=λ(i:Nat)=>r[i]? :=by funext i;simp
    rw[this,e1];rfl
   ·cases j
  ·split at b
   ·rename_i n e C;split at b
    ·cases b
    ·rename_i s;simp only[Option.map_eq_some_iff] at b;obtain⟨cs',hf,rfl⟩:=b;obtain⟨a,e1,e2,_⟩:=jb _ ev g parts.toList _ _ B.cells y l o hf;refine .pure A (v:= .agg a) ?_ (by simp only[rel];exact⟨_,rfl,e2⟩);simp only[Instr.build,Sem.run_bind,c,Result.andThen_ok,run_underlying (nv C),yE (P:=P) (w:=w) s,Array.toList_map,e1];rfl
   ·cases b
theorem lQ (sz:Nat):∀ (n:Nat) (cs:List D) (i:Nat),i<n->(yH sz n cs)[i]? =some ((cs.drop (i*sz)).take sz)
 |0,_,_,h=>by omega
 |n+1,cs,0,_=>by simp[yH]
 |n+1,cs,i+1,h=>by
  simp only[yH,getElem?_cons_succ];rw[lQ sz n _ i ow,drop_drop,Nat.add_mul,Nat.one_mul,Nat.add_comm sz]
def gM {sz n b:Nat} (hr:yD M ρ cs vs) (hf:cs.all D.flat=true) (hM:∀o,M b o=none) (k:cs.length=n*sz):rn (rM M b 0 vs) ρ sz (yH sz n cs) b 0:=
 ue λi x c=>by
  have e:i<n:=by rw[<-qg sz n cs];exact(List.getElem?_eq_some_iff.1 c).1
  rw[lQ sz n cs i e] at c;cases c;have h:i*sz+sz<=n*sz:=by rw[<-Nat.succ_mul];exact Nat.mul_le_mul_right _ e
  refine⟨by simp;omega,yu λj d a=> ?_⟩;have g:=Ve hr hf hM;simp only[getElem?_take,getElem?_drop] at a;split at a
  ·obtain⟨h0,v,h1,f⟩:=to g _ d a;exact⟨h0,v,by rw[<-h1];congr 1;omega,f⟩
  ·cases a
theorem tG (z:List α):∀ (n i:Nat),i<n*z.length->(List.replicate n z).flatten[i]? =z[i%z.length]?
 |0,i,h=>by simp at h
 |n+1,i,h=>by
  rw[replicate_succ,flatten_cons];by_cases b:i<z.length
  ·rw[getElem?_append_left b,Nat.mod_eq_of_lt b]
  ·rw[getElem?_append_right ow,tG z n (i-z.length) (by rw[Nat.add_mul,Nat.one_mul] at h;omega),Nat.mod_eq_sub_mod (a:=i) ow]
theorem yW (z:List α):∀n:Nat,(List.replicate n z).flatten.length=n*z.length
 |0=>by simp
 |n+1=>by rw[replicate_succ,flatten_cons,length_append,yW z n,Nat.add_mul,Nat.one_mul,Nat.add_comm]
def rS {z:List D} (hf:z.all D.flat=true) (n:Nat):(si n z).all D.flat=true:=
 all_eq_true.2 λd b=>by
  obtain⟨l,h1,a⟩:=mem_flatten.1 b;rw[(mem_replicate.1 h1).2] at a;exact all_eq_true.1 hf d a
def nz {z : List D} {zc : Array Value} (hr : yD M ρ z zc.toList) (n : Nat) : yD M ρ (si n z) ((Array.range (n * z.length)).map (zc[· % zc.size]!)).toList := by
  have hl := zW hr;have hl' : zc.size = z.length := by rw [<- hl]; simp
  refine yG (by simp [si]) λi d v hd hv => ?_;have hi : i < n * z.length := by
    have := (List.getElem?_eq_some_iff.1 hd).1
    rwa [si, yW] at this
  have hz0 : 0 < z.length := by rcases Nat.eq_zero_or_pos z.length with h0 | h0; · rw [h0] at hi; simp at hi
                                · exact h0
  rw [si, tG z n i hi] at hd;obtain ⟨u, h1, h2⟩ := qC hr _ d hd
  have : u = v := by
    simp only [Array.toList_map, getElem?_map, Array.toList_range] at hv;rw [getElem?_range hi] at hv;simp only [Option.map_some, Option.some.injEq] at hv;rw [<- hv, hl'];have hm : i % z.length < zc.size := by rw [hl']; exact Nat.mod_lt _ hz0
    have h1' : zc[i % z.length]? = some u := by simpa using h1
    rw [Array.getElem!_eq_getD, Array.getD_eq_getD_getElem?, h1']; rfl
  rw [<- this]; exact h2
def Sim.newImmRow (c:Sim w0 G M ρ h w) {cells:Array Value} (e:TypeId) (h0:0<sz) (f:n<=lim) (d:cs.length=n*sz) (hr:yD M ρ cs cells.toList) (hf:cs.all D.flat=true):
  MLe M (rM M w.heap.size 0 cells.toList)/\Sim w0 G (rM M w.heap.size 0 cells.toList) ρ h (w.alloc (.cells cells e))/\
   rel (rM M w.heap.size 0 cells.toList) ρ (.sl sz (yH sz n cs) .full) (.slice (some ⟨w.heap.size,0,none⟩) n n):=by
 have b:∀o,M w.heap.size o=none:=c.none_at (le_refl _);have a:=c.allocImm cells e cells.size;rw[show cells.toList.take cells.size=cells.toList by rw[<-Array.length_toList];exact take_length] at a;refine⟨rq λo _=>b o,a,?_⟩;simp only[rel,qg];exact⟨h0,f,w.heap.size,0,n,QD.mk _ _ _ _,le_refl _,gM hr hf b d,rfl⟩
def dj (N:Sim w0 G M ρ h w) (L:ρ nid=none) {mu:Bool} {parts:Array (Nat×Operand)} (ev:Operand->D) (l:Operand->Value) (U:∀p∈parts.toList,rel M ρ (ev p.2) (l p.2))
  (b:zI P mu nid t n (parts.toList.map λp=>(p.1,ev p.2)) h=some (d,h')):YV P w0 G M ρ nid w (Instr.buildSlice t n (parts.map λp=>(p.1,l p.2))) d h':=by
 unfold zI at b;split at b
 ·cases b
 ·rename_i e T;split at b
  ·cases b
  ·rename_i z V;obtain⟨i,O,J,W,B,r⟩:=uE (P:=P) (M:=M) (ρ:=ρ) (w:=w) V;have C:=wD B;simp only at b;split at b
   ·rename_i I;simp only[Bool.and_eq_true,decide_eq_true_eq] at I;obtain⟨⟨⟨H,F⟩,k⟩,K⟩:=I;have E:=wa B H;split at b
    ·cases b
    ·rename_i cs hf;have g:=nz C n;rw[F] at g;obtain⟨a,e1,⟨e2,u⟩,e3⟩:=jb _ ev l parts.toList _ _ ((Array.range (n*szT P e)).map (O.cells[· %O.cells.size]!)) U g (rS E n) hf;have j:a.size=n*szT P e:=by rw[e3];simp
     have y:cs.length=n*szT P e:=by rw[<-j,<-zW e2];simp
     have m:(Instr.buildSlice t n (parts.map λp=>(p.1,l p.2))).run P w= .ok (.slice (some ⟨w.heap.size,0,none⟩) n n) (w.alloc (.cells a e)):=by
      have x:¬(n*szT P e>2^24):=ow;unfold Instr.buildSlice;simp only[Sem.run_bind,run_underlying (wI T),Result.andThen_ok,yE (P:=P) (w:=w) (t:=e) ow,x,if_false,Sem.run_pure,Array.toList_map];by_cases q:n*szT P e=0
      ·have v:∀f:Nat->Value,(Array.range 0).map f= #[]:=λf=>by simp
       have s:=e1;rw[q,v] at s;simp only[q,if_true,Sem.run_pure,Sem.run_bind,Result.andThen_ok,v,s];simp[newRow]
      ·simp only[q,if_false,Sem.run_bind,r,Result.andThen_ok,Sem.run_pure,e1];simp[newRow]
     have o:n<=lim:=by unfold lim;have:n*1<=n*szT P e:=Nat.mul_le_mul_left _ k;omega
     split at b
     ·cases b;have A:=N.newRow L e (ds:=cs) (c:=a) ow (by rw[y,<-j,<-Array.length_toList,take_length];exact e2) u;refine⟨_,_,M,_,m,MLe.refl _,qL L,λi J=>by simp[uf,rQ J],A,?_⟩;simp only[rel];exact⟨k,o,_,n,0,by simp[uf];rfl,rfl,⟨le_refl _,by unfold maxLen;unfold lim at o;omega⟩,by simp[j], .inr rfl⟩
     ·cases b;obtain⟨Q,R,S⟩:=N.newImmRow e k o y e2 u;exact⟨_,_,_,ρ,m,Q,RLe.refl _,λ_ _=>rfl,R,S⟩
   ·cases b
end
section
variable {P:Program} {w0:Base} {G:List Nat} {M:Imm} {ρ:Ren} {h:Heap} {w:World} {nid:Nat}
def gN {xs ys:List D} {b p:Nat} (f:sj M ρ xs b p) (g:sj M ρ ys b (p+xs.length)):sj M ρ (xs++ys) b p:=
 yu λi d a=>by
  by_cases e:i<xs.length
  ·rw[getElem?_append_left e] at a;exact to f i d a
  ·rw[getElem?_append_right ow] at a;obtain⟨h0,v,h1,c⟩:=to g _ d a;exact⟨h0,v,by rw[<-h1];congr 1;omega,c⟩
theorem ss:∀ {xs:List (List D)} {b p:Nat},rn M ρ sz xs b p->sj M ρ xs.flatten b p/\xs.flatten.length=xs.length*sz
 | [],_,_,_=>by simp[sj]
 |x::xs,b,p,h=>by
  simp only[rn] at h;obtain⟨h1,a,h3⟩:=h;obtain⟨c,d⟩:=ss h3;rw[flatten_cons];refine⟨gN a (by rw[h1];exact c),?_⟩;rw[length_append,h1,d,length_cons,Nat.add_mul,Nat.one_mul,Nat.add_comm]
def KE (w w1:World):Prop:=∀b o v,w.cell? ⟨b,o,none⟩ =some v->w1.cell? ⟨b,o,none⟩ =some v
def Tt (w:World):KE w w:=λ_ _ _ h=>h
def oS (w:World):KE w w.drew:=λ_ _ _ h=>h
def Els (P:Program) (M:Imm) (ρ:Ren) (w:World) (sz:Nat) (ys:List D) (m:Nat) (vs:List Value) (vx:Value):Prop:=
 ys.length=m*sz/\m<=lim/\yD M ρ ys vs/\ys.all D.flat=true/\∀w1,KE w w1->(Builtin.lenOf vx).run P w1= .ok m w1/\(Builtin.firstCells sz m vx).run P w1= .ok vs.toArray w1
def bw.firstCells {b p off n:Nat} (d:bw M ρ w cs b p) (f:off+n<=cs.length):∃vs,yD M ρ ((cs.drop off).take n) vs/\((cs.drop off).take n).all D.flat=true/\vs.length=n/\∀a,KE w a->(Go.loadCells ⟨b,p+off,none⟩ n).run P a= .ok vs.toArray a:=by
 obtain⟨vs,h1,_,h3,c,h5⟩:=d.loadCells (P:=P) f;refine⟨vs,h3,c,h1,λa e=> ?_⟩;have:=run_loadCells_list (P:=P) a ⟨b,p+off,none⟩ vs (λj v g=>by rw[qV];exact e _ _ _ (h5 j v g));rw[h1] at this;exact this
def GP (J:Sim w0 G M ρ h w) (h0:0<sz) (j:rel M ρ x vx) {ys:List D} (a:R7 sz x h=some ys):∃m vs,Els P M ρ w sz ys m vs vx:=by
 unfold R7 at a;split at a
 ·rename_i s xs tk;split at a
  ·rename_i f;subst f;cases a;simp only[rel] at j;obtain⟨_,e,b,p,cap,⟨T,rfl,E⟩,A,N,_⟩:=j;obtain⟨L,g⟩:=ss N;rcases E with rfl|rfl
   case inr=>
    obtain rfl:xs= []:=eq_nil_of_length_eq_zero ow;exact⟨0,[],by simp,by simp,by simp[yD],rfl,λq _=>⟨rfl,by simp[Builtin.firstCells,Go.loadCells,loadCellsFrom]⟩⟩
   obtain⟨vs,r,t,y,z⟩:=(J.holds L).firstCells (P:=P) (off:=0) (n:=xs.length*s) ow;have R:(xs.flatten.drop 0).take (xs.length*s)=xs.flatten:=by rw[drop_zero,<-g,take_length]
   rw[R] at r t;exact⟨xs.length,vs,g,e,r,t,λq B=>⟨rfl,by simpa [Builtin.firstCells] using z q B⟩⟩
  ·cases a
 ·rename_i id s off n;split at a
  ·rename_i f;subst f;split at a
   ·rename_i cs O;split at a
    ·rename_i C;cases a;simp only[rel] at j;obtain⟨_,e,l,cap,o,Q,rfl,H,_,S⟩:=j;obtain⟨vs,r,t,y,z⟩:=(J.row O Q).firstCells (P:=P) C;refine⟨n,vs,by simp;omega,e,r,t,λq B=>⟨rfl,?_⟩⟩;rcases Nat.eq_zero_or_pos n with I|I
     ·subst I;simp at y;subst y;simp[Builtin.firstCells,Go.loadCells,loadCellsFrom]
     ·obtain rfl:o=off:=ow;have:=z q B;rw[Nat.zero_add] at this;simpa [Builtin.firstCells] using this
    ·cases a
   ·cases a
  ·cases a
 ·cases a;simp only[rel] at j;subst j;exact⟨0,[],by simp,by simp,by simp[yD],rfl,λq _=>⟨rfl,rfl⟩⟩
 ·rename_i s;split at a
  ·rename_i f;subst f;cases a;simp only[rel] at j;obtain⟨b,rfl,rfl,e⟩:=j;have k:b.size=b.data.toList.length:=by rw[Array.length_toList];rfl
   refine⟨b.size,b.data.toList.map λc=> .int .u8 c.toNat,by rw[length_map,Nat.mul_one,k],by omega,yG (by rw[length_map,length_map]) λi d v u a=> ?_,?_,λq _=>⟨rfl,?_⟩⟩
   ·simp only[getElem?_map,Option.map_eq_some_iff] at u a;obtain⟨c,K,rfl⟩:=u;obtain⟨c',F,rfl⟩:=a;rw[K] at F;cases F;refine yj ?_;rw[uK];have:=c.toNat_lt;simp[IntKind.min,IntKind.max,IntKind.signed,IntKind.bits];omega
   ·exact all_eq_true.2 λd u=>by
     obtain⟨c,_,rfl⟩:=mem_map.1 u;rfl
   ·simp only[Builtin.firstCells,Sem.run_pure];congr 1
    have:b.extract 0 b.size=b:=by simp[ByteArray.extract_zero_size]
    rw[this];apply Array.ext';simp
  ·cases a
 ·cases a
def QO {e:TypeId} (a:gB P e=true):∃i v,P.info? e=some i/\i.size=szT P e/\i.bytes=ye P e/\i.zero=some v/\v.cells.size=szT P e/\szT P e≠0:=by
 unfold gB at a;split at a
 ·rename_i z c;simp only[Bool.and_eq_true,beq_iff_eq,bne_iff_ne,ne_eq] at a;obtain⟨i,v,b,d,hr,_⟩:=uE (P:=P) (M:=λ_ _=>none) (ρ:=λ_=>none) (w:=default) c;refine⟨i,v,b,by simp[szT,Program.cellsOf,b],by simp[ye,Program.bytesOf,b],d,?_,a.2⟩;have:=zW (wD hr);rw[<-a.1,<-this];simp
 ·cases a
def uL (t u ty e:TypeId) (g:P.underlying t=some (.slice e)) {j:TypeDesc} (h:P.underlying u=some j) (o:∀k,j≠ .int k) (i:szT P e≠0) (base:Option Addr) (n cap m:Nat) (d:Value) (vs:List Value)
  (f:(Builtin.lenOf d).run P w= .ok m w) (hf:(Builtin.firstCells (szT P e) m d).run P w= .ok vs.toArray w) (c:n+m<=cap) (l:World)
  (b:(match base with|some a=>storeCells (a.add (n*szT P e)) vs|none=>pure ()).run P w= .ok () l):
  (Builtin.append_ #[t,u] ty #[.slice base n cap,d]).run P w= .ok (.slice base (n+m) cap) l:=by
 cases base with
 |none=>
  simp only[Sem.run_pure] at b;cases b;simp[Builtin.append_,run_underlying g,run_underlying h,yE i,f,hf,c]
 |some a=>
  simp only at b;simp[Builtin.append_,run_underlying g,run_underlying h,yE i,f,hf,c,b]
def dm (t u ty e:TypeId) (v:P.underlying t=some (.slice e)) {l:TypeDesc} (x:P.underlying u=some l) (y:∀k,l≠ .int k) {i:TypeInfo} {z:Value} (f:P.info? e=some i) (A:i.zero=some z) (base:Option Addr) (n cap m:Nat) (h:Value) (a vs:List Value)
  (q:(Builtin.lenOf h).run P w= .ok m w) (hf:(Builtin.firstCells i.size m h).run P w.drew= .ok vs.toArray w.drew) (s:(Builtin.firstCells i.size n (.slice base n cap)).run P w.drew= .ok a.toArray w.drew)
  (p:cap<n+m) (d:n+m<=lim) (o:(n+m)*i.bytes<=lim):
  (Builtin.append_ #[t,u] ty #[.slice base n cap,h]).run P w= .ok (.slice (some ⟨w.heap.size,0,none⟩) (n+m) (grownCap w (n+m) cap e))
   (w.drew.alloc (.cells (a.toArray++vs.toArray++Builtin.zeroCells z.cells (grownCap w (n+m) cap e- (n+m))) e)):=by
 have r:¬(n+m<=cap):=ow;have c:¬(9223372036854775807<((n:Int)+(m:Int))):=by unfold lim at d;omega
 have j:=growslice_fits (need:=n+m) (old:=cap) (bytes:=i.bytes) p o;have b:¬(281474976710656<Builtin.nextslicecap (n+m) cap*i.bytes):=ow;have g:(sizeOf e).run P w= .ok i.size w:=by rw[run_sizeOf _ f];simp[Program.cellsOf,f]
 simp[Builtin.append_,run_underlying v,run_underlying x,g,typeInfo,zeroValue,f,A,q,r,c,b,Question.forced,hf,s,newRow,grownCap];congr 2;apply Array.ext';simp[append_assoc]
def Sim.addObj (c:Sim w0 G M ρ h w) (t:ρ nid=none) (l:Loc) (x:Obj) (B:¬w0.keep l.blk) (q:∀i d r,h.at' i=some d->ρ i=some r->r.blk≠l.blk) (D:qX M (uf ρ nid l) w l x):
  Sim w0 G M (uf ρ nid l) (h.new nid x) w:=by
 have p:=qL (l:=l) t;have key:∀k ok,h.at' k=some ok->k≠nid/\∃s,ρ k=some s:=λk ok e=>by
  obtain⟨s,h1,_⟩:=c.live k ok e;exact⟨λC=>(by rw[C,t] at h1;cases h1),s,h1⟩
 refine { below:=c.below,imm:=c.imm,live:=λi d e=> ?_,apart:=λi j y z u v n o g m b=> ?_,gdef:=c.gdef,old:=c.old }
 ·simp only[Heap.new] at e;split at e
  ·rename_i a;subst a;cases e;exact⟨l,by simp[uf],B,D⟩
  ·obtain⟨r,h1,A,h3⟩:=c.live i d e;exact⟨r,p _ _ h1,A,wS (MLe.refl _) p (λ_ h=>h) h3⟩
 ·simp only[Heap.new] at n o;by_cases a:i=nid<;>by_cases f:j=nid
  ·rw[a,f]
  ·exfalso;simp only[f,if_false] at o;simp only[uf,a,if_true] at g;cases g;simp only[uf,f,if_false] at m;exact q j z v o m b.symm
  ·exfalso;simp only[a,if_false] at n;simp only[uf,f,if_true] at m;cases m;simp only[uf,a,if_false] at g;exact q i y u n g b
  ·simp only[a,if_false] at n;simp only[f,if_false] at o;simp only[uf,a,if_false] at g;simp only[uf,f,if_false] at m;exact c.apart i j y z u v n o g m b
def Sim.old_blk (c:Sim w0 G M ρ h w) (a:h.at' i=some ob) (b:ρ i=some l):l.blk<w.heap.size:=by
 obtain⟨d,h1,_,h3⟩:=c.live i ob a;rw[b] at h1;cases h1;exact sI h3
def qH {as c:List D} {xs ys:List Value} (e:yD M ρ as xs) (f:yD M ρ c ys):yD M ρ (as++c) (xs++ys):=by
 have h1:=zW e;have g:=zW f;refine yG (by simp[h1,g]) λi d v b a=> ?_;by_cases h:i<as.length
 ·rw[getElem?_append_left h] at b;rw[getElem?_append_left ow] at a;obtain⟨u,e1,e2⟩:=qC e i d b;rw[e1] at a;cases a;exact e2
 ·rw[getElem?_append_right ow] at b;rw[getElem?_append_right ow,h1] at a;obtain⟨u,e1,e2⟩:=qC f _ d b;rw[e1] at a;cases a;exact e2
theorem tp (sz:Nat):∀ (xs:List (List D)) (ys:List D) (m:Nat),(∀x∈xs,x.length=sz)->yH sz (xs.length+m) (xs.flatten++ys)=xs++yH sz m ys
 | [],ys,m,_=>by simp
 |x::xs,ys,m,h=>by
  have b:=h x (by simp);rw[length_cons,show xs.length+1+m=(xs.length+m)+1 by omega];simp only[yH,flatten_cons,append_assoc,cons_append];rw[take_append_of_le_length ow,take_of_length_le ow,drop_append_of_le_length ow,drop_of_length_le ow,nil_append,tp sz xs ys m λy a=>h y (by simp[a])]
def Zv {b p:Nat} (a:rn M ρ sz xs b p):∀x∈xs,x.length=sz:=λx d=>by
 obtain⟨i,c⟩:=mem_iff_getElem?.1 d;exact(jZ a i x c).1
def Sim.growTok (d:Sim w0 G M ρ h w) (k:ρ nid=none) {ys:List D} (c:Array Value) (e:TypeId) {sz n cap:Nat} (h0:0<sz) (l:ys.length=n*sz) (hr:yD M ρ ys vs) (hf:ys.all D.flat=true)
  (m:c.toList.take vs.length=vs) (p:c.size=cap*sz) (b:n<=cap) (a:n<=lim) (g:0<cap):
  ∃M' f,MLe M M'/\RLe ρ f/\(∀i,i≠nid->f i=ρ i)/\Sim w0 G M' f (h.new nid .tok) (w.alloc (.cells c e))/\rel M' f (.sl sz (yH sz n ys) (.own nid)) (.slice (some ⟨w.heap.size,0,none⟩) n cap):=by
 have j:∀o,M w.heap.size o=none:=d.none_at (le_refl _);have h1:=d.allocImm c e vs.length;rw[m] at h1;have t:vs.length=n*sz:=by rw[zW hr,l]
 have r:n*sz<=cap*sz:=Nat.mul_le_mul_right _ b;refine⟨rM M w.heap.size 0 vs,uf ρ nid ⟨w.heap.size,n*sz,c.size⟩,rq λo _=>j o,qL k,λi q=>by simp[uf,q],?_,?_⟩
 ·refine h1.addObj k _ .tok (d.nokeep (le_refl _)) (λi u v e1 e2=> ?_) ⟨λo s=> ?_,by simp;omega,c,e,?_,rfl⟩
  ·have:=d.old_blk e1 e2;simp;omega
  ·simp only at s⊢;unfold rM;rw[iq ow];exact j o
  ·show(w.heap.push _)[w.heap.size]? =_;simp
 ·simp only[rel,qg];exact⟨h0,a,w.heap.size,0,cap,QD.mk _ _ _ _,b,gD (MLe.refl _) (qL k) _ _ _ _ (gM hr hf j l),_,by simp[uf];rfl,rfl,by simp,by simp;omega,g⟩
def Sim.behind (a:Sim w0 G M ρ h w) (I:h.at' i=some .tok) (K:ρ i=some l) {c:Array Value} {e:TypeId} (y:w.heap[l.blk]? =some (.cells c e (0,0))) (g:l.endd+vs.length<=c.size) (c':Array Value)
  (s:c'.toList=c.toList.take l.endd++vs++c.toList.drop (l.endd+vs.length)):MLe M (rM M l.blk l.endd vs)/\Sim w0 G (rM M l.blk l.endd vs) ρ (h.del i) (w.setRow l.blk c'):=by
 obtain⟨U,h1,D,hM,H,R,S,h3,T⟩:=a.live i _ I;rw[K] at h1;cases h1;rw[y] at h3;cases h3;have t:MLe M (rM M l.blk l.endd vs):=rq λo C=>hM o C;have d:∀o:Nat,(w.setRow l.blk c').cell? ⟨l.blk,o,none⟩ =c'.toList[o]? :=λo=>by
  rw[cell_setRow_same w l.blk o c c' e (0,0) y];simp
 have B:∀j p n,(h.del i).at' j=some p->ρ j=some n->n.blk≠l.blk:=λj p n e1 e2 m=>by
  simp only[Heap.del] at e1;split at e1
  ·cases e1
  ·rename_i P;exact P (a.apart j i p .tok n l e1 I e2 K m)
 have F:=a.del i;refine⟨t,{ below:= ?_,imm:=λb o v f=> ?_,live:=λj p f=> ?_,apart:=F.apart,gdef:=λb m=> ?_,old:=gE a.old D }⟩
 ·exact⟨a.below.os,a.below.tape,a.below.output,by rw[setRow_size];exact a.below.size,λk J=>by
   have u:k≠l.blk:=λe=>D (by rw[<-e];exact J);rw[setRow_other w _ _ _ u];exact a.below.block k J,a.below.drawn⟩
 ·unfold rM at f;split at f
  ·rename_i E;obtain⟨rfl,h5,N⟩:=E;rw[d,s,qr _ _ _ (by simpa using g),iq ow,ip N];exact f
  ·rename_i E;by_cases r:b=l.blk
   ·subst r;have O:o<l.endd:=by
     rcases Nat.lt_or_ge o l.endd with z|z
     ·exact z
     ·rw[hM o z] at f;cases f
    rw[d,s,qr _ _ _ (by simpa using g),ip O];have:=a.imm _ _ _ f;simp only[World.cell?,y,Option.isSome_none,Bool.false_eq_true,if_false] at this;simpa using this
   ·rw[cell_setRow_other w _ _ _ r];exact a.imm _ _ _ f
 ·obtain⟨n,x,q,L⟩:=F.live j p f;have A:=B j p n f x;refine⟨n,x,q,wS t (RLe.refl _) (λo C=> ?_) (qv (setRow_other w _ _ _ A) L)⟩;unfold rM;rw[iq ow];exact C
 ·obtain⟨x,q⟩:=a.gdef b m;refine⟨x,?_⟩;rw[setRow_other w _ _ _ (λQ=>by subst Q;rw[y] at q;cases q)];exact q
def zK (h:Heap) (i:Nat) (o:Obj):(h.new i o).at' i=some o:=by simp[Heap.new]
def kU (P:Program) (e:TypeId) (cs:List D):uZ P e cs= .row cs\/uZ P e cs= .trow e false cs:=by
 unfold uZ;split
 ·split
  ·exact .inr rfl
  ·exact .inl rfl
 ·exact .inl rfl
theorem cO (O:Sim w0 G M ρ h w) (hn:ρ nid=none) {mu:Bool} {t u ty:TypeId} {s x d:D} {ud:TypeDesc} (hu:P.underlying u=some ud) (bx:∀k,ud≠ .int k) (W:rel M ρ s vy) (hx:rel M ρ x vx)
  (r:zu P mu nid t s x h=some (d,h')):YV P w0 G M ρ nid w (Builtin.append_ #[t,u] ty #[vy,vx]) d h':=by
 unfold zu at r;split at r
 ·cases r
 ·rename_i e he;have ht:=wI he;split at r
  ·rename_i hz;obtain⟨i,zv,hi,cv,dt,du,d5,ec⟩:=QO hz;generalize hS:szT P e=sz at *
   split at r
   ·cases r
   ·rename_i ys d4;have h0:0<sz:=ow;obtain⟨m,vs,R,ea,S,ba,cw⟩:=GP (P:=P) O h0 hx d4;have c6:ys.length/sz=m:=by rw[R];exact Nat.mul_div_cancel _ h0
    rw[c6] at r;obtain⟨bo,cb⟩:=cw w (Tt w);obtain⟨_,d2⟩:=cw w.drew (oS w);have X:vs.length=m*sz:=by rw[zW S,R]
    have ca:=wb S ba;have Cf:∀ (base:Option Addr) (n cap:Nat) (a:List Value) (z:List D),vy= .slice base n cap->cap<n+m->n+m<=lim->(n+m)*ye P e<=lim->
      (Builtin.firstCells sz n (.slice base n cap)).run P w.drew= .ok a.toArray w.drew->yD M ρ z a->z.all D.flat=true->z.length=n*sz->
      ∃c B,(n+m<=B/\B<=maxLen)/\c.size=B*sz/\c.toList.take (a++vs).length=a++vs/\
       (Builtin.append_ #[t,u] ty #[vy,vx]).run P w= .ok (.slice (some ⟨w.heap.size,0,none⟩) (n+m) B) (w.drew.alloc (.cells c e)):=by
     intro base n cap a z hb A K L ho H V Q;subst hb;have dv:a.length=n*sz:=by rw[zW H,Q]
     have c7:=dm (P:=P) (w:=w) t u ty e ht hu bx hi du base n cap m vx a vs bo (by rw[cv];exact d2) (by rw[cv];exact ho) A K (by rw[dt];exact L);have dr:=grownCap_ge w (n+m) cap e;refine⟨_,_,⟨dr,grownCap_le_maxLen w (n+m) cap e (by unfold maxLen;unfold lim at K;omega)⟩,?_,?_,c7⟩
     ·simp only[Array.size_append,size_toArray,size_zeroCells,d5];rw[dv,X,<-Nat.add_mul,<-Nat.add_mul];congr 1;omega
     ·rw[show(a.toArray++vs.toArray++Builtin.zeroCells zv.cells (grownCap w (n+m) cap e- (n+m))).toList=(a++vs)++(Builtin.zeroCells zv.cells (grownCap w (n+m) cap e- (n+m))).toList by simp[append_assoc]];exact take_left' rfl
    have au:∀ (base:Option Addr) (n cap:Nat) (a:List Value) (z:List D) (Z:Heap),Sim w0 G M ρ Z w->vy= .slice base n cap->cap<n+m->n+m<=lim->(n+m)*ye P e<=lim->
      (Builtin.firstCells sz n (.slice base n cap)).run P w.drew= .ok a.toArray w.drew->yD M ρ z a->z.all D.flat=true->z.length=n*sz->
      YV P w0 G M ρ nid w (Builtin.append_ #[t,u] ty #[vy,vx]) (.sl sz (yH sz (n+m) (z++ys)) (.own nid)) (Z.new nid .tok):=by
     intro base n cap a z Z cc hb A K L ho H V Q;obtain⟨c,B,g1,g2,g3,g4⟩:=Cf base n cap a z hb A K L ho H V Q;obtain⟨M',ρ',k1,k2,k3,k4,k5⟩:=cc.drew.growTok hn (ys:=z++ys) (vs:=a++vs) c e (sz:=sz) (n:=n+m) (cap:=B) h0 (by rw[length_append,Q,R,Nat.add_mul]) (qH H S) (by rw[all_append,V,ba];rfl) g3 g2 g1.1 K ow;exact⟨_,_,M',ρ',g4,k1,k2,λi hi=>k3 i (rQ hi),k4,k5⟩
    have b2:∀ (base:Option Addr) (n cap:Nat) (a:List Value) (z:List D) (Z:Heap),Sim w0 G M ρ Z w->vy= .slice base n cap->cap<n+m->n+m<=lim->(n+m)*ye P e<=lim->
      (Builtin.firstCells sz n (.slice base n cap)).run P w.drew= .ok a.toArray w.drew->yD M ρ z a->z.all D.flat=true->z.length=n*sz->
      YV P w0 G M ρ nid w (Builtin.append_ #[t,u] ty #[vy,vx]) (.rs nid sz 0 (n+m)) (Z.new nid (.row (z++ys))):=by
     intro base n cap a z Z cc hb A K L ho H V Q;obtain⟨c,B,g1,g2,g3,g4⟩:=Cf base n cap a z hb A K L ho H V Q;have ai:(z++ys).length=(a++vs).length:=by rw[<-zW (qH H S)]
     have ad:(z++ys).length<=c.size:=by
      rw[g2,length_append,Q,R,<-Nat.add_mul];exact Nat.mul_le_mul_right _ g1.1
     have y:=cc.drew.newRow hn e (ds:=z++ys) (c:=c) ad (by rw[ai,g3];exact qH H S) (by rw[all_append,V,ba];rfl);refine⟨_,_,M,_,g4,MLe.refl _,qL hn,λi hi=>by simp[uf,rQ hi],y,?_⟩;simp only[rel];exact⟨h0,K,_,B,0,by simp[uf];rfl,rfl,g1,by simp;omega, .inr rfl⟩
    have b3:∀ (base:Option Addr) (n cap:Nat) (a:List Value) (z:List D) (Z:Heap),Sim w0 G M ρ Z w->vy= .slice base n cap->cap<n+m->n+m<=lim->(n+m)*ye P e<=lim->
      (Builtin.firstCells sz n (.slice base n cap)).run P w.drew= .ok a.toArray w.drew->yD M ρ z a->z.all D.flat=true->z.length=n*sz->
      YV P w0 G M ρ nid w (Builtin.append_ #[t,u] ty #[vy,vx]) (.rs nid sz 0 (n+m)) (Z.new nid (.trow e false (z++ys))):=by
     intro base n cap a z Z cc hb A K L ho H V Q;obtain⟨c,B,g1,g2,g3,g4⟩:=Cf base n cap a z hb A K L ho H V Q;have ai:(z++ys).length=(a++vs).length:=by rw[<-zW (qH H S)]
     have ad:(z++ys).length<=c.size:=by
      rw[g2,length_append,Q,R,<-Nat.add_mul];exact Nat.mul_le_mul_right _ g1.1
     have y:=cc.drew.newTRow hn e false (ds:=z++ys) (c:=c) ad (λq=>by cases q) (by rw[ai,g3];exact qH H S) (by rw[all_append,V,ba];rfl);refine⟨_,_,M,_,g4,MLe.refl _,qL hn,λi hi=>by simp[uf,rQ hi],y,?_⟩;simp only[rel];exact⟨h0,K,_,B,0,by simp[uf];rfl,rfl,g1,by simp;omega, .inr rfl⟩
    have b1:∀ (base:Option Addr) (n cap:Nat) (a:List Value) (z:List D) (Z:Heap),Sim w0 G M ρ Z w->vy= .slice base n cap->cap<n+m->n+m<=lim->(n+m)*ye P e<=lim->
      (Builtin.firstCells sz n (.slice base n cap)).run P w.drew= .ok a.toArray w.drew->yD M ρ z a->z.all D.flat=true->z.length=n*sz->
      YV P w0 G M ρ nid w (Builtin.append_ #[t,u] ty #[vy,vx]) (.rs nid sz 0 (n+m)) (Z.new nid (uZ P e (z++ys))):=by
     intro base n cap a z Z a1 a2 a3 a4 a5 a6 a7 a8 a9;rcases kU P e (z++ys) with q|q
     ·rw[q];exact b2 base n cap a z Z a1 a2 a3 a4 a5 a6 a7 a8 a9
     ·rw[q];exact b3 base n cap a z Z a1 a2 a3 a4 a5 a6 a7 a8 a9
    unfold qf at r;split at r
    ·
     simp only[rel] at W;subst W;split at r
     ·rename_i b9;cases r;subst b9;have:=uL (P:=P) (w:=w) t u ty e ht hu bx ow none 0 0 0 vx vs bo (by rw[hS];exact cb) (le_refl _) w rfl;exact .pure O this (by simp only[rel])
     ·rename_i b9;split at r
      ·rename_i hc;simp only[Bool.and_eq_true,decide_eq_true_eq] at hc;split at r
       ·cases r;have:=b1 none 0 0 [] [] h O rfl ow ow (by rw[Nat.zero_add];exact hc.1) rfl (by simp[yD]) rfl (by simp);simpa using this
       ·cases r;have:=au none 0 0 [] [] h O rfl ow ow (by rw[Nat.zero_add];exact hc.1) rfl (by simp[yD]) rfl (by simp);simpa using this
      ·cases r
    ·
     rename_i f xs tk;split at r
     ·rename_i hc;simp only[Bool.and_eq_true,decide_eq_true_eq] at hc;obtain⟨⟨cf,bb⟩,T⟩:=hc;subst cf;have da:=W;simp only[rel] at W;obtain⟨_,db,b,p,cap,⟨sp,rfl,c9⟩,A,hE,c4⟩:=W;obtain⟨hC,bk⟩:=ss hE;obtain⟨a,o1,o2,o3,o4⟩:=(O.holds hC).firstCells (P:=P) (off:=0) (n:=xs.length*f) ow;have ch:(xs.flatten.drop 0).take (xs.length*f)=xs.flatten:=by rw[drop_zero,<-bk,take_length]
      rw[ch] at o1 o2;have ho:(Builtin.firstCells f xs.length (.slice (some ⟨b,p,sp⟩) xs.length cap)).run P w.drew= .ok a.toArray w.drew:=by
       rcases c9 with rfl|rfl
       ·simpa [Builtin.firstCells] using o4 w.drew (oS w)
       ·obtain rfl:xs= []:=eq_nil_of_length_eq_zero ow
        have:a= []:=by apply eq_nil_of_length_eq_zero;simpa using o3
        subst this;simp[Builtin.firstCells,Go.loadCells,loadCellsFrom]
      have cm:=tp f xs ys m (Zv hE);split at r
      ·cases r
      ·simp only at c4;subst c4;split at r
       ·rename_i b9;cases r;subst b9;have cl:vs= []:=by apply eq_nil_of_length_eq_zero;omega
        have:=uL (P:=P) (w:=w) t u ty e ht hu bx ow (some ⟨b,p,sp⟩) xs.length xs.length 0 vx vs bo (by rw[hS];exact cb) ow w (by subst cl;rfl);exact .pure O this (by simpa using da)
       ·rename_i b9;split at r
        ·cases r;exact b1 _ xs.length xs.length a xs.flatten h O rfl ow T bb ho o1 o2 bk
        ·cases r;rw[<-cm];exact au _ xs.length xs.length a xs.flatten h O rfl ow T bb ho o1 o2 bk
      ·rename_i ti;obtain⟨l,hl,c2,ad,d0,di⟩:=c4;obtain rfl:sp=none:=c9.resolve_right ow;split at r
       ·rename_i cg;split at r
        ·cases r
        ·cases r;rw[<-cm];by_cases g:xs.length+m<=cap
         ·obtain⟨l',g1,g2,hM,d6,c,e0,hw,Y⟩:=O.live ti _ cg;rw[hl] at g1;cases g1;have b5:(xs.length+m)*f<=cap*f:=Nat.mul_le_mul_right _ g;have b7:l.endd+vs.length<=c.size:=by rw[ad,X,<-Y,Nat.add_assoc,<-Nat.add_mul];omega
          have bs:=run_storeCells_at P l.blk l.endd e0 vs 0 c w hw ow ca;rw[Nat.add_zero] at bs;obtain⟨k1,k2⟩:=O.behind cg hl hw b7 (c.toList.take l.endd++vs++c.toList.drop (l.endd+vs.length)).toArray (by simp);have N:=uL (P:=P) (w:=w) t u ty e ht hu bx ow (some ⟨b,p,none⟩) xs.length cap m vx vs bo (by rw[hS];exact cb) g _ (by
           simp only[qV,hS];rw[<-c2,<-ad];exact bs)
          have F:(c.toList.take l.endd++vs++c.toList.drop (l.endd+vs.length)).length=c.size:=by simp;omega
          have k3:=k2.addObj (nid:=nid) hn ⟨l.blk,l.endd+vs.length,l.size⟩ .tok g2 (λj oj lj e1 e2 b4=>by
            simp only[Heap.del] at e1;split at e1
            ·cases e1
            ·rename_i U;exact U (O.apart j ti oj .tok lj l e1 cg e2 hl b4))
           ⟨λo d1=>by
             simp only at d1⊢;unfold rM;rw[iq ow];exact hM o ow,by simp;omega,_,e0,setRow_heap w l.blk c _ e0 (0,0) hw,by simp only[size_toArray];rw[F,Y]⟩
          refine⟨_,_,_,_,N,k1,qL hn,λi hi=>by simp[uf,rQ hi],k3,?_⟩;simp only[rel,cm,length_append,qg];refine⟨h0,T,b,p,cap,QD.mk _ _ _ _,g,?_,(⟨l.blk,l.endd+vs.length,l.size⟩:Loc),by simp[uf],c2,by simp only;rw[ad,X,Nat.add_assoc,<-Nat.add_mul],by simpa using d0,di⟩;have dd:sj (rM M l.blk l.endd vs) (uf ρ nid ⟨l.blk,l.endd+vs.length,l.size⟩) (xs.flatten++ys) b p:=by
           refine gN (nq k1 (qL hn) _ _ _ hC) (yu λi d hi=> ?_);obtain⟨v,e1,e2⟩:=qC S i d hi;refine⟨all_eq_true.1 ba d (mem_of_getElem? hi),v,?_,qU k1 (qL hn) _ _ e2⟩;rw[bk,<-ad,<-c2];exact bv e1
          rw[<-cm];refine ue λi x' c5=> ?_;have hi:i<xs.length+m:=by rw[<-qg f (xs.length+m) (xs.flatten++ys)];exact(List.getElem?_eq_some_iff.1 c5).1
          rw[lQ _ _ _ _ hi] at c5;cases c5;have cp:i*f+f<=(xs.length+m)*f:=by rw[<-Nat.succ_mul];exact Nat.mul_le_mul_right _ hi
          have d8:(xs.flatten++ys).length=(xs.length+m)*f:=by rw[length_append,bk,R,Nat.add_mul]
          refine⟨by simp only[length_take,length_drop];omega,yu λj d hd=> ?_⟩;simp only[getElem?_take,getElem?_drop] at hd;split at hd
          ·obtain⟨q0,v,q1,q2⟩:=to dd _ d hd;exact⟨q0,v,by rw[<-q1];congr 1;omega,q2⟩
          ·cases hd
         ·exact au _ xs.length cap a xs.flatten (h.del ti) (O.del ti) rfl ow T bb ho o1 o2 bk
       ·cases r
     ·cases r
    ·
     rename_i id f off n;split at r
     ·rename_i hc;simp only[Bool.and_eq_true,decide_eq_true_eq] at hc;obtain⟨⟨⟨⟨eb,cf⟩,c8⟩,bb⟩,T⟩:=hc;subst cf c8;split at r
      ·rename_i cs y;split at r
       ·rename_i I;cases r;simp only[rel] at W;obtain⟨_,db,l,cap,o,hl,rfl,A,b8,C⟩:=W;obtain⟨l',g1,g2,hM,c,e0,hw,Y,ai,E⟩:=O.live id _ y;rw[hl] at g1;cases g1;have b6:cs.all D.flat=true:=all_eq_true.2 λq hq=>by
         obtain⟨j,U⟩:=mem_iff_getElem?.1 hq;exact(E j q U).1
        by_cases g:n+m<=cap
        ·have b5:(n+m)*f<=cap*f:=Nat.mul_le_mul_right _ g;have b7:n*f+vs.length<=c.size:=by rw[X,<-Nat.add_mul,<-Y];omega
         have bs:(storeCells ((⟨l.blk,o,none⟩:Addr).add (n*f)) vs).run P w= .ok () (w.setRow l.blk (c.toList.take (n*f)++vs++c.toList.drop (n*f+vs.length)).toArray):=by
          rcases C with c0|C
          ·have cl:vs= []:=by
            apply eq_nil_of_length_eq_zero;rw[X,show m=0 by omega,Nat.zero_mul]
           subst cl;have c1:(c.toList.take (n*f)++([]:List Value)++c.toList.drop (n*f+([]:List Value).length)).toArray=c:=by simp
           rw[c1,setRow_self w l.blk c e0 (0,0) hw];rfl
          ·subst C;have:=run_storeCells_at P l.blk (n*f) e0 vs 0 c w hw ow ca;rw[qV,Nat.zero_add];simpa using this
         have N:=uL (P:=P) (w:=w) t u ty e ht hu bx ow (some ⟨l.blk,o,none⟩) n cap m vx vs bo (by rw[hS];exact cb) g _ (by simp only[hS];exact bs);have F:(c.toList.take (n*f)++vs++c.toList.drop (n*f+vs.length)).length=c.size:=by simp;omega
         have ak:yD M ρ (cs++ys) ((c.toList.take (n*f)++vs++c.toList.drop (n*f+vs.length)).take (cs++ys).length):=by
          have L:(cs++ys).length=n*f+vs.length:=by rw[length_append,I,X,R]
          rw[L,take_left' (by simp;omega)];refine qH (yG (by simp;omega) λj q v h1 h2=> ?_) S;obtain⟨_,u',e1,e2⟩:=E j q h1;have cp:j<n*f:=by rw[<-I];exact(List.getElem?_eq_some_iff.1 h1).1
          rw[getElem?_take,ip cp] at h2
          have:some v=some u':=by rw[<-h2,<-e1];simp
          cases this;exact e2
         have ag:(cs++ys).length<=(c.toList.take (n*f)++vs++c.toList.drop (n*f+vs.length)).toArray.size:=by
          simp only[size_toArray];rw[F,length_append,I,R,<-Nat.add_mul];omega
         have J:(cs++ys).all D.flat=true:=by rw[all_append,b6,ba];rfl
         have k1:=O.setRow y hl hw (c':=(c.toList.take (n*f)++vs++c.toList.drop (n*f+vs.length)).toArray) (by simp only[size_toArray];exact F) ag ak J;have k2:=(k1.del id).addObj (nid:=nid) hn l (.row (cs++ys)) g2 (λj oj lj e1 e2 b4=>by
           simp only[Heap.del,Heap.set] at e1;split at e1
           ·cases e1
           ·rename_i U;exact U (O.apart j id oj (.row cs) lj l e1 y e2 hl b4))
          (oQ hM (setRow_heap w l.blk c _ e0 (0,0) hw) (by simp only[size_toArray];rw[F,Y]) ag (wR (MLe.refl _) (qL hn) _ _ ak) J)
         refine⟨_,_,M,_,N,MLe.refl _,qL hn,λj U=>by simp[uf,rQ U],k2.less (λj oj e1=> ?_),?_⟩
         ·simp only[Heap.new,Heap.del,Heap.set] at e1⊢;by_cases U:j=nid
          ·rw[ip U] at e1⊢;exact e1
          ·rw[iq U] at e1⊢;by_cases a0:j=id
           ·rw[ip a0] at e1;cases e1
           ·rw[iq a0] at e1⊢;rw[iq a0];exact e1
         ·simp only[rel];exact⟨h0,T,l,cap,o,by simp[uf],rfl,⟨g,A.2⟩,b8,C⟩
        ·obtain⟨a,o1,o2,o3,o4⟩:=(O.row y hl).firstCells (P:=P) (off:=0) (n:=n*f) ow;have ch:(cs.drop 0).take (n*f)=cs:=by rw[drop_zero,<-I,take_length]
         rw[ch] at o1 o2;have ho:(Builtin.firstCells f n (.slice (some ⟨l.blk,o,none⟩) n cap)).run P w.drew= .ok a.toArray w.drew:=by
          rcases C with c0|C
          ·have c3:n=0:=ow;subst c3
           have:a= []:=by apply eq_nil_of_length_eq_zero;omega
           subst this;simp[Builtin.firstCells,Go.loadCells,loadCellsFrom]
          ·subst C;have:=o4 w.drew (oS w);simpa [Builtin.firstCells] using this
         exact b2 _ n cap a cs (h.del id) (O.del id) rfl ow T bb ho o1 o2 I
       ·cases r
      ·rename_i e2 full cs y;split at r
       ·cases r
       split at r
       ·rename_i cu;simp only[Bool.and_eq_true,decide_eq_true_eq] at cu;obtain⟨dk,I⟩:=cu;obtain rfl:e=e2:=dk.symm;cases r;simp only[rel] at W;obtain⟨_,db,l,cap,o,hl,rfl,A,b8,C⟩:=W;obtain⟨l',g1,g2,hM,c,e0,hw,Y,ai,E,d3,_⟩:=O.live id _ y;rw[hl] at g1;cases g1;have b6:cs.all D.flat=true:=all_eq_true.2 λq hq=>by
         obtain⟨j,U⟩:=mem_iff_getElem?.1 hq;exact(E j q U).1
        by_cases g:n+m<=cap
        ·have b5:(n+m)*f<=cap*f:=Nat.mul_le_mul_right _ g;have b7:n*f+vs.length<=c.size:=by rw[X,<-Nat.add_mul,<-Y];omega
         have bs:(storeCells ((⟨l.blk,o,none⟩:Addr).add (n*f)) vs).run P w= .ok () (w.setRow l.blk (c.toList.take (n*f)++vs++c.toList.drop (n*f+vs.length)).toArray):=by
          rcases C with c0|C
          ·have cl:vs= []:=by
            apply eq_nil_of_length_eq_zero;rw[X,show m=0 by omega,Nat.zero_mul]
           subst cl;have c1:(c.toList.take (n*f)++([]:List Value)++c.toList.drop (n*f+([]:List Value).length)).toArray=c:=by simp
           rw[c1,setRow_self w l.blk c e0 (0,0) hw];rfl
          ·subst C;have:=run_storeCells_at P l.blk (n*f) e0 vs 0 c w hw ow ca;rw[qV,Nat.zero_add];simpa using this
         have N:=uL (P:=P) (w:=w) t u ty e ht hu bx ow (some ⟨l.blk,o,none⟩) n cap m vx vs bo (by rw[hS];exact cb) g _ (by simp only[hS];exact bs);have F:(c.toList.take (n*f)++vs++c.toList.drop (n*f+vs.length)).length=c.size:=by simp;omega
         have ak:yD M ρ (cs++ys) ((c.toList.take (n*f)++vs++c.toList.drop (n*f+vs.length)).take (cs++ys).length):=by
          have L:(cs++ys).length=n*f+vs.length:=by rw[length_append,I,X,R]
          rw[L,take_left' (by simp;omega)];refine qH (yG (by simp;omega) λj q v h1 h2=> ?_) S;obtain⟨_,u',e1,e2⟩:=E j q h1;have cp:j<n*f:=by rw[<-I];exact(List.getElem?_eq_some_iff.1 h1).1
          rw[getElem?_take,ip cp] at h2
          have:some v=some u':=by rw[<-h2,<-e1];simp
          cases this;exact e2
         have ag:(cs++ys).length<=(c.toList.take (n*f)++vs++c.toList.drop (n*f+vs.length)).toArray.size:=by
          simp only[size_toArray];rw[F,length_append,I,R,<-Nat.add_mul];omega
         have J:(cs++ys).all D.flat=true:=by rw[all_append,b6,ba];rfl
         have k1:=O.setTRow' y hl hw (c':=(c.toList.take (n*f)++vs++c.toList.drop (n*f+vs.length)).toArray) (by simp only[size_toArray];exact F) ag ak J;have k2:=(k1.del id).addObj (nid:=nid) hn l (.trow e false (cs++ys)) g2 (λj oj lj e1 e2 b4=>by
           simp only[Heap.del,Heap.set] at e1;split at e1
           ·cases e1
           ·rename_i U;exact U (O.apart j id oj (.trow e false cs) lj l e1 y e2 hl b4))
          (rt hM (by rw[<-d3];exact setRow_heap w l.blk c _ e0 (0,0) hw) (by simp only[size_toArray];rw[F,Y]) ag (λq=>by cases q) (wR (MLe.refl _) (qL hn) _ _ ak) J)
         refine⟨_,_,M,_,N,MLe.refl _,qL hn,λj U=>by simp[uf,rQ U],k2.less (λj oj e1=> ?_),?_⟩
         ·simp only[Heap.new,Heap.del,Heap.set] at e1⊢;by_cases U:j=nid
          ·rw[ip U] at e1⊢;exact e1
          ·rw[iq U] at e1⊢;by_cases a0:j=id
           ·rw[ip a0] at e1;cases e1
           ·rw[iq a0] at e1⊢;rw[iq a0];exact e1
         ·simp only[rel];exact⟨h0,T,l,cap,o,by simp[uf],rfl,⟨g,A.2⟩,b8,C⟩
        ·obtain⟨a,o1,o2,o3,o4⟩:=(O.trow y hl).firstCells (P:=P) (off:=0) (n:=n*f) ow;have ch:(cs.drop 0).take (n*f)=cs:=by rw[drop_zero,<-I,take_length]
         rw[ch] at o1 o2;have ho:(Builtin.firstCells f n (.slice (some ⟨l.blk,o,none⟩) n cap)).run P w.drew= .ok a.toArray w.drew:=by
          rcases C with c0|C
          ·have c3:n=0:=ow;subst c3
           have:a= []:=by apply eq_nil_of_length_eq_zero;omega
           subst this;simp[Builtin.firstCells,Go.loadCells,loadCellsFrom]
          ·subst C;have:=o4 w.drew (oS w);simpa [Builtin.firstCells] using this
         exact b3 _ n cap a cs (h.del id) (O.del id) rfl ow T bb ho o1 o2 I
       ·cases r
      ·cases r
     ·cases r
    ·cases r
  ·cases r
def Sim.trunc (b:Sim w0 G M ρ h w) (o:h.at' id=some (.row cs)) (k:Nat):Sim w0 G M ρ (h.set id (.row (cs.take k))) w:=by
 refine { below:=b.below,imm:=b.imm,live:=λi B e=> ?_,apart:=λi j C D z A e1 e2 r1 r2 v=> ?_,gdef:=b.gdef,old:=b.old }
 ·simp only[Heap.set] at e;split at e
  ·rename_i hid;subst hid;cases e;obtain⟨l,t,u,hM,c,s,y,m,p,a⟩:=b.live _ _ o;refine⟨l,t,u,hM,c,s,y,m,by simp;omega,λj d f=> ?_⟩;rw[getElem?_take] at f;split at f
   ·exact a j d f
   ·cases f
  ·exact b.live i B e
 ·have g:∀q r,(h.set id (.row (cs.take k))).at' q=some r->∃n,h.at' q=some n:=λq r e=>by
   simp only[Heap.set] at e;split at e
   ·rename_i x;subst x;exact⟨_,o⟩
   ·exact⟨_,e⟩
  obtain⟨o1,k1⟩:=g i C e1;obtain⟨o2,k2⟩:=g j D e2;exact b.apart i j o1 o2 z A k1 k2 r1 r2 v
def Sim.truncRs (a:Sim w0 G M ρ h w) (s x:D):Sim w0 G M ρ (qY s x h) w:=by
 unfold V.qY;split
 ·split
  ·exact a
  ·split
   ·rename_i cs b;split
    ·exact a.trunc b _
    ·exact a
   ·exact a
 ·exact a
def WC (f:Sim w0 G M ρ h w) (e:ρ nid=none) {mu:Bool} {t u ty:TypeId} {s x d:D} {j:TypeDesc} (g:P.underlying u=some j) (b:∀k,j≠ .int k) (a:rel M ρ s vy) (i:rel M ρ x vx)
  (c:tj P mu nid t s x h=some (d,h')):YV P w0 G M ρ nid w (Builtin.append_ #[t,u] ty #[vy,vx]) d h':=by
 unfold tj at c;split at c
 ·exact cO (f.truncRs s x) e g b a i c
 ·exact cO f e g b a i c
end
end Go.V
