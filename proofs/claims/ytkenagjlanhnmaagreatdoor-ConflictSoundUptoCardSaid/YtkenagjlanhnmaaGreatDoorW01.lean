/- A machine of abstract values for programs of the model, further rules, part 1. No condition. -/
import Derived.Test.YtkenagjlanhnmaaGreatDoorW00
import Derived.Laws.CopyRow
import Derived.ChangeKeysEq
import Derived.Laws.StructEq
import Derived.Laws.Concat
import Derived.Lib.Builder
import Derived.Laws.Slices
import Derived.Great.FillDense
set_option linter.all false
set_option maxHeartbeats 8000000
namespace Go.V
open Go.RowKit (Below)
structure Loc where
 blk:Nat
 endd:Nat
 size:Nat
abbrev Imm:=Nat->Nat->Option Value
abbrev Ren:=Nat->Option Loc
def fits(k:IntKind)(n:Int):Prop:=k.wrap n=n
def Ib(v:Value)(b p n cap:Nat):Prop:=∃sp,v=.slice (some ⟨b,p,sp⟩) n cap/\(sp=none\/cap=0)
theorem Ib.mk(b p n cap:Nat):Ib (.slice (some ⟨b,p,none⟩) n cap) b p n cap:=⟨none,rfl,.inl rfl⟩
mutual
def rel(M:Imm)(ρ:Ren):D->Value->Prop
  |.bool b,v=>v=.bool b
  |.int k n,v=>v=.int k n/\fits k n
  |.str s,v=>∃b:ByteArray,v=.string b/\b.data.toList=s/\s.length<=lim
  |.nilptr,v=>v=.pointer none
  |.ptr id off,v=>∃l,ρ id=some l/\v=.pointer (some ⟨l.blk,off,none⟩)
  |.iptr cs off,v=>∃b p,v=.pointer (some ⟨b,p+off,none⟩)/\lM M ρ cs b p
  |.nilsl,v=>v=.slice none 0 0
  |.sl sz xs tk,v=>0<sz/\xs.length<=lim/\∃b p cap,Ib v b p xs.length cap/\xs.length<=cap/\gg M ρ sz xs b p/\
      (match tk with
       |.no=>True
       |.full=>cap=xs.length
       |.own t=>∃l,ρ t=some l/\l.blk=b/\l.endd=p+xs.length*sz/\p+cap*sz<=l.size/\0<cap)
  |.rs id sz off len,v=>0<sz/\len<=lim/\∃l cap o,ρ id=some l/\v=.slice (some ⟨l.blk,o,none⟩) len cap/\(len<=cap/\cap<=maxLen)/\off+cap*sz<=l.size/\(cap=0\/o=off)
  |.nilmap,v=>v=.map none
  |.map id,v=>∃l,ρ id=some l/\v=.map (some l.blk)
  |.fn f a c,v=>(∃g,f=.func g)/\∃va vc,v=.func f va vc/\wG M ρ a va.toList/\wG M ρ c vc.toList
  |.yld id,v=>∃l,ρ id=some l/\v=.func (.yield l.blk) #[] #[]
  |.nilfn,v=>v=.nilFunc
  |.agg cs,v=>∃vs,v=.agg vs/\wG M ρ cs vs.toList/\cs.all D.flat=true
  |.tuple cs,v=>∃vs,v=.tuple vs/\wG M ρ cs vs.toList
  |.iface t d,v=>∃u,v=.iface t u/\rel M ρ d u
  |.niliface,v=>v=.nilIface
def wG(M:Imm)(ρ:Ren):List D->List Value->Prop
 | [],vs=>vs= []
 |d::ds,vs=>∃v vs',vs=v::vs'/\rel M ρ d v/\wG M ρ ds vs'
def lM(M:Imm)(ρ:Ren):List D->Nat->Nat->Prop
 | [],_,_=>True
 |d::ds,b,p=>(d.flat=true/\∃v,M b p=some v/\rel M ρ d v)/\lM M ρ ds b (p+1)
def gg(M:Imm)(ρ:Ren)(sz:Nat):List (List D)->Nat->Nat->Prop
 | [],_,_=>True
 |x::xs,b,p=>x.length=sz/\lM M ρ x b p/\gg M ρ sz xs b (p+sz)
end
def MLe(M M':Imm):Prop:=∀b o v,M b o=some v->M' b o=some v
def RLe(ρ ρ':Ren):Prop:=∀i l,ρ i=some l->ρ' i=some l
def MLe.refl(M:Imm):MLe M M:=λ_ _ _ h=>h
theorem RLe.refl(ρ:Ren):RLe ρ ρ:=λ_ _ h=>h
def MLe.trans{M M' a:Imm}(h:MLe M M')(h':MLe M' a):MLe M a:=λb o v e=>h' b o v (h b o v e)
def RLe.trans{M M' a:Ren}(h:RLe M M')(h':RLe M' a):RLe M a:=λi l e=>h' i l (h i l e)
section mono
variable{M M':Imm}{ρ ρ':Ren}(hM:MLe M M')(hr:RLe ρ ρ')
mutual
theorem u9(hM:MLe M M')(hr:RLe ρ ρ'):∀(d:D)(v:Value),rel M ρ d v->rel M' ρ' d v
 |.bool _,_,h=>by simpa [rel]using h
 |.int _ _,_,h=>by simpa [rel]using h
 |.str _,_,h=>by simpa [rel]using h
 |.nilptr,_,h=>by simpa [rel]using h
 |.ptr _ _,_,h=>by grind [rel,MLe,RLe]
 |.iptr cs off,_,h=>by
  obtain⟨b,p,h1,e⟩:=h;exact⟨b,p,h1,bn hM hr cs b p e⟩
 |.nilsl,_,h=>by simpa [rel]using h
 |.sl sz xs tk,_,h=>by
  obtain⟨h0,i,b,p,cap,h1,e,h3,g⟩:=h;refine⟨h0,i,b,p,cap,h1,e,Xz hM hr sz xs b p h3,?_⟩;cases tk with
  |no=>trivial
  |full=>exact g
  |own t=>
   grind [MLe,RLe,rel]
 |.rs _ _ _ _,_,h=>by grind [rel,MLe,RLe]
 |.nilmap,_,h=>by simpa [rel]using h
 |.map _,_,h=>by grind [rel,MLe,RLe]
 |.fn f a c,_,h=>by
  obtain⟨h0,j,k,h1,e,h3⟩:=h;exact⟨h0,j,k,h1,rW hM hr a _ e,rW hM hr c _ h3⟩
 |.yld _,_,h=>by grind [rel,MLe,RLe]
 |.nilfn,_,h=>by simpa [rel]using h
 |.agg cs,_,h=>by
  obtain⟨vs,h1,e,h3⟩:=h;exact⟨vs,h1,rW hM hr cs _ e,h3⟩
 |.tuple cs,_,h=>by
  obtain⟨vs,h1,e⟩:=h;exact⟨vs,h1,rW hM hr cs _ e⟩
 |.iface t d,_,h=>by
  obtain⟨u,h1,e⟩:=h;exact⟨u,h1,u9 hM hr d u e⟩
 |.niliface,_,h=>by simpa [rel]using h
theorem rW(hM:MLe M M')(hr:RLe ρ ρ'):∀(ds:List D)(vs:List Value),wG M ρ ds vs->wG M' ρ' ds vs
 | [],_,h=>by simpa [wG]using h
 |d::ds,_,h=>by
  obtain⟨v,a,h1,b,h3⟩:=h;exact⟨v,a,h1,u9 hM hr d v b,rW hM hr ds a h3⟩
theorem bn(hM:MLe M M')(hr:RLe ρ ρ'):∀(ds:List D)(b p:Nat),lM M ρ ds b p->lM M' ρ' ds b p
 | [],_,_,_=>by simp[lM]
 |d::ds,b,p,h=>by
  obtain⟨⟨h0,v,h1,a⟩,h3⟩:=h;exact⟨⟨h0,v,hM _ _ _ h1,u9 hM hr d v a⟩,bn hM hr ds b (p+1) h3⟩
theorem Xz(hM:MLe M M')(hr:RLe ρ ρ'):∀(sz:Nat)(xs:List (List D))(b p:Nat),gg M ρ sz xs b p->gg M' ρ' sz xs b p
 |_,[],_,_,_=>by simp[gg]
 |sz,x::xs,b,p,h=>by
  exact⟨h.1,bn hM hr x b p h.2.1,Xz hM hr sz xs b (p+sz) h.2.2⟩
end
end mono
variable{M:Imm}{ρ:Ren}{sz i nid n id:Nat}{w w':World}{vs:List Value}{v vx vy:Value}{h' h:Heap}{t u:TypeId}{cs ds:List D}{d x y z:D}{ob:Obj}{r:Bool}{lo hi:Option D}{xs:List (List D)}{α:Type}
theorem yw:∀{ds:List D}{vs:List Value},wG M ρ ds vs->vs.length=ds.length
 | [],_,h=>by grind [wG]
 |d::ds,vs,h=>by
  obtain⟨v,a,rfl,_,h3⟩:=h;simp[yw h3]
theorem th:∀{ds:List D}{vs:List Value},wG M ρ ds vs->∀(i:Nat)(d:D),ds[i]? =some d->∃v,vs[i]? =some v/\rel M ρ d v
 | [],_,_,i,d,a=>by simp at a
 |e::ds,vs,h,i,d,a=>by
  obtain⟨v,c,rfl,b,h3⟩:=h;cases i with
  |zero=>simp at a;subst a;exact⟨v,jS,b⟩
  |succ i=>simp at a;simpa using th h3 i d a
theorem wF:∀{ds:List D}{vs:List Value},vs.length=ds.length->(∀(i:Nat)(d:D)(v:Value),ds[i]? =some d->vs[i]? =some v->rel M ρ d v)->wG M ρ ds vs
 | [],vs,a,_=>by grind [wG]
 |d::ds,[],a,_=>by simp at a
 |d::ds,v::vs,a,h=>by
  exact⟨v,vs,rfl,h 0 d v jS jS,wF (by simpa using a) λi e u b c=>h (i+1) e u (by simpa using b) (by simpa using c)⟩
theorem nv:∀{ds:List D}{b p:Nat},lM M ρ ds b p->∀(i:Nat)(d:D),ds[i]? =some d->d.flat=true/\∃v,M b (p+i)=some v/\rel M ρ d v
 | [],_,_,_,i,d,a=>by simp at a
 |e::ds,b,p,h,i,d,a=>by
  obtain⟨⟨h0,v,h1,c⟩,h3⟩:=h;cases i with
  |zero=>simp at a;subst a;exact⟨h0,v,h1,c⟩
  |succ i=>
   obtain⟨hf,u,f,hr⟩:=nv h3 i d a
   grind
theorem uJ:∀{ds:List D}{b p:Nat},(∀(i:Nat)(d:D),ds[i]? =some d->d.flat=true/\∃v,M b (p+i)=some v/\rel M ρ d v)->lM M ρ ds b p
 | [],_,_,_=>by simp[lM]
 |d::ds,b,p,h=>by
  refine⟨by simpa using h 0 d jS,uJ λi e a=> ?_⟩;obtain⟨h0,v,h1,c⟩:=h (i+1) e (by simpa using a)
  grind
theorem YW:∀{xs:List (List D)}{b p:Nat},gg M ρ sz xs b p->∀(i:Nat)(x:List D),xs[i]? =some x->x.length=sz/\lM M ρ x b (p+i*sz)
 | [],_,_,_,i,x,a=>by simp at a
 |y::xs,b,p,h,i,x,a=>by
  cases i with
  |zero=>simp at a;subst a;simpa using⟨h.1,h.2.1⟩
  |succ i=>
   have:=YW h.2.2 i x a
   grind
theorem og:∀{xs:List (List D)}{b p:Nat},(∀(i:Nat)(x:List D),xs[i]? =some x->x.length=sz/\lM M ρ x b (p+i*sz))->gg M ρ sz xs b p
 | [],_,_,_=>by simp[gg]
 |x::xs,b,p,h=>by
  have h0:=h 0 x jS;refine⟨h0.1,by simpa using h0.2,og λi y a=> ?_⟩;have:=h (i+1) y (by simpa using a)
  grind
def pJ(M:Imm)(ρ:Ren):List (D×D)->List MapEntry->Prop
 | [],es=>es= []
 |(k,d)::ds,es=>∃e es',es=e::es'/\rel M ρ k e.key/\rel M ρ d e.val/\pJ M ρ ds es'
def VX(M:Imm)(ρ:Ren)(fr:Frm)(tmps:Array Value):Prop:=∀i,rel M ρ (fr i) (tmps.getD i undef)
def sZ(M:Imm)(ρ:Ren)(w:World)(l:Loc):Obj->Prop
 |.row cs=>(∀o,M l.blk o=none)/\∃c e,w.heap[l.blk]? =some (.cells c e (0,0))/\l.size=c.size/\cs.length<=c.size/\∀(i:Nat)(d:D),cs[i]? =some d->d.flat=true/\∃v,c[i]? =some v/\rel M ρ d v
 |.tok=>(∀o,l.endd<=o->M l.blk o=none)/\l.endd<=l.size/\∃c e,w.heap[l.blk]? =some (.cells c e (0,0))/\l.size=c.size
 |.map es=>∃en clock,w.heap[l.blk]? =some (.map en clock)/\pJ M ρ es en.toList
 |.loop r=>∃L:Go.Loop,w.heap[l.blk]? =some (.loop L)/\L.state=r.st/\L.pending=r.pending/\L.params=r.params/\L.assign=r.assign/\L.body=r.body/\L.tmps.size=r.n/\VX M ρ r.fr L.tmps
 |.siter s pos=>∃b:ByteArray,w.heap[l.blk]? =some (.stringIter b pos)/\b.data.toList=s
 |.trow t full cs=>(∀o,M l.blk o=none)/\∃c e,w.heap[l.blk]? =some (.cells c e (0,0))/\l.size=c.size/\cs.length<=c.size/\(∀(i:Nat)(d:D),cs[i]? =some d->d.flat=true/\∃v,c[i]? =some v/\rel M ρ d v)/\e=t/\(full=true->c.size=cs.length)
structure Base extends World where
 O:Imm
 keep:Nat->Prop
 kept:∀b,keep b->b<heap.size
structure Kept(w0:Base)(w:World):Prop where
 os:w.os=w0.os
 tape:w.tape=w0.tape
 output:w.output=w0.output
 size:w0.heap.size<=w.heap.size
 block:∀b,w0.keep b->w.heap[b]? =w0.heap[b]?
 drawn:w0.drawn<=w.drawn
structure Bel(n:Nat)(w w':World):Prop extends Below n w w' where
 drawn:w.drawn<=w'.drawn
def Bel.refl(n:Nat)(w:World):Bel n w w:=⟨Below.refl n w,zC _⟩
structure Sim(w0:Base)(G:List Nat)(M:Imm)(ρ:Ren)(h:Heap)(w:World):Prop where
 below:Kept w0 w
 imm:∀b o v,M b o=some v->w.cell? ⟨b,o,none⟩ =some v
 live:∀i ob,h.at' i=some ob->∃l,ρ i=some l/\¬w0.keep l.blk/\sZ M ρ w l ob
 apart:∀i j oi oj li lj,h.at' i=some oi->h.at' j=some oj->ρ i=some li->ρ j=some lj->li.blk=lj.blk->i=j
 gdef:∀b,b∈G->¬w0.keep b/\w.heap[b]? =some (.deferred (some []))
 old:∀b o v,w0.keep b->M b o=some v->w0.O b o=some v
variable{l:Loc}
def sM(b:w'.heap[l.blk]? =w.heap[l.blk]?):∀{a:Obj},sZ M ρ w l a->sZ M ρ w' l a
 :=by simp_all [sZ]
def mY:∀{a:Obj},sZ M ρ w l a->l.blk<w.heap.size
 |.row _,h=>by obtain⟨_,c,e,h,_⟩:=h;exact(yF.1 h).1
 |.tok,h=>by obtain⟨_,_,c,e,h,_⟩:=h;exact(yF.1 h).1
 |.map _,h=>by obtain⟨c,e,h,_⟩:=h;exact(yF.1 h).1
 |.loop _,h=>by obtain⟨c,h,_⟩:=h;exact(yF.1 h).1
 |.siter _ _,h=>by obtain⟨c,h,_⟩:=h;exact(yF.1 h).1
 |.trow _ _ _,h=>by obtain⟨_,c,e,h,_⟩:=h;exact(yF.1 h).1
variable{M':Imm}{ρ':Ren}
theorem Vb(hM:MLe M M')(hr:RLe ρ ρ'):∀(ds:List (D×D))(b:List MapEntry),pJ M ρ ds b->pJ M' ρ' ds b
 | [],_,h=>by simpa [pJ]using h
 |(k,d)::ds,_,h=>by
  obtain⟨e,a,h1,c,h3,f⟩:=h;exact⟨e,a,h1,u9 hM hr _ _ c,u9 hM hr _ _ h3,Vb hM hr ds a f⟩
def rU(hM:MLe M M')(hr:RLe ρ ρ')(f:∀o,M l.blk o=none->M' l.blk o=none):∀{j:Obj},sZ M ρ w l j->sZ M' ρ' w l j
 |.row _,h=>by
  obtain⟨h0,c,e,h1,a,h3,b⟩:=h;refine⟨λo=>f o (h0 o),c,e,h1,a,h3,λi d r=> ?_⟩
  grind [u9]
 |.tok,h=>⟨λo s=>f o (h.1 o s),h.2⟩
 |.map _,h=>by
  obtain⟨m,k,h1,a⟩:=h;exact⟨m,k,h1,Vb hM hr _ _ a⟩
 |.loop _,h=>by
  obtain⟨L,h1,a,h3,b,h5,n,p,q⟩:=h;exact⟨L,h1,a,h3,b,h5,n,p,λi=>u9 hM hr _ _ (q i)⟩
 |.siter _ _,h=>h
 |.trow _ _ _,h=>by
  obtain⟨h0,c,e,h1,a,h3,b,g⟩:=h;refine⟨λo=>f o (h0 o),c,e,h1,a,h3,λi d r=> ?_,g⟩
  grind [u9]
def mC(M:Imm)(b p:Nat)(vs:List Value):Imm:=λb' o=>if b'=b/\p<=o/\o<p+vs.length then vs[o-p]? else M b' o
def nQ(ρ:Ren)(i:Nat)(l:Loc):Ren:=λj=>if j=i then some l else ρ j
def tA(h:ρ i=none):RLe ρ (nQ ρ i l):=λj m e=>by grind [nQ]
theorem lV{b p:Nat}(h:∀o,p<=o->M b o=none):MLe M (mC M b p vs):=λb' o v e=>by grind [mC]
def V9{b p:Nat}(h:vs[i]? =some v):mC M b p vs b (p+i)=some v:=by grind [mC]
section sim
variable{w0:Base}{G:List Nat}{M:Imm}{ρ:Ren}{h:Heap}{w:World}
def Sim.lt(a:Sim w0 G M ρ h w){b o:Nat}(e:M b o=some v):b<w.heap.size:=by
 have:=World.block_lt_of_cell? _ _ (a.imm b o v e);exact this
def Sim.none_at(a:Sim w0 G M ρ h w){b:Nat}(c:w.heap.size<=b)(o:Nat):M b o=none:=by
 cases e:M b o with
 |none=>rfl
 |some v=>have:=a.lt e;omega
def Sim.nokeep(c:Sim w0 G M ρ h w){b:Nat}(d:w.heap.size<=b):¬w0.keep b:=λa=>by
 have:=w0.kept b a;have:=c.below.size;omega
def Kept.world(a:Kept w0 w)(c:Bel w.heap.size w w'):Kept w0 w':=
 ⟨c.os.trans a.os,c.tape.trans a.tape,c.output.trans a.output,zb a.size c.size,λb d=>(c.block b (zl (w0.kept b d) a.size)).trans (a.block b d),zb a.drawn c.drawn⟩
def Sim.world(hs:Sim w0 G M ρ h w)(hb:Bel w.heap.size w w'):Sim w0 G M ρ h w' where
 below:=hs.below.world hb
 imm b o v e:=by
  have hl:=hs.lt e;have:=hs.imm b o v e;rw[<-this];exact wa (w:=w) (hb.block b hl)
 live i ob e:=by
  obtain⟨l,h1,h2,h3⟩:=hs.live i ob e;exact⟨l,h1,h2,sM (hb.block _ (mY h3)) h3⟩
 apart:=hs.apart
 gdef b hb':=by
  obtain⟨h1,h2⟩:=hs.gdef b hb';exact⟨h1,by rw[hb.block b (yF.1 h2).1];exact h2⟩
 old:=hs.old
def Sim.drew(a:Sim w0 G M ρ h w):Sim w0 G M ρ h w.drew:=a.world ⟨Below.drew (Below.refl _ _),Nat.le_succ _⟩
def Sim.alloc(a:Sim w0 G M ρ h w)(o:Go.Obj):Sim w0 G M ρ h (w.alloc o):=a.world ⟨(Below.refl _ _).alloc (zC _) o,zC _⟩
def ZC{O:Imm}{K:Nat->Prop}{b' p:Nat}(f:∀b o v,K b->M b o=some v->O b o=some v)(c:¬K b'):∀b o v,K b->mC M b' p vs b o=some v->O b o=some v:=λb o v a e=>by
 unfold mC at e;split at e
 .rename_i d
  rw[d.1]at a;exact absurd a c
 .exact f b o v a e
def Sim.allocImm(a:Sim w0 G M ρ h w)(c:Array Value)(e:TypeId)(n:Nat):Sim w0 G (mC M w.heap.size 0 (c.toList.take n)) ρ h (w.alloc (.cells c e)):=by
 have g:MLe M (mC M w.heap.size 0 (c.toList.take n)):=lV λo _=>a.none_at (zC _) o;have f:=a.alloc (.cells c e);refine { below:=f.below,imm:=λb o v d=> ?_,live:=λi p d=> ?_,apart:=a.apart,gdef:=f.gdef,old:=ZC a.old (a.nokeep (zC _)) }
 .unfold mC at d
  split at d
  .rename_i k
   obtain⟨rfl,_,j⟩:=k;rw[World.cell?_alloc_new]
   grind
  .exact f.imm b o v d
 .obtain⟨l,h1,j,h3⟩:=a.live i p d
  have m:=mY h3;refine⟨l,h1,j,rU g (RLe.refl _) (λo q=> ?_) (sM (w:=w) (Below.heap_alloc _ _ _ m) h3)⟩
  grind [mC]
def Sim.allocObj(c:Sim w0 G M ρ h w)(D:ρ nid=none)(o:Go.Obj)(v:Obj)(l:Loc)(C:l.blk=w.heap.size)(E:sZ M (nQ ρ nid l) (w.alloc o) l v):
  Sim w0 G M (nQ ρ nid l) (h.new nid v) (w.alloc o):=by
 have g:=c.alloc o;have b:=tA (l:=l) D;refine { below:=g.below,imm:=g.imm,live:=λi q e=> ?_,apart:=λi j x y t u d f F H n=> ?_,gdef:=g.gdef,old:=c.old }
 .simp only[Heap.new]at e
  split at e
  .rename_i a;subst a;cases e
   exact⟨l,by simp[nQ],by rw[C];exact c.nokeep (zC _),E⟩
  .rename_i a
   obtain⟨s,h1,A,h3⟩:=g.live i q e;exact⟨s,b _ _ h1,A,rU (MLe.refl _) b (λ_ h=>h) h3⟩
 .simp only[Heap.new]at d f
  have key:∀k ok m,h.at' k=some ok->nQ ρ nid l k=some m->k≠nid->m.blk<w.heap.size/\ρ k=some m:=by
   intro k ok m z r B;obtain⟨s,h1,_,h3⟩:=c.live k ok z;simp only[nQ,B,yp]at r;rw[h1]at r;cases r;exact⟨mY h3,h1⟩
  by_cases a:i=nid<;>by_cases p:j=nid
  .rw[a,p]
  .grind [nQ]
  .grind [nQ]
  .simp only[a,yp]at d
   simp only[p,yp]at f;exact c.apart i j x y t u d f (key i x t d F a).2 (key j y u f H p).2 n
def Sim.del(hs:Sim w0 G M ρ h w)(i:Nat):Sim w0 G M ρ (h.del i) w where
 below:=hs.below
 imm:=hs.imm
 live j ob e:=by
  simp only[Heap.del]at e;split at e
  .cases e
  .exact hs.live j ob e
 apart j k oj ok lj lk ej ek:=by
  simp only[Heap.del]at ej ek;split at ej
  .cases ej
  .split at ek
   .cases ek
   .exact hs.apart j k oj ok lj lk ej ek
 gdef:=hs.gdef
 old:=hs.old
def Sim.less(hs:Sim w0 G M ρ h w)(hl:∀i ob,h'.at' i=some ob->h.at' i=some ob):Sim w0 G M ρ h' w where
 below:=hs.below
 imm:=hs.imm
 live j ob e:=hs.live j ob (hl j ob e)
 apart j k oj ok lj lk ej ek:=hs.apart j k oj ok lj lk (hl _ _ ej) (hl _ _ ek)
 gdef:=hs.gdef
 old:=hs.old
def Sim.put(a:Sim w0 G M ρ h w){A c:Obj}(C:h.at' i=some A)(D:ρ i=some l)(u:w'.os=w.os)(z:w'.tape=w.tape)(m:w'.output=w.output)
  (y:w'.heap.size=w.heap.size) (t:∀b,b≠l.blk->w'.heap[b]? =w.heap[b]?) (J:∀o v,M l.blk o=some v->w'.cell? ⟨l.blk,o,none⟩ =some v) (L:∃x,w.heap[l.blk]? =some x/\∀d,x≠ .deferred d)
  (R:sZ M ρ w' l c) (r:w.drawn<=w'.drawn:=by exact zC _):Sim w0 G M ρ (h.set i c) w':=by
 obtain⟨S,h1,I,h3⟩:=a.live i A C;rw[D]at h1;cases h1;refine { below:=⟨u.trans a.below.os,z.trans a.below.tape,m.trans a.below.output,by rw[y];exact a.below.size,λk g=>by rw[t k (λe=>I (e▸g))];exact a.below.block k g,zb a.below.drawn r⟩,imm:=λb o v e=> ?_,live:=λj p e=> ?_,apart:=λj k p ok n N E F P Q s=> ?_,gdef:=λb f=> ?_,old:=a.old }
 .by_cases f:b=l.blk
  .grind
  .have:=a.imm b o v e
   rw[<-this];exact wa (w:=w) (t b f)
 .simp only[Heap.set]at e
  split at e
  .grind
  .rename_i K
   obtain⟨n,q,B,H⟩:=a.live j p e;refine⟨n,q,B,sM (t _ λf=>K (a.apart j i p A n l e C q D f)) H⟩
 .have key:∀k ok,(h.set i c).at' k=some ok->∃O,h.at' k=some O:=by
   grind [Heap.set]
  obtain⟨o1,e1⟩:=key j p E;obtain⟨o2,e2⟩:=key k ok F;exact a.apart j k o1 o2 n N e1 e2 P Q s
 .obtain⟨q,B⟩:=a.gdef b f
  grind
end sim
theorem tN(b o j:Nat):(⟨b,o,none⟩:Addr).add j= ⟨b,o+j,none⟩:=by
 unfold Addr.add;split<;>simp_all
section ty
variable{P:Program}{w:World}
def bS{d:TypeDesc}(a:P.underlying t=some d):∃i,P.info? t=some i:=by
 unfold Program.underlying at a;cases e:P.info? t with
 |none=>rw[e]at a;cases a
 |some i=>exact⟨i,rfl⟩
def wC(a:szT P t≠0):(sizeOf t).run P w=.ok (szT P t) w:=by
 cases e:P.info? t with
 |none=>simp[szT,Program.cellsOf,e]at a
 |some i=>exact run_sizeOf _ e
def gm{d:TypeDesc}(b:P.underlying t=some d):(sizeOf t).run P w=.ok (szT P t) w:=by
 obtain⟨i,a⟩:=bS b;exact run_sizeOf _ a
def YF{ag:Bool}(h:agT P t=some ag):∃d,P.underlying t=some d/\(isAgg t).run P w=.ok ag w:=by
 unfold agT at h;cases e:P.underlying t with
 |none=>simp[e]at h
 |some d=>
  simp only[isAgg,zq,zU e,zZ];cases d<;>simp_all
def sn{t e:TypeId}(h:uu P t=some e):P.underlying t=some (.slice e):=by grind [uu]
def bA{t e:TypeId}(h:Wu P t=some (n,e)):P.underlying t=some (.array n e):=by grind [Wu]
def Xg{t k e:TypeId}(h:MA P t=some (k,e)):P.underlying t=some (.map k e):=by grind [MA]
def XG{f off:Nat}(h:qK P t f=some (off,u)):∃ (fs:Array Field) (fl:Field),P.underlying t=some (.struct fs)/\fs[f]? =some fl/\fl.offset=off/\fl.type=u:=by grind [qK]
end ty
def V6(M:Imm)(ρ:Ren)(w:World)(cs:List D)(b p:Nat):Prop:=
 ∀(i:Nat)(d:D),cs[i]? =some d->d.flat=true/\∃v,w.cell? ⟨b,p+i,none⟩ =some v/\rel M ρ d v
section
variable{P:Program}{w0:Base}{G:List Nat}{M:Imm}{ρ:Ren}{h:Heap}{w:World}
def Sim.holds(f:Sim w0 G M ρ h w){b p:Nat}(c:lM M ρ cs b p):V6 M ρ w cs b p:=λi d e=>by
 obtain⟨h0,v,h1,a⟩:=nv c i d e;exact⟨h0,v,f.imm _ _ _ h1,a⟩
def Sim.row(m:Sim w0 G M ρ h w)(j:h.at' id=some (.row cs))(k:ρ id=some l):V6 M ρ w cs l.blk 0:=λi d g=>by
 obtain⟨n,h1,_,_,c,e,a,_,_,h3⟩:=m.live id _ j;rw[k]at h1;cases h1;obtain⟨f,v,b,h5⟩:=h3 i d g;exact⟨f,v,by simp[World.cell?,a,b],h5⟩
def Sim.trow(m:Sim w0 G M ρ h w){full:Bool}(j:h.at' id=some (.trow u full cs))(k:ρ id=some l):V6 M ρ w cs l.blk 0:=λi d g=>by
 obtain⟨n,h1,_,_,c,e,a,_,_,h3,_⟩:=m.live id _ j;rw[k]at h1;cases h1;obtain⟨f,v,b,h5⟩:=h3 i d g;exact⟨f,v,by simp[World.cell?,a,b],h5⟩
def V6.loadCells{b p:Nat}(h:V6 M ρ w cs b p){off n:Nat}(l:off+n<=cs.length):
  ∃vs:List Value,vs.length=n/\(loadCells ⟨b,p+off,none⟩ n).run P w=.ok vs.toArray w/\wG M ρ ((cs.drop off).take n) vs/\((cs.drop off).take n).all D.flat=true/\∀(j:Nat)(v:Value),vs[j]? =some v->w.cell? ⟨b,p+off+j,none⟩ =some v:=by
 let f:Nat->Value:=λj=>(w.cell? ⟨b,p+off+j,none⟩).getD undef
 have hf:∀j,j<n->w.cell? ((⟨b,p+off,none⟩:Addr).add j)=some (f j):=λj g=>by
  obtain⟨_,v,h1,_⟩:=h (off+j) cs[off+j] (zB ow);rw[<-qf]at h1;rw[tN];simp[f,h1]
 refine⟨(List.range n).map f,jS,run_loadCells w _ n f hf,wF jO λi d v c a=> ?_,zT.2 λd c=> ?_,λj v a=> ?_⟩
 .simp only[zu,yy]at c
  split at c
  .rename_i e
   obtain⟨_,u,h1,k⟩:=h (off+i) d c;rw[<-qf]at h1;simp[e]at a;subst a;simpa [f,h1]using k
  .cases c
 .obtain⟨i,e⟩:=yh.1 c
  simp only[zu,yy]at e;split at e
  .exact(h _ d e).1
  .cases e
 .simp only[zm]at a
  by_cases g:j<n
  .simp[g]at a
   subst a;have:=hf j g
   rwa [tN]at this
  .simp[g]at a
def V6.loadVar{b p:Nat}(g:V6 M ρ w cs b p){ag:Bool}(f:agT P t=some ag){off:Nat}(a:yO ag (szT P t) cs off=some d):
  ∃v,(loadVar t ⟨b,p+off,none⟩).run P w=.ok v w/\rel M ρ d v:=by
 obtain⟨td,j,c⟩:=YF (w:=w) f;cases ag with
 |true=>
  simp only[yO,qF]at a;split at a
  .cases a
  .split at a
   .rename_i i
    obtain⟨vs,h1,e,h3,h,_⟩:=g.loadCells (P:=P) i;cases a;refine⟨.agg vs.toArray,?_,?_⟩
    .simp[Go.loadVar,c,gm j,e]
    .simp only[rel];exact⟨_,rfl,by simpa using h3,h⟩
   .cases a
 |false=>
  simp only[yO,zg,yp]at a;obtain⟨_,v,h1,e⟩:=g off d a;exact⟨v,by simp[Go.loadVar,c,h1],e⟩
def YV(P:Program)(w0:Base)(G:List Nat)(M:Imm)(ρ:Ren)(nid:Nat)(w:World)(s:Sem Value)(d:D)(h':Heap):Prop:=
 ∃v w' M' ρ',s.run P w=.ok v w'/\MLe M M'/\RLe ρ ρ'/\(∀i,h'.next<=i\/i≠nid->ρ' i=ρ i)/\Sim w0 G M' ρ' h' w'/\rel M' ρ' d v
variable{h:Heap}
def kL(a:(h.new nid ob).next<=i\/i≠nid):i≠nid:=by grind [Heap.new]
def YV.pure{s:Sem Value}(b:Sim w0 G M ρ h w)(hr:s.run P w=.ok v w)(a:rel M ρ d v):YV P w0 G M ρ nid w s d h:=
 ⟨v,w,M,ρ,hr,MLe.refl _,RLe.refl _,λ_ _=>rfl,b,a⟩
def FV(f:Sim w0 G M ρ h w){a d:D}(j:rel M ρ a vx)(c:kT P t a h=some d):YV P w0 G M ρ nid w (Instr.loadAt t vx) d h:=by
 unfold kT at c;split at c
 .cases c
 .rename_i ag e
  split at c
  .rename_i cs off
   obtain⟨b,p,rfl,m⟩:=j;obtain⟨v,h1,g⟩:=(f.holds m).loadVar e c;exact .pure f (by simp[Instr.loadAt,Instr.sureAddr,h1]) g
  .rename_i id off
   obtain⟨l,k,rfl⟩:=j;split at c
   .rename_i cs i
    obtain⟨v,h1,g⟩:=(f.row i k).loadVar e c;rw[yH]at h1;exact .pure f (by simp[Instr.loadAt,Instr.sureAddr,h1]) g
   .rename_i u full cs i
    obtain⟨v,h1,g⟩:=(f.trow i k).loadVar e c;rw[yH]at h1;exact .pure f (by simp[Instr.loadAt,Instr.sureAddr,h1]) g
   .cases c
  .cases c
def TA(j:Sim w0 G M ρ h w){f:Nat}(m:rel M ρ x vx)(a:pk P t x f=some d):YV P w0 G M ρ nid w (Instr.fieldAt t vx f) d h:=by
 unfold pk at a;split at a
 .rename_i off q g
  obtain⟨fs,fl,k,c,rfl,rfl⟩:=XG g;split at a
  .cases a
  .rename_i n
   have i:=wC (P:=P) (w:=w) n;have e:∀b o,(fieldPlace ⟨b,o,none⟩ fl).run P w=.ok ⟨b,o+fl.offset,none⟩ w:=λb o=>by
    simp[fieldPlace,i,n,tN]
   split at a
   .rename_i cs o
    obtain⟨b,p,rfl,r⟩:=m;refine .pure j (v:=.pointer (some ⟨b,p+o+fl.offset,none⟩)) ?_ ?_
    .simp[Instr.fieldAt,zU k,c,Instr.sureAddr,e]
    .grind [rel]
   .rename_i id o
    obtain⟨l,s,rfl⟩:=m;refine .pure j (v:=.pointer (some ⟨l.blk,o+fl.offset,none⟩)) ?_ ?_
    .simp[Instr.fieldAt,zU k,c,Instr.sureAddr,e]
    .grind [rel]
   .cases a
 .cases a
def TB(A:Sim w0 G M ρ h w){x i d:D}(g:rel M ρ x vx)(E:rel M ρ i vy)(a:yc P t x i=some d):YV P w0 G M ρ nid w (Instr.indexAt t vx vy) d h:=by
 unfold yc at a;split at a
 .rename_i k n
  simp only[rel]at E;obtain⟨rfl,_⟩:=E;split at a
  .rename_i e K
   have y:=sn K;split at a
   .rename_i sz xs tk
    split at a
    .rename_i j
     split at a
     .rename_i h0
      split at a
      .rename_i c z
       cases a;have N:=g;simp only[rel]at g;obtain⟨u,s,b,p,cap,⟨O,rfl,C⟩,r,I,_⟩:=g;obtain⟨F,H⟩:=YW I _ _ z;have L:n.toNat<xs.length:=(zK.1 z).1;obtain rfl:O=none:=C.resolve_right ow;have m:n<(xs.length:Int):=ow;have q:szT P e≠0:=ow;refine .pure A (v:=.pointer (some ⟨b,p+n.toNat*sz,none⟩)) ?_ ?_
       .simp[Instr.indexAt,asIntOf,zU y,h0,m,wC q,tN,j]
       .simp only[rel];exact⟨b,p+n.toNat*sz,rfl,H⟩
      .cases a
     .cases a
    .cases a
   .rename_i id sz off len
    split at a
    .rename_i f
     simp only[zF,zO]at f;obtain⟨⟨j,h0⟩,m⟩:=f;cases a;simp only[rel]at g;obtain⟨u,s,l,cap,o,B,rfl,r,_,Q⟩:=g;obtain rfl:o=off:=ow;have q:szT P e≠0:=ow;refine .pure A (v:=.pointer (some ⟨l.blk,o+n.toNat*sz,none⟩)) ?_ ?_
     .simp[Instr.indexAt,asIntOf,zU y,h0,m,wC q,tN,j]
     .simp only[rel];exact⟨l,B,rfl⟩
    .cases a
   .cases a
  .split at a
   .rename_i len e J
    have y:=bA J;split at a
    .rename_i f
     simp only[zF,zO]at f;obtain⟨⟨h0,m⟩,q⟩:=f;split at a
     .rename_i cs o
      cases a;simp only[rel]at g;obtain⟨b,p,rfl,z⟩:=g;refine .pure A (v:=.pointer (some ⟨b,p+o+n.toNat*szT P e,none⟩)) ?_ ?_
      .simp[Instr.indexAt,asIntOf,zU y,Instr.sureAddr,h0,m,wC q,tN]
      .simp only[rel];exact⟨b,p,by rw[qf],z⟩
     .rename_i id o
      cases a;simp only[rel]at g;obtain⟨l,B,rfl⟩:=g;refine .pure A (v:=.pointer (some ⟨l.blk,o+n.toNat*szT P e,none⟩)) ?_ ?_
      .simp[Instr.indexAt,asIntOf,zU y,Instr.sureAddr,h0,m,wC q,tN]
      .simp only[rel];exact⟨l,B,rfl⟩
     .cases a
    .cases a
   .cases a
 .cases a
end
variable{M:Imm}{w:World}{h:Heap}
def wx{k:IntKind}{n:Int}(h:fits k n):rel M ρ (.int k n) (.int k n):=by grind [rel]
theorem uW(b:Bool):rel M ρ (.bool b) (.bool b):=by simp only[rel]
def re(k:IntKind)(n:Int):fits k (k.wrap n):=by
 unfold fits IntKind.wrap;cases k<;>simp[IntKind.bits,IntKind.signed]<;>(repeat' split)<;>omega
def p7(k:IntKind)(n:Int):fits k n↔k.min<=n/\n<=k.max:=by
 unfold fits IntKind.wrap IntKind.min IntKind.max;cases k<;>simp[IntKind.bits,IntKind.signed]<;>(repeat' split)<;>omega
def Je{k:IntKind}{a b:Int}(c:fits k a):fits k (a.tmod b):=by
 rw[p7]at c⊢;have h0:(a.tmod b).natAbs<=a.natAbs:=by rw[Int.natAbs_tmod];exact Nat.mod_le _ _
 have d:0<=a->0<=a.tmod b:=λh=>Int.tmod_nonneg b h;have h3:a<=0->a.tmod b<=0:=λh=>by
  have:=Int.tmod_nonneg b (a:= -a) ow;rw[Int.neg_tmod]at this;omega
 have e:k.min<=0/\0<=k.max:=by cases k<;>simp[IntKind.min,IntKind.max,IntKind.bits,IntKind.signed]
 grind
def Jd{k:IntKind}{a:Int}(c:fits k a)(n:Nat):fits k (a.fdiv (2^n)):=by
 rw[p7]at c⊢;have e:k.min<=0/\0<=k.max:=by cases k<;>simp[IntKind.min,IntKind.max,IntKind.bits,IntKind.signed]
 have d:(1:Int)<=2^n:=Int.pow_pos ow;generalize(2:Int)^n=m at d⊢;rw[Int.fdiv_eq_ediv_of_nonneg _ ow];rcases(show a<0\/0<=a by omega)with h|h
 .have h3:=Int.ediv_neg_of_neg_of_pos h (by omega:(0:Int)<m)
  have b:a<=a/m:=Int.le_ediv_of_mul_le ow (by
   have:a*m<=a*1:=Int.mul_le_mul_of_nonpos_left ow ow;omega)
  omega
 .have h3:0<=a/m:=Int.ediv_nonneg h ow
  have b:=Int.ediv_le_self m h;omega
section
variable{P:Program}{w0:Base}{G:List Nat}{M:Imm}{ρ:Ren}{h:Heap}{w:World}{nid:Nat}
def FY{op:BinOp}{k:IntKind}{a b:Int}(g:fits k a)(c:Mi op k a b=some d)(e:op≠ .shl/\op≠ .shr)(t:TypeId):
  ∃v,(binOp op t (.int k a) (.int k b)).run P w=.ok v w/\rel M ρ d v:=by
 cases op with
 |shl=>exact absurd rfl e.1
 |shr=>exact absurd rfl e.2
 |quo=>
  simp only[Mi]at c;split at c
  .cases c
  .rename_i f
   injection c with c;subst c;exact⟨.int k (k.wrap (a.tdiv b)),by simp[binOp,Op.intDiv,f],wx (re _ _)⟩
 |rem=>
  simp only[Mi]at c;split at c
  .cases c
  .rename_i f
   injection c with c;subst c;exact⟨.int k (a.tmod b),by simp[binOp,Op.intDiv,f],wx (Je g)⟩
 |add=>cases c;exact⟨.int k (k.wrap (a+b)),by simp[binOp,Op.intArith],wx (re _ _)⟩
 |sub=>cases c;exact⟨.int k (k.wrap (a-b)),by simp[binOp,Op.intArith],wx (re _ _)⟩
 |mul=>cases c;exact⟨.int k (k.wrap (a*b)),by simp[binOp,Op.intArith],wx (re _ _)⟩
 |and=>cases c;exact⟨.int k (k.wrap (BitVec.ofInt k.bits a &&& BitVec.ofInt k.bits b).toNat),by simp[binOp,Op.intBits],wx (re _ _)⟩
 |or=>cases c;exact⟨.int k (k.wrap (BitVec.ofInt k.bits a |||BitVec.ofInt k.bits b).toNat),by simp[binOp,Op.intBits],wx (re _ _)⟩
 |xor=>cases c;exact⟨.int k (k.wrap (BitVec.ofInt k.bits a ^^^ BitVec.ofInt k.bits b).toNat),by simp[binOp,Op.intBits],wx (re _ _)⟩
 |andNot=>cases c;exact⟨.int k (k.wrap (BitVec.ofInt k.bits a &&& ~~~ BitVec.ofInt k.bits b).toNat),by simp[binOp,Op.intBits],wx (re _ _)⟩
 |eql=>cases c;exact⟨.bool (a==b),by simp[binOp,Op.intCmp],uW _⟩
 |neq=>cases c;exact⟨.bool (a !=b),by simp[binOp,Op.intCmp],uW _⟩
 |lss=>cases c;exact⟨.bool (decide (a<b)),by simp[binOp,Op.intCmp],uW _⟩
 |leq=>cases c;exact⟨.bool (decide (a<=b)),by simp[binOp,Op.intCmp],uW _⟩
 |gtr=>cases c;exact⟨.bool (decide (a>b)),by simp[binOp,Op.intCmp],uW _⟩
 |geq=>cases c;exact⟨.bool (decide (a>=b)),by simp[binOp,Op.intCmp],uW _⟩
def L5{op:BinOp}{k k':IntKind}{a b:Int}(f:fits k a)(c:Qe op k a b=some d)(t:TypeId):
  ∃v,(binOp op t (.int k a) (.int k' b)).run P w=.ok v w/\rel M ρ d v:=by
 unfold Qe at c;split at c
 .cases c
 .rename_i e
  cases op<;>simp only at c<;>first
   |(injection c with c;subst c;exact⟨.int k (k.wrap (a*2^ (min b.toNat k.bits))),by simp[binOp,Op.shift,e],wx (re _ _)⟩)
   |(injection c with c;subst c;exact⟨.int k (a.fdiv (2^ (min b.toNat k.bits))),by simp[binOp,Op.shift,e],wx (Jd f _)⟩)
   |cases c
def uL(b:ByteArray):b.toList=b.data.toList:=ByteArray.toList_eq b
def FZ{op:BinOp}{a b:ByteArray}(c:Ho op a.data.toList b.data.toList=some d)(t:TypeId):
  ∃v,(binOp op t (.string a) (.string b)).run P w=.ok v w/\rel M ρ d v:=by
 cases op with
 |add=>
  simp only[Ho]at c;split at c
  .rename_i e
   injection c with c;subst c;refine⟨.string (a++b),?_,?_⟩
   .simp only[binOp]
    refine run_string_add_sum w a b ?_;have h1:a.size=a.data.toList.length:=by rw[yI];rfl
    have f:b.size=b.data.toList.length:=by rw[yI];rfl
    unfold lim at e;omega
   .simp_all [rel]
  .cases c
 |eql=>cases c;exact⟨.bool (a.data.toList==b.data.toList),by rw[<-uL,<-uL];rfl,uW _⟩
 |neq=>cases c;exact⟨.bool (!(a.data.toList==b.data.toList)),by rw[<-uL,<-uL];rfl,uW _⟩
 |lss=>cases c;exact⟨.bool (WS a.data.toList b.data.toList),by simp only[binOp,Op.stringOp,uL,WS,yL],uW _⟩
 |leq=>cases c;exact⟨.bool (WS a.data.toList b.data.toList||a.data.toList==b.data.toList),by simp only[binOp,Op.stringOp,uL,WS,yL],uW _⟩
 |gtr=>cases c;exact⟨.bool (!(WS a.data.toList b.data.toList||a.data.toList==b.data.toList)),by simp only[binOp,Op.stringOp,uL,WS,yL],uW _⟩
 |geq=>cases c;exact⟨.bool (!(WS a.data.toList b.data.toList)),by simp only[binOp,Op.stringOp,uL,WS,yL],uW _⟩
 |_=>cases c
theorem oW:∀{ks:List Kd}{as a:List D}{r:Bool},eqK ks as a=some r->as.length=ks.length/\a.length=ks.length
 | [],[],[],_,_=>⟨rfl,rfl⟩
 |.b::ks,.bool x::as,.bool y::a,r,h=>by
  simp only[eqK,ze]at h;obtain⟨q,h,_⟩:=h;have:=oW h;simp[this]
 |.i::ks,.int k x::as,.int k' y::a,r,h=>by
  simp only[eqK]at h;split at h
  .simp only[ze]at h
   obtain⟨q,h,_⟩:=h;have:=oW h;simp[this]
  .cases h
 |.s::ks,.str x::as,.str y::a,r,h=>by
  simp only[eqK,ze]at h;obtain⟨q,h,_⟩:=h;have:=oW h;simp[this]
theorem kF:∀{k1 k2:List Kd}{as a:List D}{r:Bool},eqK (k1++k2) as a=some r->
  ∃r1 r2,eqK k1 (as.take k1.length) (a.take k1.length)=some r1/\eqK k2 (as.drop k1.length) (a.drop k1.length)=some r2/\r=(r1&&r2)
 | [],k2,as,a,r,h=>⟨true,r,by simp[eqK],by simpa using h,jS⟩
 |.b::k1,k2,.bool x::as,.bool y::a,r,h=>by
  simp only[yG,eqK,ze]at h;obtain⟨q,h,rfl⟩:=h;obtain⟨r1,r2,h1,c,rfl⟩:=kF h;exact⟨x==y&&r1,r2,by simp[eqK,h1],by simpa using c,by simp[dO]⟩
 |.i::k1,k2,.int k x::as,.int k' y::a,r,h=>by
  simp only[yG,eqK]at h;split at h
  .rename_i d
   simp only[ze]at h;obtain⟨q,h,rfl⟩:=h;obtain⟨r1,r2,h1,c,rfl⟩:=kF h;exact⟨x==y&&r1,r2,by simp[eqK,h1,d],by simpa using c,by simp[dO]⟩
  .cases h
 |.s::k1,k2,.str x::as,.str y::a,r,h=>by
  simp only[yG,eqK,ze]at h;obtain⟨q,h,rfl⟩:=h;obtain⟨r1,r2,h1,c,rfl⟩:=kF h;exact⟨x==y&&r1,r2,by simp[eqK,h1],by simpa using c,by simp[dO]⟩
theorem QN{vs:Array Value}(h:wG M ρ ds vs.toList)(a n:Nat):wG M ρ ((ds.drop a).take n) (vs.extract a (a+n)).toList:=by grind [yw,wF,th]
def dA{ag:Bool}(e:agT P t=some ag){vs:Array Value}(hr:wG M ρ ds vs.toList)(hf:ds.all D.flat=true){off:Nat}(a:yO ag (szT P t) ds off=some d):
  ∃v,(part t vs off).run P w=.ok v w/\rel M ρ d v:=by
 obtain⟨td,g,b⟩:=YF (w:=w) e;cases ag with
 |true=>
  simp only[yO,qF]at a;split at a
  .cases a
  .split at a
   .cases a
    refine⟨.agg (vs.extract off (off+szT P t)),by simp[part,b,gm g],?_⟩
    grind [rel,QN]
   .cases a
 |false=>
  obtain⟨v,h1,f⟩:=th hr off d a;refine⟨v,?_,f⟩;have c:vs[off]? =some v:=by simpa using h1
  simp[part,b,c]
def lK{d:Nat}{ks:List Kd}(h:ru P d t=some ks)(a:agT P t=some false):∃c,ks= [c]:=by
 cases d with
 |zero=>simp[ru]at h
 |succ d=>
  unfold ru at h;unfold agT at a;cases b:P.underlying t with
  |none=>rw[b]at h;cases h
  |some td=>
   grind
theorem Vi{d k : Nat}(ih : ∀(t : TypeId)(ks : List Kd)(ag : Bool), ru P d t = some ks -> agT P t = some ag -> ∀(J K : D)(a b : Value)(r : Bool), yo ag J = true -> yo ag K = true ->
      rel M ρ J a -> rel M ρ K b -> eqK ks J.cells K.cells = some r -> (Op.equalIn (d + k) t a b).run P w =.ok r w) :
    ∀(fs : List Field)(off n : Nat)(ks : List Kd), XY (ru P d) P.cellsOf fs off n = some ks -> ∀(as p : List D)(xs ys : Array Value)(r : Bool), wG M ρ as xs.toList -> wG M ρ p ys.toList -> as.all D.flat = true -> p.all D.flat = true ->
      eqK ks (as.drop off) (p.drop off) = some r -> (Op.eqFields (d + k) xs ys fs).run P w =.ok r w
  | [], off, n, ks, j, as, p, xs, ys, r, T, U, Q, R, B => by
    simp only [XY]at j;split at j
    · cases j
      have := oW B;cases E : as.drop off with
      | nil => cases hq' : p.drop off with
        | nil => rw [E, hq']at B; simp [eqK]at B; simp [Op.eqFields, B]
        | cons _ _ => rw [hq']at this; simp at this
      | cons _ _ => rw [E]at this; simp at this
    · cases j
  | f :: fs, off, n, ks, j, as, p, xs, ys, r, T, U, Q, R, B => by
    simp only [XY]at j;split at j
    · rename_i m
      simp only [zF, fN, ne_eq, qz]at m;obtain ⟨⟨z, I⟩, Y⟩ := m;split at j
      · rename_i i h
        split at j
        · rename_i o
          simp only [qz]at o;simp only [ze]at j;obtain ⟨kr, W, rfl⟩ := j;obtain ⟨r1, r2, h1, h2, rfl⟩ := kF B;obtain ⟨ag, l⟩ : ∃ ag, agT P f.type = some ag := by
            cases hd : d with
            | zero => rw [hd]at h; simp [ru]at h
            | succ d' =>
              rw [hd]at h;unfold ru at h;unfold agT;cases hu : P.underlying f.type with
              | none => rw [hu]at h; cases h
              | some td => cases td <;> simp
          have q := oW h1;have ad : szT P f.type = i.length := o.symm;have cell : ∀(cs : List D)(vs : Array Value), wG M ρ cs vs.toList -> cs.all D.flat = true -> ((cs.drop off).take i.length).length = i.length ->
              (∀ c, ag = false -> (cs.drop off).take i.length = [c] -> yo false c = true /\ c.cells = [c]) -> (ag = true -> i.length ≠ 0) -> (ag = false -> i.length = 1) ->
              ∃ v L, (part f.type vs f.offset).run P w =.ok v w /\ rel M ρ L v /\ yo ag L = true /\ L.cells = (cs.drop off).take i.length := by
            intro cs vs hr G C Z s F;rw [I];cases ag with
            | true =>
              have X : off + i.length <= cs.length := by
                have := s rfl;simp only [yB, qJ]at C; omega
              obtain ⟨v, p1, p2⟩ := dA (w := w) l hr G (off := off) (d :=.agg ((cs.drop off).take i.length)) (by simp [yO, ad, s rfl, X]);exact ⟨v, _, p1, p2, rfl, rfl⟩
            | false =>
              have S := F rfl;have H : off < cs.length := by simp only [yB, qJ]at C; omega
              have u : (cs.drop off).take i.length = [cs[off]] := by rw [S, yi H, pT, lS]
              obtain ⟨v, p1, p2⟩ := dA (w := w) l hr G (off := off) (d := cs[off]) (by simp [yO, H]);obtain ⟨q1, q2⟩ := Z _ rfl u;exact ⟨v, _, p1, p2, q1, by rw [q2, u]⟩
          have g : (ag = true -> i.length ≠ 0) /\ (ag = false -> i.length = 1) := by
            refine ⟨λ_ => by rw [o]; exact Y, λe => ?_⟩;subst e;obtain ⟨c, rfl⟩ := lK h l;rfl
          have x : ∀(c e : D)(rr : Bool), ag = false -> (eqK i [c] [e] = some rr) -> (yo false c = true /\ c.cells = [c]) /\ (yo false e = true /\ e.cells = [e]) := by
            intro c e rr hf E;subst hf;obtain ⟨kk, rfl⟩ := lK h l;cases kk <;> cases c <;> cases e <;> simp [eqK, yo, D.cells]at E ⊢
          have one : ∀ cs : List D, ((cs.drop off).take i.length).length = i.length -> ag = false -> ∃ c, (cs.drop off).take i.length = [c] := by
            intro cs C hf;have := g.2 hf;rw [this]at C;exact List.length_eq_one_iff.1 (by rw [<- this]at C; rw [C, this])
          obtain ⟨va, N, ai, aj, ak, au⟩ := cell as xs T Q q.1 (λc hf V => by
            obtain ⟨e, y⟩ := one p q.2 hf;rw [V, y]at h1;exact (x c e r1 hf h1).1) g.1 g.2
          obtain ⟨vb, O, a0, a1, a2, a3⟩ := cell p ys U R q.2 (λc hf V => by
            obtain ⟨e, y⟩ := one as q.1 hf;rw [V, y]at h1;exact (x e c r1 hf h1).2) g.1 g.2
          have E := ih f.type i ag h l N O va vb r1 ak a2 aj a1 (by rw [au, a3]; exact h1);have A := Vi ih fs (off + i.length) n kr W as p xs ys r2 T U Q R (by rw [uC, uC]at h2; exact h2);simp only [Op.eqFields, ne_eq, z, not_false_eq_true, qF, zq, ai, a0, zZ, E];cases r1 with
          | true => simpa using A
          | false => simp
        · cases j
      · cases j
    · cases j
theorem Pq(k : Nat) : ∀(d : Nat)(t : TypeId)(ks : List Kd)(ag : Bool), ru P d t = some ks -> agT P t = some ag -> ∀(e f : D)(a b : Value)(r : Bool), yo ag e = true -> yo ag f = true ->
      rel M ρ e a -> rel M ρ f b -> eqK ks e.cells f.cells = some r -> (Op.equalIn (d + k) t a b).run P w =.ok r w
  | 0, t, ks, ag, h, _, _, _, _, _, _, _, _, _, _, _ => by simp [ru]at h
  | d + 1, t, ks, ag, h, j, e, f, a, b, r, l, m, g, rb, i => by
    rw [show d + 1 + k = (d + k) + 1 by omega];have h' := h;unfold ru at h;cases hu : P.underlying t with
    | none => rw [hu]at h; cases h
    | some td =>
      rw [hu]at h;have c : ∀ x : Bool, (match td with |.struct _ => true |.array _ _ => true | _ => false) = x -> ag = x := by
        intro x C;unfold agT at j;rw [hu]at j;cases td <;> simp_all
      cases td <;> simp only at h <;> (try (cases h; done))
      · split at h
        · cases h
          obtain rfl := c false rfl;cases e <;> simp [yo]at l <;> cases f <;> simp [yo]at m <;> simp [D.cells, eqK]at i;simp only [rel]at g rb;subst g rb i;simp [Op.equalIn, zU hu]
        · cases h
      · split at h
        · cases h
          obtain rfl := c false rfl;cases e <;> simp [yo]at l <;> cases f <;> simp [yo]at m <;> simp [D.cells, eqK]at i;simp only [rel]at g rb;obtain ⟨rfl, _⟩ := g;obtain ⟨rfl, _⟩ := rb;obtain ⟨rfl, rfl⟩ := i;simp [Op.equalIn, zU hu]
        · cases h
      · split at h
        · cases h
          obtain rfl := c false rfl;cases e <;> simp [yo]at l <;> cases f <;> simp [yo]at m <;> simp [D.cells, eqK]at i;simp only [rel]at g rb;obtain ⟨x, rfl, rfl, _⟩ := g;obtain ⟨y, rfl, rfl, _⟩ := rb;rw [run_equalIn_string w _ t x y hu, uL, uL, i]
        · cases h
      · rename_i fs
        split at h
        · cases h
        · rename_i q
          obtain rfl := c true rfl;cases e <;> simp [yo]at l;cases f <;> simp [yo]at m;rename_i as z;simp only [rel]at g rb;obtain ⟨xs, rfl, s, o⟩ := g;obtain ⟨ys, rfl, u, p⟩ := rb;have hf : P.fieldsOf t = fs := by simp [Program.fieldsOf, hu]
          rw [run_equalIn_struct w (d + k) t xs ys (by rw [hf]; exact hu) (by simpa using q), hf];exact Vi (λB v n h1 A => Pq k d B v n h1 A) fs.toList 0 _ ks h as z xs ys r s u o p (by simpa [D.cells]using i)
end
section
variable{P:Program}{w0:Base}{G:List Nat}{M:Imm}{ρ:Ren}{h:Heap}{w:World}{nid:Nat}
def zHq(P:Program)(w:World)(t:TypeId)(a b:Value)(r:Bool):Prop:=
 (∀o o',(eqGuard .eql t o o' a b).run P w=.ok () w/\(eqGuard .neq t o o' a b).run P w=.ok () w)/\
  (binOp .eql t a b).run P w=.ok (.bool r) w/\(binOp .neq t a b).run P w=.ok (.bool (!r)) w
def UR{a b:Value}(h1:∀o c,eqGuard .eql t o c a b=pure ()/\eqGuard .neq t o c a b=pure ())
  (f:binOp .eql t a b=do pure (.bool (<-Op.equal t a b))) (h3:binOp .neq t a b=do pure (.bool (!(<-Op.equal t a b))))
  (e:∀d,(Op.equalIn (d+1) t a b).run P w=.ok r w):zHq P w t a b r:=by
 have h5:(Op.equal t a b).run P w=.ok r w:=e 9999;refine⟨λo c=>⟨by rw[(h1 o c).1];rfl,by rw[(h1 o c).2];rfl⟩,?_,?_⟩
 all_goals simp_all
def zAf{a b:Value}(c:rel M ρ x a)(e:rel M ρ y b)(f:veq (P.underlying t) x y=some r):zHq P w t a b r:=by
 unfold veq at f;split at f<;>(try (cases f;done))<;>(injection f with f;subst f)<;>simp only[rel]at c e<;>rename_i g
 all_goals
  first
   |(subst c;subst e)
   |(subst c;obtain⟨_,_,rfl⟩:=e)
   |(subst e;obtain⟨_,_,rfl⟩:=c)
   |(subst c;obtain⟨_,_,rfl,_⟩:=e)
   |(subst e;obtain⟨_,_,rfl,_⟩:=c)
   |(subst c;obtain⟨_,_,_,_,_,⟨_,rfl,_⟩,_⟩:=e)
   |(subst e;obtain⟨_,_,_,_,_,⟨_,rfl,_⟩,_⟩:=c)
   |(subst c;obtain⟨_,_,_,_,_,rfl,_⟩:=e)
   |(subst e;obtain⟨_,_,_,_,_,rfl,_⟩:=c)
   |(subst c;obtain⟨_,_,_,_,_,_,rfl,_⟩:=e)
   |(subst e;obtain⟨_,_,_,_,_,_,rfl,_⟩:=c)
   |(subst e;obtain⟨_,_,rfl⟩:=c)
   |(subst c;obtain⟨_,_,_,_,_,rfl,_⟩:=e)
   |(subst c;obtain⟨_,_,_,rfl,_⟩:=e)
   |(subst e;obtain⟨_,_,_,rfl,_⟩:=c)
   |(subst c;obtain⟨_,_,_,_,_,rfl⟩:=e)
 all_goals
  first
   |exact UR (λo h=>⟨rfl,rfl⟩) rfl rfl (λd=>by simp[Op.equalIn,zU g])
   |skip
def Wj{ks:List Kd}(a:eqT P t=some ks){as c:List D}{xs ys:Array Value}(g:wG M ρ as xs.toList/\as.all D.flat=true)(h:wG M ρ c ys.toList/\c.all D.flat=true)(i:eqK ks as c=some r):zHq P w t (.agg xs) (.agg ys) r:=by
 unfold eqT at a;split at a
 .rename_i fs k
  split at a
  .cases a
  .rename_i j
   have b:P.eqGuardType P.depth t=false:=by simpa using j
   have e:=λd=>Pq (P:=P) (M:=M) (ρ:=ρ) (w:=w) d 8 t ks true a (by simp[agT,k]) (.agg as) (.agg c) (.agg xs) (.agg ys) r rfl rfl (by simp only[rel];exact⟨xs,rfl,g⟩) (by simp only[rel];exact⟨ys,rfl,h⟩) i;refine⟨λo f=>⟨run_eqGuard_agg w .eql t o f xs ys b,run_eqGuard_agg w .neq t o f xs ys b⟩,?_,?_⟩
   .rw[run_eql_struct,show(10000:Nat)=8+9992 from rfl,e];rfl
   .rw[run_neq_struct,show(10000:Nat)=8+9992 from rfl,e];rfl
 .cases a
def PO(op:BinOp)(t:TypeId)(o c:Operand)(k k':IntKind)(a b:Int):eqGuard op t o c (.int k a) (.int k' b)=pure ():=by cases op<;>rfl
def PP(op:BinOp)(t:TypeId)(o c:Operand)(a b:ByteArray):eqGuard op t o c (.string a) (.string b)=pure ():=by cases op<;>rfl
theorem zAu(Y:Sim w0 G M ρ h w){op:BinOp}{a b:Value}(o z:Operand)(A:rel M ρ x a)(n:rel M ρ y b)(c:kW P op t (isC o||isC z) x y=some d):
  YV P w0 G M ρ nid w (do eqGuard op t o z a b;binOp op t a b) d h:=by
 have m:∀v,(eqGuard op t o z a b).run P w=.ok () w->(binOp op t a b).run P w=.ok v w->rel M ρ d v->YV P w0 G M ρ nid w (do eqGuard op t o z a b;binOp op t a b) d h:=λv h1 E h3=>
  .pure Y (by simp only[zq,h1,zZ,E]) h3
 have B:∀r,zHq P w t a b r->∀f g:Option D,f=some (.bool r)->g=some (.bool (!r))->oH op f g=some d->YV P w0 G M ρ nid w (do eqGuard op t o z a b;binOp op t a b) d h:=λr K f g hf H C=>by
  cases op<;>simp only[oH]at C<;>(try (cases C;done))
  .rw[hf]at C;cases C;exact m _ (K.1 o z).1 K.2.1 (uW _)
  .rw[H]at C;cases C;exact m _ (K.1 o z).2 K.2.2 (uW _)
 have other:Fi P op t x y=some d->YV P w0 G M ρ nid w (do eqGuard op t o z a b;binOp op t a b) d h:=λC=>by
  cases hr:veq (P.underlying t) x y with
  |none=>unfold Fi at C;rw[hr]at C;cases op<;>simp[oH]at C
  |some r=>exact B r (zAf A n hr) _ _ (by rw[hr];rfl) (by rw[hr];rfl) C
 cases x with
 |niliface=>
  simp only[kW]at c;simp only[rel]at A;subst A;split at c
  .simp only[rel]at n
   subst n;split at c
   .rename_i U
    unfold KH at c;split at c
    .rename_i ms I
     have H:∀op,(eqGuard op t o z .nilIface .nilIface).run P w=.ok () w:=λop=>by
      cases o<;>cases z<;>simp only[isC,lC,nC,nk,zg,pd]at U<;>cases op<;>rfl
     have T:∀d,(Op.equalIn (d+1) t .nilIface .nilIface).run P w=.ok true w:=λd=>by simp[Op.equalIn,zU I]
     have h5:(Op.equal t .nilIface .nilIface).run P w=.ok true w:=T 9999;cases op<;>simp only[oH]at c<;>(try (cases c;done))
     .cases c
      exact m (.bool true) (H _) (by show((do pure (.bool (<-Op.equal t .nilIface .nilIface))):Sem Value).run P w=_;simp only[zq,h5,zZ,yL]) (uW _)
     .cases c
      exact m (.bool false) (H _) (by show((do pure (.bool (!(<-Op.equal t .nilIface .nilIface)))):Sem Value).run P w=_;simp only[zq,h5,zZ,yL];rfl) (uW _)
    .cases c
   .cases c
  .simp only[rel]at n
   obtain⟨u,rfl,_⟩:=n;rename_i ti R;unfold KH at c;split at c
   .rename_i ms I
    exact B false (UR (λo z=>⟨rfl,rfl⟩) rfl rfl (λd=>by simp[Op.equalIn,zU I])) _ _ rfl rfl c
   .cases c
  .cases c
 |iface ti R=>
  simp only[kW]at c;simp only[rel]at A;obtain⟨u,rfl,_⟩:=A;split at c
  .simp only[rel]at n
   subst n;unfold KH at c;split at c
   .rename_i ms I
    exact B false (UR (λo z=>⟨rfl,rfl⟩) rfl rfl (λd=>by simp[Op.equalIn,zU I])) _ _ rfl rfl c
   .cases c
  .cases c
 |int k p=>
  simp only[kW]at c;split at c
  .rename_i k' q
   simp only[rel]at A n;obtain⟨rfl,O⟩:=A;obtain⟨rfl,fb⟩:=n;have H:(eqGuard op t o z (.int k p) (.int k' q)).run P w=.ok () w:=by rw[PO];rfl
   have go:∀(c:Qe op k p q=some d),YV P w0 G M ρ nid w (do eqGuard op t o z (.int k p) (.int k' q);binOp op t (.int k p) (.int k' q)) d h:=λc=>by
    obtain⟨v,h1,E⟩:=L5 (P:=P) (w:=w) (M:=M) (ρ:=ρ) (k':=k') O c t;exact m v H h1 E
   unfold mr at c;split at c
   .exact go c
   .exact go c
   .rename_i h1 E
    split at c
    .rename_i W;subst W
     obtain⟨v,h3,S⟩:=FY (P:=P) (w:=w) (M:=M) (ρ:=ρ) O c ⟨h1,E⟩ t;exact m v H h3 S
    .cases c
  .cases c
 |str s=>
  simp only[kW]at c;split at c
  .simp only[rel]at A n
   obtain⟨ba,rfl,rfl,la⟩:=A;obtain⟨bb,rfl,rfl,lb⟩:=n;obtain⟨v,h1,E⟩:=FZ (P:=P) (w:=w) (M:=M) (ρ:=ρ) c t;exact m v (by rw[PP];rfl) h1 E
  .cases c
 |agg as=>
  simp only[kW]at c;split at c
  .rename_i Q
   simp only[rel]at A n;obtain⟨xs,rfl,L⟩:=A;obtain⟨ys,rfl,N⟩:=n;split at c
   .rename_i ks Z
    cases hr:eqK ks as Q with
    |none=>unfold L9 at c;rw[hr]at c;cases op<;>simp[oH]at c
    |some r=>exact B r (Wj Z L N hr) _ _ (by rw[hr];rfl) (by rw[hr];rfl) c
   .cases c
  .cases c
 |ptr i k=>
  simp only[kW]at c;split at c
  .rename_i j q
   split at c
   .rename_i F
    simp only[zF]at F;have e1:=z6 F.1;have e2:=z6 F.2;subst e1 e2;simp only[rel]at A n;obtain⟨l,X,rfl⟩:=A;obtain⟨l',J,rfl⟩:=n;rw[X]at J;cases J;unfold BQ at c;split at c
    .rename_i e I
     split at c
     .rename_i ji V
      exact B true (UR (λo z=>⟨rfl,rfl⟩) rfl rfl (λd=>by simp[Op.equalIn,zU I,sizeOf,typeInfo,V,run_sameAddr_same])) _ _ rfl rfl c
     .cases c
    .cases c
   .cases c
  .exact other c
 |_=>exact other c
def zG6(e:Sim w0 G M ρ h w){op:UnOp}{a:Value}(c:rel M ρ x a)(b:vun op x=some d):YV P w0 G M ρ nid w (Op.unary op a) d h:=by
 unfold vun at b;split at b
 .cases b
  obtain⟨rfl,_⟩:=c;exact .pure e (by simp only[Op.unary,Op.intArith,yL]) (wx (re _ _))
 .cases b
  subst c;exact .pure e (by simp only[Op.unary,yL]) (uW _)
 .cases b
def Ii(o:Sim w0 G M ρ h w){x i d:D}(p:rel M ρ x vx)(y:rel M ρ i vy)(a:nS P t x i=some d):YV P w0 G M ρ nid w (Instr.index t vx vy) d h:=by
 unfold nS at a;split at a
 .rename_i k n
  obtain⟨rfl,_⟩:=y;split at a
  .rename_i s
   obtain⟨b,rfl,rfl,_⟩:=p;split at a
   .rename_i z
    split at a
    .rename_i h0
     split at a
     .rename_i c g
      cases a;have r:b[n.toNat]? =some c:=by
       have:b.data[n.toNat]? =some c:=by simpa using g
       rw[<-this];rfl
      refine .pure o (v:=.int .u8 c.toNat) ?_ (wx ?_)
      .simp[Instr.index,asIntOf,zU z,h0,r]
      .rw[p7];have:=c.toNat_lt;simp[IntKind.min,IntKind.max,IntKind.signed,IntKind.bits];omega
     .cases a
    .cases a
   .cases a
  .rename_i cs
   obtain⟨vs,rfl,m,j⟩:=p;split at a
   .rename_i len e u
    split at a
    .rename_i ag f
     split at a
     .rename_i g
      simp only[zF,zO]at g;obtain⟨v,h1,q⟩:=dA (w:=w) f m j a;obtain⟨td,l,_⟩:=YF (w:=w) f;exact .pure o (by simp[Instr.index,asIntOf,zU (bA u),g,gm l,h1]) q
     .cases a
    .cases a
   .cases a
  .cases a
 .cases a
def Ih(i:Sim w0 G M ρ h w){f off:Nat}{ag:Bool}(l:rel M ρ (.agg cs) vx)(hf:qK P t f=some (off,u))(b:agT P u=some ag)(k:yO ag (szT P u) cs off=some d):
  YV P w0 G M ρ nid w (Instr.field t vx f) d h:=by
 obtain⟨fs,fl,j,c,rfl,rfl⟩:=XG hf;obtain⟨vs,rfl,e,a⟩:=l;obtain⟨v,h1,g⟩:=dA (w:=w) b e a k;exact .pure i (by simp[Instr.field,zU j,c,asAgg,h1]) g
def P0(g:Sim w0 G M ρ h w)(e:rel M ρ x vx)(a:lO x i=some d):YV P w0 G M ρ nid w (Instr.extract vx i) d h:=by
 unfold lO at a;split at a
 .simp only[rel]at e
  obtain⟨vs,rfl,c⟩:=e;obtain⟨v,h1,f⟩:=th c i d a;have b:vs[i]? =some v:=by simpa using h1
  exact .pure g (by simp[Instr.extract,b]) f
 .cases a
end
section
variable{P:Program}{w0:Base}{G:List Nat}{M:Imm}{ρ:Ren}{h:Heap}{w:World}{nid:Nat}
def Z0{l u:Nat}(a:s8 n lo hi=some (l,u)):VA n hi=some u/\Te u lo=some l:=by grind [s8]
def Uc{u:Nat}(b:VA n hi=some u){vhi:Option Value}(c:∀d,hi=some d->∃v,vhi=some v/\rel M ρ d v)(a:hi=none->vhi=none):
  (vhi=none/\u=n)\/∃k x,vhi=some (.int k x)/\0<=x/\x<=n/\u=x.toNat:=by
 cases hi with
 |none=>simp[VA]at b;exact .inl ⟨a rfl,b.symm⟩
 |some d=>
  cases d with
  |int k x=>
   grind [VA,rel]
  |_=>simp[VA]at b
def N8{l:Nat}(b:Te n lo=some l){vlo:Option Value}(c:∀d,lo=some d->∃v,vlo=some v/\rel M ρ d v)(a:lo=none->vlo=none):
  (vlo=none/\l=0)\/∃k x,vlo=some (.int k x)/\0<=x/\x<=n/\l=x.toNat:=by
 cases lo with
 |none=>simp[Te]at b;exact .inl ⟨a rfl,b.symm⟩
 |some d=>
  cases d with
  |int k x=>
   grind [Te,rel]
  |_=>simp[Te]at b
def pi{l u:Nat}(b:s8 n lo hi=some (l,u)):l<=u/\u<=n:=by
 obtain⟨h1,a⟩:=Z0 b;refine⟨?_,?_⟩
 .cases lo with
  |none=>simp[Te]at a;omega
  |some d=>
   cases d with
   |int k x=>
    grind [Te]
   |_=>simp[Te]at a
 .cases hi with
  |none=>simp[VA]at h1;omega
  |some d=>
   cases d with
   |int k x=>
    grind [VA]
   |_=>simp[VA]at h1
def mq{n cap:Nat}{l u:Nat}(o:s8 n lo hi=some (l,u))(g:n<=cap)(f:Bool){vlo vhi:Option Value}
  (e:∀d,lo=some d->∃v,vlo=some v/\rel M ρ d v) (b:lo=none->vlo=none) (c:∀d,hi=some d->∃v,vhi=some v/\rel M ρ d v) (a:hi=none->vhi=none):
  (Instr.sliceBounds f n cap vlo vhi none).run P w=.ok (l,u,cap) w:=by
 obtain⟨h1,m⟩:=Z0 o;rcases Uc h1 c a with⟨rfl,rfl⟩ | ⟨k,x,rfl,h,p,rfl⟩ <;>rcases N8 m e b with⟨rfl,rfl⟩ | ⟨k',y,rfl,i,j,rfl⟩
 .simp[Instr.sliceBounds]
 .simp[Instr.sliceBounds,run_sliceBound w k' y _ _ i j]
 .simp[Instr.sliceBounds,run_sliceBound w k x cap _ h ow]
 .simp[Instr.sliceBounds,run_sliceBound w k x cap _ h ow,run_sliceBound w k' y x.toNat _ i j]
theorem U0{b p:Nat}(c:gg M ρ sz xs b p)(l u:Nat):gg M ρ sz ((xs.take u).drop l) b (p+l*sz):=
 og λi x a=>by
  have h1:xs[l+i]? =some x:=by
   simp only[yy,zu]at a;split at a
   .exact a
   .cases a
  have:=YW c _ _ h1;rw[qx,<-qf]at this;exact this
def aI{b m:D}{l u:Nat}(a:jZ n lo b m=some (l,u)):VA n (some m)=some u/\VA u (some b)=some u/\Te u lo=some l:=by
 unfold jZ at a;split at a
 .cases a
 .rename_i h e
  split at a
  .cases a
  .rename_i i f
   split at a
   .rename_i c
    split at a
    .cases a
    .rename_i g d
     cases a;subst c;exact⟨e,f,d⟩
   .cases a
def aJ{a m:D}{l u:Nat}(b:jZ n lo a m=some (l,u)):l<=u/\u<=n:=by
 obtain⟨h1,c,h3⟩:=aI b;have k1:s8 n lo (some m)=some (l,u):=by grind [s8]
 exact pi k1
def gz{n cap:Nat}{o m:D}{l u:Nat}(B:jZ n lo o m=some (l,u))(j:n<=cap)(h:Bool){vlo:Option Value}{vhi c:Value}
  (g:∀d,lo=some d->∃v,vlo=some v/\rel M ρ d v) (a:lo=none->vlo=none) (f:rel M ρ o vhi) (A:rel M ρ m c):
  (Instr.sliceBounds h n cap vlo (some vhi) (some c)).run P w=.ok (l,u,u) w:=by
 obtain⟨h1,t,h3⟩:=aI B;rcases Uc (M:=M) (ρ:=ρ) (vhi:=some c) h1 (λd e=>by cases e;exact⟨c,rfl,A⟩) (λe=>by cases e)with⟨e,_⟩ | ⟨k,x,e,q,F,p⟩
 .cases e
 .cases e
  rcases Uc (M:=M) (ρ:=ρ) (vhi:=some vhi) t (λd e=>by cases e;exact⟨vhi,rfl,f⟩) (λe=>by cases e)with⟨e,_⟩ | ⟨k',y,e,r,s,b⟩
  .cases e
  .cases e
   rcases N8 h3 g a with⟨rfl,rfl⟩ | ⟨i,z,rfl,C,E,rfl⟩
   .simp[Instr.sliceBounds,run_sliceBound w k x cap _ q ow,<-p,run_sliceBound w k' y u _ r s,<-b]
   .simp[Instr.sliceBounds,run_sliceBound w k x cap _ q ow,<-p,run_sliceBound w k' y u _ r s,<-b,run_sliceBound w i z u _ C E]
def Lz(z:Sim w0 G M ρ h w){x d I m:D}{N vhi L:Value}{vlo:Option Value}(H:rel M ρ x N)
  (n:∀d,lo=some d->∃v,vlo=some v/\rel M ρ d v) (g:lo=none->vlo=none) (k:rel M ρ I vhi) (C:rel M ρ m L)
  (a:NH P t x lo I m=some d):YV P w0 G M ρ nid w (Instr.sliceAt t N vlo (some vhi) (some L)) d h:=by
 unfold NH at a;split at a
 .cases a
 .rename_i e O
  split at a
  .cases a
  .rename_i B
   have r:=sn O;have A:=wC (P:=P) (w:=w) B;have i:P.underlying t=some (.slice (P.elem t)):=by rw[r];simp[Program.elem,r]
   split at a
   .rename_i sz xs tk
    split at a
    .rename_i F
     split at a
     .rename_i l u j
      cases a;obtain⟨h0,s,b,p,cap,⟨K,rfl,y⟩,f,T,R⟩:=H;have c:=gz (P:=P) (w:=w) (M:=M) (ρ:=ρ) j f true n g k C;have J:=aJ j;rcases y with rfl|rfl
      case inr=>
       obtain rfl:u=0:=ow;obtain rfl:l=0:=ow;refine .pure z (v:=.slice (some ⟨b,p,K⟩) 0 0) ?_ ?_
       .rw[run_sliceAt_slice (w:=w) t _ _ _ _ i]
        simp only[Instr.slice,zq,zU r,zZ,c,A,yL];rfl
       .simp only[rel]
        exact⟨h0,jS,b,p,0,⟨K,rfl,.inr rfl⟩,jS,by simp[gg],jS⟩
      refine .pure z (v:=.slice (some ⟨b,if u=l then p else p+l*sz,none⟩) (u-l) (u-l)) ?_ ?_
      .rw[run_sliceAt_slice (w:=w) t _ _ _ _ i]
       simp only[Instr.slice,zq,zU r,zZ,c,A,yL]
       grind [tN]
      .grind [rel,Ib.mk,gg,U0]
     .cases a
    .cases a
   .rename_i id sz off len
    split at a
    .rename_i F
     split at a
     .rename_i l u j
      split at a
      .rename_i Q
       obtain⟨h0,s,S,cap,o,U,rfl,f,E,V⟩:=H;have c:=gz (P:=P) (w:=w) (M:=M) (ρ:=ρ) j f.1 true n g k C;refine .pure z (v:=.slice (some ⟨S.blk,o,none⟩) 0 0) ?_ ?_
       .rw[run_sliceAt_slice (w:=w) t _ _ _ _ i]
        simp only[Instr.slice,zq,zU r,zZ,c,A,yL]
        grind
       .grind [rel,Ib.mk,gg]
      .cases a
     .cases a
    .cases a
   .split at a
    .rename_i q j
     cases a;subst H;obtain⟨l,u⟩:=q;have c:=gz (P:=P) (w:=w) (M:=M) (ρ:=ρ) j (zC 0) true n g k C;have y:=aJ j;obtain rfl:l=0:=ow;obtain rfl:u=0:=ow;refine .pure z (v:=.slice none 0 0) ?_ (by simp only[rel]);rw[run_sliceAt_slice (w:=w) t _ _ _ _ i];simp only[Instr.slice,zq,zU r,zZ,c,A,yL];rfl
    .cases a
   .cases a
theorem Il(F:Sim w0 G M ρ h w){vlo vhi:Option Value}(B:rel M ρ x vx)
  (y:∀d,lo=some d->∃v,vlo=some v/\rel M ρ d v) (j:lo=none->vlo=none) (r:∀d,hi=some d->∃v,vhi=some v/\rel M ρ d v) (i:hi=none->vhi=none)
  (a:fG P t x lo hi none=some d):YV P w0 G M ρ nid w (Instr.sliceAt t vx vlo vhi none) d h:=by
 simp only[fG]at a;split at a
 .rename_i s
  split at a
  .rename_i f
   split at a
   .rename_i l u k
    cases a;simp only[rel]at B;obtain⟨b,rfl,rfl,A⟩:=B;have n:b.size=b.data.toList.length:=by rw[yI];rfl
    rw[<-n]at k;have c:=mq (P:=P) (w:=w) (M:=M) (ρ:=ρ) k (zC _) false y j r i;have z:=pi k;refine .pure F (v:=.string (b.extract l u)) ?_ ?_
    .rw[run_sliceAt_string (w:=w) t _ _ _ _ f]
     simp only[Instr.slice,zq,zU f,zZ,tZ,zg,yp,c,yL]
    .simp only[rel]
     refine⟨_,rfl,?_,?_⟩
     .simp[ByteArray.data_extract,List.drop_take]
     .simp only[qJ,yB];omega
   .cases a
  .cases a
 .rename_i sz xs tk
  split at a
  .rename_i e D
   split at a
   .rename_i n
    split at a
    .rename_i l u k
     cases a;simp only[rel]at B;obtain⟨h0,A,b,p,cap,⟨R,rfl,z⟩,m,S,O⟩:=B;have c:=mq (P:=P) (w:=w) (M:=M) (ρ:=ρ) k m true y j r i;have H:=pi k;have f:=sn D;have J:=wC (P:=P) (w:=w) (t:=e) ow;rcases z with rfl|rfl
     case inr=>
      obtain rfl:xs= []:=yS ow;simp only[qD]at H;obtain rfl:u=0:=ow;obtain rfl:l=0:=ow;refine .pure F (v:=.slice (some ⟨b,p,R⟩) 0 0) ?_ ?_
      .have g:P.underlying t=some (.slice (P.elem t)):=by rw[f];simp[Program.elem,f]
       rw[run_sliceAt_slice (w:=w) t _ _ _ _ g];simp only[Instr.slice,zq,zU f,zZ,c,J,yL];rfl
      .simp only[rel]
       refine⟨h0,jS,b,p,0,⟨R,rfl,.inr rfl⟩,jS,by simp[gg],?_⟩;cases tk<;>simp[PK]
     refine .pure F (v:=.slice (some ⟨b,if cap=l then p else p+l*sz,none⟩) (u-l) (cap-l)) ?_ ?_
     .have g:P.underlying t=some (.slice (P.elem t)):=by rw[f];simp[Program.elem,f]
      rw[run_sliceAt_slice (w:=w) t _ _ _ _ g];simp only[Instr.slice,zq,zU f,zZ,c,J,yL];congr 2;split<;>simp[tN,<-n]
     .simp only[rel]
      have E:((xs.take u).drop l).length=u-l:=by simp only[qJ,yB];omega
      refine⟨h0,ow,b,_,_,by rw[E];exact Ib.mk _ _ _ _,ow,?_,?_⟩
      .by_cases K:cap=l
       .have:(xs.take u).drop l= []:=by apply yS;omega
        rw[this];simp[gg]
       .rw[iq K];exact U0 S l u
      .cases tk with
       |no=>simp only[PK]
       |own t=>simp only[PK]
       |full=>
        simp only at O;by_cases C:u=xs.length
        .simp only[PK,C,qF,yC,qJ];omega
        .simp only[PK,C,yp]
    .cases a
   .cases a
  .cases a
 .rename_i id sz off len
  split at a
  .rename_i e D
   split at a
   .rename_i n
    split at a
    .rename_i l u k
     cases a;simp only[rel]at B;obtain⟨h0,A,Q,cap,o,T,rfl,m,N,I⟩:=B;have c:=mq (P:=P) (w:=w) (M:=M) (ρ:=ρ) k m.1 true y j r i;have z:=pi k;have f:=sn D;have J:=wC (P:=P) (w:=w) (t:=e) ow;refine .pure F (v:=.slice (some ⟨Q.blk,if cap=l then o else o+l*sz,none⟩) (u-l) (cap-l)) ?_ ?_
     .have g:P.underlying t=some (.slice (P.elem t)):=by rw[f];simp[Program.elem,f]
      rw[run_sliceAt_slice (w:=w) t _ _ _ _ g];simp only[Instr.slice,zq,zU f,zZ,c,J,yL];congr 2;split<;>simp[tN,<-n]
     .simp only[rel]
      refine⟨h0,ow,Q,cap-l,_,T,rfl,ow,?_,?_⟩
      .have:(cap-l)*sz+l*sz=cap*sz:=by rw[<-qx];congr 1;omega
       omega
      .by_cases K:cap=l
       .left;omega
       .right;rw[iq K];rcases I with I|I
        .omega
        .rw[I]
    .cases a
   .cases a
  .cases a
 .split at a
  .rename_i e D
   split at a
   .cases a
   rename_i L;split at a
   .rename_i q k
    cases a;simp only[rel]at B;subst B;have c:=mq (P:=P) (w:=w) (M:=M) (ρ:=ρ) k (zC 0) true y j r i;have z:=pi k;have f:=sn D;obtain⟨l,u⟩:=q;obtain rfl:l=0:=ow;obtain rfl:u=0:=ow;refine .pure F (v:=.slice none 0 0) ?_ (by simp only[rel]);have g:P.underlying t=some (.slice (P.elem t)):=by rw[f];simp[Program.elem,f]
    rw[run_sliceAt_slice (w:=w) t _ _ _ _ g];have U:=wC (P:=P) (w:=w) L;simp only[Instr.slice,zq,zU f,zZ,c,U,yL];rfl
   .cases a
  .cases a
 .cases a
theorem tf(sz:Nat):∀(n:Nat)(cs:List D),(wK sz n cs).length=n
 |0,_=>rfl
 |n+1,cs=>by simp[wK,tf sz n]
theorem Y9(sz:Nat):∀(n:Nat)(ds:List D),wK sz n (ds.take (n*sz))=wK sz n ds
 |0,_=>rfl
 |n+1,ds=>by
  simp only[wK];rw[List.take_take,mN (by rw[qh];omega),List.drop_take,show(n+1)*sz-sz=n*sz by rw[qh];omega,Y9 sz n]
variable{M:Imm}
theorem gh{sz b:Nat} :∀(n:Nat){ds:List D}{p:Nat},ds.length=n*sz->lM M ρ ds b p->gg M ρ sz (wK sz n ds) b p
 |0,_,_,_,_=>trivial
 |n+1,ds,p,c,h=>by
  have e:ds.length=n*sz+sz:=by rw[c,qh]
  have f:=nv h;refine⟨jO,uJ λi d a=> ?_,gh n jO (uJ λi d a=> ?_)⟩
  all_goals grind
def L4(hs:Sim w0 G M ρ h w){t e:TypeId}{n:Nat}{x d:D}{lo hi:Option D}{vx:Value}{vlo vhi:Option Value}(ht:Wu P t=some (n,e))(hx:rel M ρ x vx)
  (hlo:∀d,lo=some d->∃v,vlo=some v/\rel M ρ d v) (hlo':lo=none->vlo=none) (hhi:∀d,hi=some d->∃v,vhi=some v/\rel M ρ d v) (hhi':hi=none->vhi=none)
  (hv:TY P n e x lo hi h=some d):YV P w0 G M ρ nid w (Instr.sliceAt t vx vlo vhi none) d h:=by
 unfold TY at hv;split at hv
 .rename_i hc
  simp only[zF,zO]at hc;obtain⟨h0,hlim⟩:=hc;have hu:=bA ht;have hz:=wC (P:=P) (w:=w) (t:=e) ow;split at hv
  .cases hv
  .rename_i l u hb
   have hrun:=mq (P:=P) (w:=w) (M:=M) (ρ:=ρ) hb (zC _) false hlo hlo' hhi hhi';have hsp:=pi hb;split at hv
   .rename_i id off
    split at hv
    .rename_i cs hi'
     split at hv
     .rename_i hle
      cases hv;obtain⟨lc,hl,rfl⟩:=hx;obtain⟨lc',h1,_,hM,c,ty,hw,hls,hlen,_⟩:=hs.live id _ hi';rw[hl]at h1;cases h1;refine .pure hs (v:=.slice (some ⟨lc.blk,if n=l then off else off+l*szT P e,none⟩) (u-l) (n-l)) ?_ ?_
      .simp only[Instr.sliceAt,zq,zU hu,zZ,Instr.sureAddr,yL,hrun,hz]
       split<;>simp[tN]
      .simp only[rel]
       refine⟨h0,ow,lc,n-l,_,hl,rfl,⟨ow,by unfold maxLen;unfold lim at *;omega⟩,?_,?_⟩
       .have:(n-l)*szT P e+l*szT P e=n*szT P e:=by rw[<-qx];congr 1;omega
        omega
       .grind
     .cases hv
    .cases hv
   .rename_i cs off
    split at hv
    .rename_i hle
     obtain⟨b,p,rfl,hC⟩:=hx;have hg:=nv hC;have hE:gg M ρ (szT P e) (wK (szT P e) n ((cs.drop off).take (n*szT P e))) b (p+off):=by grind [gh,uJ]
     have hch:wK (szT P e) n ((cs.drop off).take (n*szT P e))=wK (szT P e) n (cs.drop off):=Y9 _ _ _;refine .pure hs (v:=.slice (some ⟨b,if n=l then p+off else p+off+l*szT P e,none⟩) (u-l) (n-l)) ?_ ?_
     .simp only[Instr.sliceAt,zq,zU hu,zZ,Instr.sureAddr,yL,hrun,hz]
      split<;>simp[tN]
     .grind [wK,szT,tf,rel,Ib.mk,gg,U0]
    .cases hv
   .cases hv
 .cases hv
theorem MR{b:Nat}(hr:wG M ρ ds vs)(hf:ds.all D.flat=true)(hM:∀o,M b o=none):lM (mC M b 0 vs) ρ ds b 0:=
 uJ λi d a=>by
  obtain⟨v,h1,c⟩:=th hr i d a;exact⟨zT.1 hf d (zh a),v,V9 h1,u9 (lV λo _=>hM o) (RLe.refl _) _ _ c⟩
theorem sd(hr:rel M ρ d v):wG M ρ d.cells v.cells.toList:=by
 cases d<;>first
  |(simp only[rel]at hr;obtain⟨vs,rfl,h,_⟩:=hr;simpa [D.cells,Value.cells]using h;done)
  |skip
 all_goals
  have a:v.cells= #[v]:=by
   first
    |(subst hr;rfl)
    |(obtain⟨rfl,_⟩:=hr;rfl)
    |(obtain⟨_,rfl,_⟩:=hr;rfl)
    |(obtain⟨_,_,rfl⟩:=hr;rfl)
    |(obtain⟨_,_,rfl,_⟩:=hr;rfl)
    |(obtain⟨_,_,_,_,_,⟨_,rfl,_⟩,_⟩:=hr;rfl)
    |(obtain⟨_,_,_,_,_,rfl,_⟩:=hr;rfl)
    |(obtain⟨_,_,_,_,_,_,rfl,_⟩:=hr;rfl)
    |(obtain⟨_,_,_,rfl,_⟩:=hr;rfl)
  rw[a];simp only[D.cells]
  grind [wF,rel,wG]
theorem rm(hr:rel M ρ d v)(a:d.notTuple=true):d.cells.all D.flat=true:=by
 cases d with
 |agg cs=>simp only[rel]at hr;exact(by obtain⟨_,_,_,h⟩:=hr;exact h)
 |tuple cs=>cases a
 |_=>rfl
def ZK(t:TypeId)(v:Value):(newVar t v).run P w=.ok ⟨w.heap.size,0,none⟩ (w.alloc (.cells v.cells t)):=by
 simp[newVar,newRow]
def Px(b:Sim w0 G M ρ h w)(e:rel M ρ x v)(d:x.notTuple=true):YV P w0 G M ρ nid w (Instr.box t v) (.iptr x.cells 0) h:=by
 have c:∀o,M w.heap.size o=none:=b.none_at (zC _);have a:=b.allocImm v.cells t v.cells.size;rw[show v.cells.toList.take v.cells.size=v.cells.toList by rw[<-yI];exact yC]at a;refine⟨.pointer (some ⟨w.heap.size,0,none⟩),_,mC M w.heap.size 0 v.cells.toList,ρ,?_,lV λo _=>c o,RLe.refl _,λ_ _=>rfl,a,?_⟩
 .simp[Instr.box,ZK]
 .grind [rel,MR,sd,rm]
variable{w:World}
def fj{c:Array Value}(hM:∀o,M l.blk o=none)(h:w.heap[l.blk]? =some (.cells c t (0,0)))(f:l.size=c.size)(b:ds.length<=c.size)
  (hr:wG M ρ ds (c.toList.take ds.length)) (hf:ds.all D.flat=true):sZ M ρ w l (.row ds):=
 ⟨hM,c,t,h,f,b,λi d a=>by
  obtain⟨v,h1,g⟩:=th hr i d a;have e:i<ds.length:=(zK.1 a).1;exact⟨zT.1 hf d (zh a),v,by simpa [zu,e]using h1,g⟩⟩
def Sim.newRow(d:Sim w0 G M ρ h w)(b:ρ nid=none){c:Array Value}(t:TypeId)(a:ds.length<=c.size)(hr:wG M ρ ds (c.toList.take ds.length))(hf:ds.all D.flat=true):
  Sim w0 G M (nQ ρ nid ⟨w.heap.size,0,c.size⟩) (h.new nid (.row ds)) (w.alloc (.cells c t)):=by
 refine d.allocObj b _ _ _ rfl (fj (l:=⟨w.heap.size,0,c.size⟩) (d.none_at (zC _)) (t:=t) (c:=c) ?_ rfl a ?_ hf)
 .show(w.heap.push _)[w.heap.size]? =_
  simp
 .have:=rW (MLe.refl M) (tA (l:=⟨w.heap.size,0,c.size⟩) b) _ _ hr
  exact this
def jN{c:Array Value}{full:Bool}(hM:∀o,M l.blk o=none)(g:w.heap[l.blk]? =some (.cells c t (0,0)))(f:l.size=c.size)(d:ds.length<=c.size)(b:full=true->c.size=ds.length)
  (hr:wG M ρ ds (c.toList.take ds.length)) (hf:ds.all D.flat=true):sZ M ρ w l (.trow t full ds):=by
 obtain⟨h0,c',e,h1,h,h3,i⟩:=fj hM g f d hr hf;have a:=h1;rw[g]at a;cases a;exact⟨h0,c,t,h1,h,h3,i,rfl,b⟩
def Sim.newTRow(e:Sim w0 G M ρ h w)(d:ρ nid=none){c:Array Value}(t:TypeId)(full:Bool)(b:ds.length<=c.size)(a:full=true->c.size=ds.length)(hr:wG M ρ ds (c.toList.take ds.length))(hf:ds.all D.flat=true):
  Sim w0 G M (nQ ρ nid ⟨w.heap.size,0,c.size⟩) (h.new nid (.trow t full ds)) (w.alloc (.cells c t)):=by
 refine e.allocObj d _ _ _ rfl (jN (l:=⟨w.heap.size,0,c.size⟩) (e.none_at (zC _)) (t:=t) (c:=c) ?_ rfl b a ?_ hf)
 .show(w.heap.push _)[w.heap.size]? =_
  simp
 .have:=rW (MLe.refl M) (tA (l:=⟨w.heap.size,0,c.size⟩) d) _ _ hr
  exact this
theorem QT(k:Sim w0 G M ρ h w)(e:ρ nid=none)(f:rel M ρ x v)(l:x.notTuple=true):YV P w0 G M ρ nid w (Instr.box t v) (.ptr nid 0) (h.new nid (.trow t true x.cells)):=by
 have d:=sd f;have j:=yw d;have a:x.cells.length=v.cells.size:=by rw[<-j];simp
 have b:=k.newTRow e t true (ds:=x.cells) (c:=v.cells) ow (λ_=>a.symm) (by rw[a,<-yI,yC];exact d) (rm f l);refine⟨.pointer (some ⟨w.heap.size,0,none⟩),_,M,_,?_,MLe.refl _,tA e,λi g=>by simp[nQ,kL g],b,?_⟩
 .simp[Instr.box,ZK]
 .simp_all [rel,nQ]
theorem WA(k:Sim w0 G M ρ h w)(e:ρ nid=none)(f:rel M ρ x v)(l:x.notTuple=true):YV P w0 G M ρ nid w (Instr.box t v) (.ptr nid 0) (h.new nid (.row x.cells)):=by
 have d:=sd f;have j:=yw d;have a:x.cells.length=v.cells.size:=by rw[<-j];simp
 have b:=k.newRow e t (ds:=x.cells) (c:=v.cells) ow (by rw[a,<-yI,yC];exact d) (rm f l);refine⟨.pointer (some ⟨w.heap.size,0,none⟩),_,M,_,?_,MLe.refl _,tA e,λi g=>by simp[nQ,kL g],b,?_⟩
 .simp[Instr.box,ZK]
 .simp_all [rel,nQ]
end
section
variable{P:Program}{w0:Base}{G:List Nat}{M:Imm}{ρ:Ren}{h:Heap}{w:World}{nid:Nat}
def Jf(v:Value)(h:kE v=true)(a:v.oneCell'=true):(cst v).flat=true:=by
 unfold kE at h;split at h<;>(first|rfl|cases a|cases h)
theorem Nv:∀(vs:List Value),XC vs=true->vs.all (·.oneCell')=true->(CF vs).all D.flat=true
 | [],_,_=>by simp[CF]
 |v::vs,h,a=>by
  simp only[uU,zF]at a;simp only[XC,zF]at h;simp only[CF,uU,zF];exact⟨Jf v h.1 a.1,Nv vs h.2 a.2⟩
mutual
theorem Po:∀(v:Value),kE v=true->rel M ρ (cst v) v
 |.bool b,_=>by simp only[cst,rel]
 |.int k n,h=>by simp only[kE,qz]at h;exact wx h
 |.string s,h=>by grind [kE,cst,rel]
 |.pointer none,_=>by simp only[cst,rel]
 |.pointer (some _),h=>by simp[kE]at h
 |.slice none 0 0,_=>by simp only[cst,rel]
 |.slice none 0 (_+1),h=>by simp[kE]at h
 |.slice none (_+1) _,h=>by simp[kE]at h
 |.slice (some _) _ _,h=>by simp[kE]at h
 |.map none,_=>by simp only[cst,rel]
 |.map (some _),h=>by simp[kE]at h
 |.nilFunc,_=>by simp only[cst,rel]
 |.nilIface,_=>by simp only[cst,rel]
 |.agg cs,h=>by simp only[kE,zF]at h;exact⟨cs,rfl,U3 cs.toList h.1,Nv cs.toList h.1 h.2⟩
 |.tuple cs,h=>by simp only[kE]at h;exact⟨cs,rfl,U3 cs.toList h⟩
 |.float _ _,h=>by simp[kE]at h
 |.complex _ _ _,h=>by simp[kE]at h
 |.chan _,h=>by simp[kE]at h
 |.func _ _ _,h=>by simp[kE]at h
 |.iface _ _,h=>by simp[kE]at h
theorem U3:∀(vs:List Value),XC vs=true->wG M ρ (CF vs) vs
 | [],_=>by simp only[CF,wG]
 |v::vs,h=>by
  simp only[XC,zF]at h;exact⟨v,vs,rfl,Po v h.1,U3 vs h.2⟩
end
def po(a:uo P t=some z):∃i v,P.info? t=some i/\i.zero=some v/\rel M ρ z v/\(zeroValue t).run P w=.ok v w:=by
 unfold uo at a;cases c:P.info? t with
 |none=>rw[c]at a;cases a
 |some i=>
  rw[c]at a;simp only[sY]at a;cases b:i.zero with
  |none=>rw[b]at a;cases a
  |some v=>
   rw[b]at a;simp only at a;split at a
   .rename_i d;cases a
    exact⟨i,v,rfl,b,Po v d,by simp[zeroValue,typeInfo,c,b]⟩
   .cases a
theorem PZ(t:TypeId)(cs:List D):ZB t cs=.row cs\/ZB t cs=.trow t true cs:=by
 unfold ZB
 grind
def Ic(g:Sim w0 G M ρ h w)(f:ρ nid=none)(c:uo P t=some z)(j:z.notTuple=true):YV P w0 G M ρ nid w (Instr.alloc t true (.tuple #[])) (.ptr nid 0) (h.new nid (ZB t z.cells)):=by
 obtain⟨i,v,_,_,hr,a⟩:=po (M:=M) (ρ:=ρ) (w:=w) c;obtain⟨u,d,M',e,h1,b⟩:YV P w0 G M ρ nid w (Instr.box t v) (.ptr nid 0) (h.new nid (ZB t z.cells)):=by grind [PZ,WA,QT]
 refine⟨u,d,M',e,?_,b⟩;rw[<-h1];simp[Instr.alloc,Instr.box,a]
def Zk(hr:rel M ρ d v)(hf:d.flat=true):v.oneCell'=true:=by
 cases d<;>simp[D.flat]at hf<;>simp only[rel]at hr<;>first
  |(subst hr;rfl)
  |(obtain⟨rfl,_⟩:=hr;rfl)
  |(obtain⟨_,rfl,_⟩:=hr;rfl)
  |(obtain⟨_,_,rfl⟩:=hr;rfl)
  |(obtain⟨_,_,rfl,_⟩:=hr;rfl)
  |(obtain⟨_,_,_,_,_,⟨_,rfl,_⟩,_⟩:=hr;rfl)
  |(obtain⟨_,_,_,_,_,rfl,_⟩:=hr;rfl)
  |(obtain⟨_,_,_,_,_,_,rfl,_⟩:=hr;rfl)
  |(obtain⟨_,_,_,rfl,_⟩:=hr;rfl)
theorem sR:∀{ds:List D}{vs:List Value},wG M ρ ds vs->ds.all D.flat=true->∀v∈vs,v.oneCell'=true
 | [],_,h,_,v,a=>by grind [wG]
 |d::ds,_,h,hf,v,a=>by
  obtain⟨u,c,rfl,h1,b⟩:=h;simp only[uU,zF]at hf;rcases z7.1 a with rfl|a
  .exact Zk h1 hf.1
  .exact sR b hf.2 v a
def fX{off:Nat}(h1:cs.all D.flat=true)(a:ds.all D.flat=true):(wS cs ds off).all D.flat=true:=by grind [wS]
theorem oo(l m:List α)(a:Nat)(b:a+m.length<=l.length)(i:Nat):
  (l.take a++m++l.drop (a+m.length))[i]? =if i<a then l[i]? else if i<a+m.length then m[i-a]? else l[i]? :=by grind
def jT{as ds:List D}{xs vs:List Value}{off:Nat}(a:wG M ρ as xs)(b:wG M ρ ds vs)(c:off+ds.length<=as.length):
  wG M ρ (wS as ds off) (xs.take off++vs++xs.drop (off+vs.length)):=by grind [yw,wF,wS,oo,th]
def Sim.setRow(k:Sim w0 G M ρ h w){cs cs':List D}(i:h.at' id=some (.row cs))(j:ρ id=some l){c c':Array Value}(g:w.heap[l.blk]? =some (.cells c t (0,0)))
  (f:c'.size=c.size) (a:cs'.length<=c'.size) (hr:wG M ρ cs' (c'.toList.take cs'.length)) (hf:cs'.all D.flat=true):Sim w0 G M ρ (h.set id (.row cs')) (w.setRow l.blk c'):=by
 obtain⟨r,h1,_,hM,p,q,h3,m,_,_⟩:=k.live id _ i;rw[j]at h1;cases h1;rw[g]at h3;cases h3;refine k.put i j (setRow_os w _ _) (X7 w _ _) (br w _ _) (cV w _ _) (λb n=>nP w _ _ _ n) (λo v e=>by rw[hM o]at e;cases e) ⟨_,g,λd=>by simp⟩ ?_;exact fj hM (mh w _ _ c' t (0,0) g) (by rw[m,f]) a hr hf
def Sim.setTRow(m:Sim w0 G M ρ h w){full:Bool}{cs cs':List D}(j:h.at' id=some (.trow u full cs))(k:ρ id=some l){c c':Array Value}(i:w.heap[l.blk]? =some (.cells c t (0,0)))
  (a:c'.size=c.size) (f:cs'.length<=c'.size) (g:cs'.length=cs.length) (hr:wG M ρ cs' (c'.toList.take cs'.length)) (hf:cs'.all D.flat=true):Sim w0 G M ρ (h.set id (.trow u full cs')) (w.setRow l.blk c'):=by
 obtain⟨y,h1,_,hM,s,x,h3,n,_,_,p,q⟩:=m.live id _ j;rw[k]at h1;cases h1;rw[i]at h3;cases h3;refine m.put j k (setRow_os w _ _) (X7 w _ _) (br w _ _) (cV w _ _) (λb r=>nP w _ _ _ r) (λo v e=>by rw[hM o]at e;cases e) ⟨_,i,λd=>by simp⟩ ?_;subst p;exact jN hM (mh w _ _ c' t (0,0) i) (by rw[n,a]) f (λe=>by rw[a,q e,g]) hr hf
def Sim.setTRow'(k:Sim w0 G M ρ h w){cs cs':List D}(i:h.at' id=some (.trow u false cs))(j:ρ id=some l){c c':Array Value}(g:w.heap[l.blk]? =some (.cells c t (0,0)))
  (f:c'.size=c.size) (a:cs'.length<=c'.size) (hr:wG M ρ cs' (c'.toList.take cs'.length)) (hf:cs'.all D.flat=true):Sim w0 G M ρ (h.set id (.trow u false cs')) (w.setRow l.blk c'):=by
 obtain⟨x,h1,_,hM,q,r,h3,m,_,_,n,s⟩:=k.live id _ i;rw[j]at h1;cases h1;rw[g]at h3;cases h3;refine k.put i j (setRow_os w _ _) (X7 w _ _) (br w _ _) (cV w _ _) (λb p=>nP w _ _ _ p) (λo v e=>by rw[hM o]at e;cases e) ⟨_,g,λd=>by simp⟩ ?_;subst n;exact jN hM (mh w _ _ c' t (0,0) g) (by rw[m,f]) a (λe=>by cases e) hr hf
def Sim.storeRow(r:Sim w0 G M ρ h w){id off:Nat}(o:h.at' id=some (.row cs))(p:ρ id=some l)(hr:wG M ρ ds vs)(hf:ds.all D.flat=true)(k:off+ds.length<=cs.length):
  ∃t,(storeCells ⟨l.blk,off,none⟩ vs).run P w=.ok () t/\Sim w0 G M ρ (h.set id (.row (wS cs ds off))) t:=by
 obtain⟨y,h1,_,hM,c,e,s,v,q,a⟩:=r.live id _ o;rw[p]at h1;cases h1;have x:=yw hr;have b:=sR hr hf;have n:=sF P l.blk off e vs 0 c w s ow b;refine⟨w.setRow l.blk (c.toList.take off++vs++c.toList.drop (off+vs.length)).toArray,n,?_⟩;have f:wG M ρ cs (c.toList.take cs.length):=by grind [wF]
 have m:(wS cs ds off).length=cs.length:=by simp[wS];omega
 have j:(c.toList.take off++vs++c.toList.drop (off+vs.length)).length=c.size:=jO;refine r.setRow o p s (by simpa using j) (by rw[m];simp only[qr];omega) ?_ (fX (zT.2 λd u=>by
  obtain⟨i,g⟩:=yh.1 u;exact(a i d g).1) hf)
 have:=jT f hr k
 grind [wF,th,oo]
theorem Im(O:Sim w0 G M ρ h w){a x:D}(N:rel M ρ a vy)(T:rel M ρ x vx)(q:yW P t a x h=some h'):
  ∃U,(Instr.storeAt t vy vx).run P w=.ok () U/\Sim w0 G M ρ h' U:=by
 unfold yW at q;split at q
 .rename_i id off
  split at q
  .rename_i cs H
   split at q
   .rename_i F
    simp only[zF,zO]at F;obtain⟨⟨⟨B,E⟩,z⟩,k⟩:=F;cases q;simp only[rel]at N;obtain⟨l,I,rfl⟩:=N;obtain⟨W,h1,_,hM,c,e,L,R,J,b⟩:=O.live id _ H;rw[I]at h1;cases h1;have j:=sd T;have A:=yw j;have C:vx.cells.size=x.cells.length:=by rw[<-A];simp
    have m:=sR j k;have o:=sF P l.blk off e vx.cells.toList 0 c w L jO m;rw[qo]at o;refine⟨w.setRow l.blk (c.toList.take off++vx.cells.toList++c.toList.drop (off+vx.cells.toList.length)).toArray,?_,?_⟩
    .have p:(sizeOf t).run P w=.ok vx.cells.size w:=by
      rw[C,E];cases K:P.info? t with
      |some i=>exact run_sizeOf _ K
      |none=>
       exfalso;have h0:szT P t=0:=by simp[szT,Program.cellsOf,K]
       exact B h0
     simp only[Instr.storeAt,Instr.sureAddr,storeVar,zq,yL,zZ,p,ne_eq,not_true_eq_false,yp];exact o
    .have n:wG M ρ cs (c.toList.take cs.length):=wF jO λi d v h1 r=>by
      obtain⟨_,u,e1,e2⟩:=b i d h1;have f:i<cs.length:=(zK.1 h1).1;rw[zu,ip f]at r
      have:some v=some u:=by rw[<-r,<-e1];simp
      cases this;exact e2
     have g:(wS cs x.cells off).length=cs.length:=by simp[wS];omega
     have y:(c.toList.take off++vx.cells.toList++c.toList.drop (off+vx.cells.toList.length)).length=c.size:=jO;refine O.setRow H I L (by simpa using y) (by rw[g];simp only[qr];omega) ?_ (fX (zT.2 λd Q=>by
      obtain⟨i,s⟩:=yh.1 Q;exact(b i d s).1) k)
     rw[g];have:=jT n j z;refine wF jO λi d v h1 r=> ?_;have f:i<cs.length:=by rw[<-g];exact(zK.1 h1).1
     obtain⟨u,e1,e2⟩:=th this i d h1
     have:some v=some u:=by
      rw[<-r,<-e1,zu,ip f,oo _ _ _ jO,oo _ _ _ jO,zu,ip f]
     cases this;exact e2
   .cases q
  .rename_i u full cs H
   split at q
   .rename_i F
    simp only[zF,zO]at F;obtain⟨⟨⟨B,E⟩,z⟩,k⟩:=F;cases q;simp only[rel]at N;obtain⟨l,I,rfl⟩:=N;obtain⟨W,h1,_,hM,c,e,L,R,J,b,V,S⟩:=O.live id _ H;rw[I]at h1;cases h1;have j:=sd T;have A:=yw j;have C:vx.cells.size=x.cells.length:=by rw[<-A];simp
    have m:=sR j k;have o:=sF P l.blk off e vx.cells.toList 0 c w L jO m;rw[qo]at o;refine⟨w.setRow l.blk (c.toList.take off++vx.cells.toList++c.toList.drop (off+vx.cells.toList.length)).toArray,?_,?_⟩
    .have p:(sizeOf t).run P w=.ok vx.cells.size w:=by
      rw[C,E];cases K:P.info? t with
      |some i=>exact run_sizeOf _ K
      |none=>
       exfalso;have h0:szT P t=0:=by simp[szT,Program.cellsOf,K]
       exact B h0
     simp only[Instr.storeAt,Instr.sureAddr,storeVar,zq,yL,zZ,p,ne_eq,not_true_eq_false,yp];exact o
    .have n:wG M ρ cs (c.toList.take cs.length):=wF jO λi d v h1 r=>by
      obtain⟨_,u,e1,e2⟩:=b i d h1;have f:i<cs.length:=(zK.1 h1).1;rw[zu,ip f]at r
      have:some v=some u:=by rw[<-r,<-e1];simp
      cases this;exact e2
     have g:(wS cs x.cells off).length=cs.length:=by simp[wS];omega
     have y:(c.toList.take off++vx.cells.toList++c.toList.drop (off+vx.cells.toList.length)).length=c.size:=jO;refine O.setTRow H I L (by simpa using y) (by rw[g];simp only[qr];omega) g ?_ (fX (zT.2 λd Q=>by
      obtain⟨i,s⟩:=yh.1 Q;exact(b i d s).1) k)
     rw[g];have:=jT n j z;refine wF jO λi d v h1 r=> ?_;have f:i<cs.length:=by rw[<-g];exact(zK.1 h1).1
     obtain⟨u,e1,e2⟩:=th this i d h1
     have:some v=some u:=by
      rw[<-r,<-e1,zu,ip f,oo _ _ _ jO,oo _ _ _ jO,zu,ip f]
     cases this;exact e2
   .cases q
  .cases q
 .cases q
end
section
variable{P:Program}{w0:Base}{G:List Nat}{M:Imm}{ρ:Ren}{h:Heap}{w:World}{nid:Nat}
theorem X5:∀(fs:List Field)(a:List (Nat×Nat)),Xo P fs=some a->(fs.mapM (m:=Sem) λf=>do pure (f.offset,<-sizeOf f.type)).run P w=.ok a w
 | [],a,h=>by simp[Xo]at h;subst h;rfl
 |f::fs,a,h=>by
  simp only[Xo]at h;split at h
  .cases h
  .rename_i d
   simp only[ze]at h;obtain⟨c,b,rfl⟩:=h;have e:=X5 fs c b
   simp_all [List.mapM_cons,wC]
def IZ(off:Nat)(vs:Array Value)(cells:Array Value)(b:off+vs.size<=cells.size):
  (vs.zipIdx.foldl (λcs (x:Value×Nat)=>cs.setIfInBounds (off+x.2) x.1) cells).toList=cells.toList.take off++vs.toList++cells.toList.drop (off+vs.toList.length):=by
 obtain⟨h1,a⟩:=Go.Great.foldl_set off vs.toList 0 cells;rw[<-Array.foldl_toList,Array.toList_zipIdx];apply oN
 grind
theorem YI(place:Nat->Option (Nat×Nat))(ev:Operand->D)(b:Operand->Value):∀(l:List (Nat×Operand))(cs cs':List D)(cells:Array Value),(∀p∈l,rel M ρ (ev p.2) (b p.2))->wG M ρ cs cells.toList->cs.all D.flat=true->
  ua place cs (l.map λp=>(p.1,ev p.2))=some cs'->∃a,Instr.fill place cells (l.map λp=>(p.1,b p.2))=some a/\(wG M ρ cs' a.toList/\cs'.all D.flat=true)/\a.size=cells.size
 | [],cs,cs',cells,_,hr,hf,c=>by simp only[nF,ua,wX]at c;subst c;exact⟨cells,rfl,⟨hr,hf⟩,rfl⟩
 |p::l,cs,cs',cells,f,hr,hf,c=>by
  simp only[qe,ua]at c;split at c
  .cases c
  .rename_i off size g
   split at c
   .rename_i i
    simp only[zF,zO]at i;obtain⟨⟨h0,h1⟩,o⟩:=i;have j:=sd (f p jS);have k:=yw j;have e:=yw hr;have h:(b p.2).cells.size=size:=by grind
    have n:cells.size=cs.length:=by rw[<-e];simp
    have d:=IZ off (b p.2).cells cells ow;obtain⟨a,e1,e2,e3⟩:=YI place ev b l _ cs' ((b p.2).cells.zipIdx.foldl (λcs (x:Value×Nat)=>cs.setIfInBounds (off+x.2) x.1) cells) (λq m=>f q (by simp[m])) (by
     rw[d];exact jT hr j ow) (fX hf (rm (f p jS) h0)) c
    refine⟨a,?_,e2,?_⟩
    .simp only[qe,Instr.fill,g,h]
     grind
    .rw[e3,<-yI,d];simp;omega
   .cases c
def Ie(y:Sim w0 G M ρ h w){parts:Array (Nat×Operand)}(ev:Operand->D)(g:Operand->Value)(x:∀p∈parts.toList,rel M ρ (ev p.2) (g p.2))
  (b:qW P t (parts.toList.map λp=>(p.1,ev p.2))=some d):YV P w0 G M ρ nid w (Instr.build t (parts.map λp=>(p.1,g p.2))) d h:=by
 unfold qW at b;split at b
 .cases b
 .rename_i z E
  split at b
  .cases b
  rename_i q;simp only[Bool.not_eq_true,Bool.not_eq_false']at q;obtain⟨i,A,H,F,k,c⟩:=po (P:=P) (M:=M) (ρ:=ρ) (w:=w) E;have l:=sd k;have o:=rm k q;split at b
  .rename_i u j
   simp only[ze]at b;obtain⟨cs',hf,rfl⟩:=b;unfold rz at j;split at j
   .rename_i fs C
    obtain⟨a,e1,e2,_⟩:=YI (λ(i:Nat)=>u[i]?) ev g parts.toList _ _ A.cells x l o hf;refine .pure y (v:=.agg a) ?_ (by simp only[rel];exact⟨_,rfl,e2⟩);have s:(fs.mapM (m:=Sem) λf=>do pure (f.offset,<-sizeOf f.type)).run P w=.ok u.toArray w:=by
     have:=X5 (P:=P) (w:=w) fs.toList u j;rw[show fs=fs.toList.toArray by simp,List.mapM_toArray]
     simp_all
    simp only[Instr.build,zq,c,zZ,zU C,s,wk]
    simp_all
   .cases j
  .split at b
   .rename_i n e B
    split at b
    .cases b
    .rename_i r
     simp only[ze]at b;obtain⟨cs',hf,rfl⟩:=b;obtain⟨a,e1,e2,_⟩:=YI _ ev g parts.toList _ _ A.cells x l o hf;refine .pure y (v:=.agg a) ?_ (by simp only[rel];exact⟨_,rfl,e2⟩);simp only[Instr.build,zq,c,zZ,zU (bA B),wC (P:=P) (w:=w) r,wk,e1];rfl
   .cases b
theorem ac(sz:Nat):∀(n:Nat)(cs:List D)(i:Nat),i<n->(wK sz n cs)[i]? =some ((cs.drop (i*sz)).take sz)
 |0,_,_,h=>by omega
 |n+1,cs,0,_=>by simp[wK]
 |n+1,cs,i+1,h=>by
  simp only[wK,uz];rw[ac sz n _ i ow,uC,qx,pU,gA sz]
theorem Xy{sz n b:Nat}(hr:wG M ρ cs vs)(hf:cs.all D.flat=true)(hM:∀o,M b o=none)(k:cs.length=n*sz):gg (mC M b 0 vs) ρ sz (wK sz n cs) b 0:=
 og λi x c=>by
  have e:i<n:=by rw[<-tf sz n cs];exact(zK.1 c).1
  rw[ac sz n cs i e]at c;cases c;have h:i*sz+sz<=n*sz:=by rw[<-qh];exact yg _ e
  refine⟨jO,uJ λj d a=> ?_⟩;have g:=MR hr hf hM;simp only[zu,yy]at a;split at a
  .obtain⟨h0,v,h1,f⟩:=nv g _ d a
   exact⟨h0,v,by rw[<-h1];congr 1;omega,f⟩
  .cases a
theorem nL(z:List α):∀(n i:Nat),i<n*z.length->(List.replicate n z).flatten[i]? =z[i%z.length]?
 |0,i,h=>by simp at h
 |n+1,i,h=>by
  rw[tH,yT];by_cases b:i<z.length
  .rw[yj b,jj b]
  .rw[yf ow,nL z n (i-z.length) (by rw[qx,pU]at h;omega),Nat.mod_eq_sub_mod (a:=i) ow]
theorem wq(z:List α):∀n:Nat,(List.replicate n z).flatten.length=n*z.length
 |0=>by simp
 |n+1=>by rw[tH,yT,zQ,wq z n,qx,pU,gA]
def kJ{z:List D}(hf:z.all D.flat=true)(n:Nat):(mw n z).all D.flat=true:=
 zT.2 λd b=>by
  obtain⟨l,h1,a⟩:=List.mem_flatten.1 b;rw[(List.mem_replicate.1 h1).2]at a;exact zT.1 hf d a
def bp{z : List D}{zc : Array Value}(hr : wG M ρ z zc.toList)(n : Nat) : wG M ρ (mw n z) ((Array.range (n * z.length)).map (zc[· % zc.size]!)).toList := by
  have hl := yw hr;have hl' : zc.size = z.length := by rw [<- hl]; simp
  refine wF (by simp [mw]) λi d v hd hv => ?_;have hi : i < n * z.length := by
    have := (zK.1 hd).1
    rwa [mw, wq]at this
  have hz0 : 0 < z.length := by rcases lH z.length with h0 | h0; · rw [h0]at hi; simp at hi
                                · exact h0
  rw [mw, nL z n i hi]at hd;obtain ⟨u, h1, h2⟩ := th hr _ d hd
  have : u = v := by
    simp only [wk, zm, Array.toList_range]at hv;rw [List.getElem?_range hi]at hv;simp only [qZ, wX]at hv;rw [<- hv, hl'];have hm : i % z.length < zc.size := by rw [hl']; exact aV _ hz0
    have h1' : zc[i % z.length]? = some u := by simpa using h1
    rw [Array.getElem!_eq_getD, wQ, h1']; rfl
  rw [<- this]; exact h2
def Sim.newImmRow(a:Sim w0 G M ρ h w){cells:Array Value}(e:TypeId)(h0:0<sz)(f:n<=lim)(c:cs.length=n*sz)(hr:wG M ρ cs cells.toList)(hf:cs.all D.flat=true):
  MLe M (mC M w.heap.size 0 cells.toList)/\Sim w0 G (mC M w.heap.size 0 cells.toList) ρ h (w.alloc (.cells cells e))/\
   rel (mC M w.heap.size 0 cells.toList) ρ (.sl sz (wK sz n cs) .full) (.slice (some ⟨w.heap.size,0,none⟩) n n):=by
 have d:∀o,M w.heap.size o=none:=a.none_at (zC _);have b:=a.allocImm cells e cells.size;rw[show cells.toList.take cells.size=cells.toList by rw[<-yI];exact yC]at b
 grind [lV,rel,tf,Ib.mk,Xy]
def Wk(N:Sim w0 G M ρ h w)(L:ρ nid=none){mu:Bool}{parts:Array (Nat×Operand)}(ev:Operand->D)(l:Operand->Value)(R:∀p∈parts.toList,rel M ρ (ev p.2) (l p.2))
  (b:yD P mu nid t n (parts.toList.map λp=>(p.1,ev p.2)) h=some (d,h')):YV P w0 G M ρ nid w (Instr.buildSlice t n (parts.map λp=>(p.1,l p.2))) d h':=by
 unfold yD at b;split at b
 .cases b
 .rename_i e Q
  split at b
  .cases b
  .rename_i z S
   obtain⟨i,O,J,T,B,q⟩:=po (P:=P) (M:=M) (ρ:=ρ) (w:=w) S;have C:=sd B;simp only at b;split at b
   .rename_i I
    simp only[zF,zO]at I;obtain⟨⟨⟨H,F⟩,k⟩,K⟩:=I;have E:=rm B H;split at b
    .cases b
    .rename_i cs hf
     have g:=bp C n;rw[F]at g;obtain⟨a,e1,⟨e2,s⟩,e3⟩:=YI _ ev l parts.toList _ _ ((Array.range (n*szT P e)).map (O.cells[· %O.cells.size]!)) R g (kJ E n) hf;have j:a.size=n*szT P e:=by rw[e3];simp
     have x:cs.length=n*szT P e:=by rw[<-j,<-yw e2];simp
     have A:(Instr.buildSlice t n (parts.map λp=>(p.1,l p.2))).run P w=.ok (.slice (some ⟨w.heap.size,0,none⟩) n n) (w.alloc (.cells a e)):=by
      have v:¬(n*szT P e>2^24):=ow;unfold Instr.buildSlice;simp only[zq,zU (sn Q),zZ,wC (P:=P) (w:=w) (t:=e) ow,v,yp,yL,wk];by_cases o:n*szT P e=0
      .have u:∀f:Nat->Value,(Array.range 0).map f= #[]:=λf=>by simp
       have r:=e1;rw[o,u]at r;simp only[o,qF,yL,zq,zZ,u,r];simp[newRow]
      .simp only[o,yp,zq,q,zZ,yL,e1]
       simp[newRow]
     have m:n<=lim:=by unfold lim;have:n*1<=n*szT P e:=mO _ k;omega
     split at b
     .cases b
      have y:=N.newRow L e (ds:=cs) (c:=a) ow (by rw[x,<-j,<-yI,yC];exact e2) s;refine⟨_,_,M,_,A,MLe.refl _,tA L,λi J=>by simp[nQ,kL J],y,?_⟩;exact⟨k,m,_,n,0,by simp[nQ];rfl,rfl,⟨zC _,by unfold maxLen;unfold lim at m;omega⟩,by simp[j],.inr rfl⟩
     .cases b
      obtain⟨U,V,W⟩:=N.newImmRow e k m x e2 s
      grind [RLe.refl,rel,yD,YV]
   .cases b
end
section
variable{P:Program}{w0:Base}{G:List Nat}{M:Imm}{ρ:Ren}{h:Heap}{w:World}{nid:Nat}
theorem Xw{xs ys:List D}{b p:Nat}(f:lM M ρ xs b p)(g:lM M ρ ys b (p+xs.length)):lM M ρ (xs++ys) b p:=
 uJ λi d a=>by
  by_cases e:i<xs.length
  .rw[yj e]at a;exact nv f i d a
  .rw[yf ow]at a
   obtain⟨h0,v,h1,c⟩:=nv g _ d a;exact⟨h0,v,by rw[<-h1];congr 1;omega,c⟩
theorem lN:∀{xs:List (List D)}{b p:Nat},gg M ρ sz xs b p->lM M ρ xs.flatten b p/\xs.flatten.length=xs.length*sz
 | [],_,_,_=>by simp[lM]
 |x::xs,b,p,h=>by
  obtain⟨h1,a,h3⟩:=h;obtain⟨c,d⟩:=lN h3
  grind [Xw]
def Hs(w w1:World):Prop:=∀b o v,w.cell? ⟨b,o,none⟩ =some v->w1.cell? ⟨b,o,none⟩ =some v
def Lb(w:World):Hs w w:=λ_ _ _ h=>h
def fZ(w:World):Hs w w.drew:=λ_ _ _ h=>h
def Els(P:Program)(M:Imm)(ρ:Ren)(w:World)(sz:Nat)(ys:List D)(m:Nat)(vs:List Value)(vx:Value):Prop:=
 ys.length=m*sz/\m<=lim/\wG M ρ ys vs/\ys.all D.flat=true/\∀w1,Hs w w1->(Builtin.lenOf vx).run P w1=.ok m w1/\(Builtin.firstCells sz m vx).run P w1=.ok vs.toArray w1
def V6.firstCells{b p off n:Nat}(d:V6 M ρ w cs b p)(f:off+n<=cs.length):∃vs,wG M ρ ((cs.drop off).take n) vs/\((cs.drop off).take n).all D.flat=true/\vs.length=n/\∀a,Hs w a->(Go.loadCells ⟨b,p+off,none⟩ n).run P a=.ok vs.toArray a:=by
 obtain⟨vs,h1,_,h3,c,h5⟩:=d.loadCells (P:=P) f;refine⟨vs,h3,c,h1,λa e=> ?_⟩;have:=run_loadCells_list (P:=P) a ⟨b,p+off,none⟩ vs (λj v g=>by rw[tN];exact e _ _ _ (h5 j v g))
 grind
def AR(J:Sim w0 G M ρ h w)(h0:0<sz)(u:rel M ρ x vx){ys:List D}(a:TR sz x h=some ys):∃m vs,Els P M ρ w sz ys m vs vx:=by
 unfold TR at a;split at a
 .rename_i s xs tk
  split at a
  .rename_i f;subst f
   cases a;obtain⟨_,e,b,p,cap,⟨T,rfl,E⟩,A,N,_⟩:=u;obtain⟨L,k⟩:=lN N;rcases E with rfl|rfl
   case inr=>
    obtain rfl:xs= []:=yS ow;exact⟨0,[],jS,jS,by simp[wG],rfl,λj _=>⟨rfl,by simp[Builtin.firstCells,Go.loadCells,loadCellsFrom]⟩⟩
   obtain⟨vs,q,r,y,z⟩:=(J.holds L).firstCells (P:=P) (off:=0) (n:=xs.length*s) ow;have R:(xs.flatten.drop 0).take (xs.length*s)=xs.flatten:=by grind
   rw[R]at q r;exact⟨xs.length,vs,k,e,q,r,λj B=>⟨rfl,by simpa [Builtin.firstCells]using z j B⟩⟩
  .cases a
 .rename_i id s off n
  split at a
  .rename_i f;subst f
   split at a
   .rename_i cs O
    split at a
    .rename_i C
     cases a;obtain⟨_,e,l,cap,o,Q,rfl,H,_,S⟩:=u;obtain⟨vs,q,r,y,z⟩:=(J.row O Q).firstCells (P:=P) C;refine⟨n,vs,jO,e,q,r,λj B=>⟨rfl,?_⟩⟩;rcases lH n with I|I
     .subst I
      simp at y;subst y;simp[Builtin.firstCells,Go.loadCells,loadCellsFrom]
     .obtain rfl:o=off:=ow
      have:=z j B;simpa [Builtin.firstCells]using this
    .cases a
   .cases a
  .cases a
 .cases a
  subst u;exact⟨0,[],jS,jS,by simp[wG],rfl,λj _=>⟨rfl,rfl⟩⟩
 .rename_i s
  split at a
  .rename_i f;subst f
   cases a;obtain⟨b,rfl,rfl,e⟩:=u;have g:b.size=b.data.toList.length:=by rw[yI];rfl
   refine⟨b.size,b.data.toList.map λc=>.int .u8 c.toNat,by rw[zI,wn,g],ow,wF (by rw[zI,zI]) λi d v t a=> ?_,?_,λj _=>⟨rfl,?_⟩⟩
   .simp only[zm,ze]at t a
    obtain⟨c,K,rfl⟩:=t;obtain⟨c',F,rfl⟩:=a;rw[K]at F;cases F;refine wx ?_;rw[p7];have:=c.toNat_lt;simp[IntKind.min,IntKind.max,IntKind.signed,IntKind.bits];omega
   .exact zT.2 λd t=>by
     obtain⟨c,_,rfl⟩:=zS.1 t;rfl
   .simp only[Builtin.firstCells,yL]
    congr 1
    have:b.extract 0 b.size=b:=by simp[ByteArray.extract_zero_size]
    grind
  .cases a
 .cases a
def Hd{e:TypeId}(a:YE P e=true):∃i v,P.info? e=some i/\i.size=szT P e/\i.bytes=uF P e/\i.zero=some v/\v.cells.size=szT P e/\szT P e≠0:=by
 unfold YE at a;split at a
 .rename_i z c
  simp only[zF,qz,fN,ne_eq]at a;obtain⟨i,v,b,d,hr,_⟩:=po (P:=P) (M:=λ_ _=>none) (ρ:=λ_=>none) (w:=default) c;refine⟨i,v,b,by simp[szT,Program.cellsOf,b],by simp[uF,Program.bytesOf,b],d,?_,a.2⟩;have:=yw (sd hr)
  grind
 .cases a
def oC(t u ty e:TypeId)(g:P.underlying t=some (.slice e)){j:TypeDesc}(h:P.underlying u=some j)(o:∀k,j≠ .int k)(i:szT P e≠0)(base:Option Addr)(n cap m:Nat)(d:Value)(vs:List Value)
  (f:(Builtin.lenOf d).run P w=.ok m w) (hf:(Builtin.firstCells (szT P e) m d).run P w=.ok vs.toArray w) (c:n+m<=cap) (l:World)
  (b:(match base with|some a=>storeCells (a.add (n*szT P e)) vs|none=>pure ()).run P w=.ok () l):
  (Builtin.append_ #[t,u] ty #[.slice base n cap,d]).run P w=.ok (.slice base (n+m) cap) l:=by
 cases base with
 |none=>
  simp only[yL]at b;cases b;simp[Builtin.append_,zU g,zU h,wC i,f,hf,c]
 |some a=>
  simp only at b;simp[Builtin.append_,zU g,zU h,wC i,f,hf,c,b]
def Wh(t u ty e:TypeId)(v:P.underlying t=some (.slice e)){l:TypeDesc}(x:P.underlying u=some l)(y:∀k,l≠ .int k){i:TypeInfo}{z:Value}(f:P.info? e=some i)(A:i.zero=some z)(base:Option Addr)(n cap m:Nat)(h:Value)(a vs:List Value)
  (q:(Builtin.lenOf h).run P w=.ok m w) (hf:(Builtin.firstCells i.size m h).run P w.drew=.ok vs.toArray w.drew) (s:(Builtin.firstCells i.size n (.slice base n cap)).run P w.drew=.ok a.toArray w.drew)
  (p:cap<n+m) (d:n+m<=lim) (o:(n+m)*i.bytes<=lim):
  (Builtin.append_ #[t,u] ty #[.slice base n cap,h]).run P w=.ok (.slice (some ⟨w.heap.size,0,none⟩) (n+m) (grownCap w (n+m) cap e))
   (w.drew.alloc (.cells (a.toArray++vs.toArray++Builtin.zeroCells z.cells (grownCap w (n+m) cap e- (n+m))) e)):=by
 have r:¬(n+m<=cap):=ow;have c:¬(9223372036854775807<((n:Int)+(m:Int))):=by unfold lim at d;omega
 have j:=growslice_fits (need:=n+m) (old:=cap) (bytes:=i.bytes) p o;have b:¬(281474976710656<Builtin.nextslicecap (n+m) cap*i.bytes):=ow;have g:(sizeOf e).run P w=.ok i.size w:=by rw[run_sizeOf _ f];simp[Program.cellsOf,f]
 simp[Builtin.append_,zU v,zU x,g,typeInfo,zeroValue,f,A,q,r,c,b,Question.forced,hf,s,newRow,grownCap];congr 2;apply tU;simp[qV]
def Sim.addObj(b:Sim w0 G M ρ h w)(s:ρ nid=none)(l:Loc)(o:Obj)(z:¬w0.keep l.blk)(t:∀i a d,h.at' i=some a->ρ i=some d->d.blk≠l.blk)(A:sZ M (nQ ρ nid l) w l o):
  Sim w0 G M (nQ ρ nid l) (h.new nid o) w:=by
 have c:=tA (l:=l) s;refine { below:=b.below,imm:=b.imm,live:=λi a e=> ?_,apart:=λi j x y u v f g p q m=> ?_,gdef:=b.gdef,old:=b.old }
 .simp only[Heap.new]at e
  split at e
  .grind [nQ]
  .obtain⟨d,h1,r,h3⟩:=b.live i a e
   exact⟨d,c _ _ h1,r,rU (MLe.refl _) c (λ_ h=>h) h3⟩
 .simp only[Heap.new]at f g
  by_cases k:i=nid<;>by_cases n:j=nid
  .rw[k,n]
  .grind [nQ]
  .grind [nQ]
  .simp only[k,yp]at f
   simp only[n,yp]at g;simp only[nQ,k,yp]at p;simp only[nQ,n,yp]at q;exact b.apart i j x y u v f g p q m
def Sim.old_blk(c:Sim w0 G M ρ h w)(a:h.at' i=some ob)(b:ρ i=some l):l.blk<w.heap.size:=by
 obtain⟨d,h1,_,h3⟩:=c.live i ob a;rw[b]at h1;cases h1;exact mY h3
def uk{as a:List D}{xs ys:List Value}(b:wG M ρ as xs)(c:wG M ρ a ys):wG M ρ (as++a) (xs++ys):=by grind [yw,wF,th]
theorem np(sz:Nat):∀(xs:List (List D))(ys:List D)(m:Nat),(∀x∈xs,x.length=sz)->wK sz (xs.length+m) (xs.flatten++ys)=xs++wK sz m ys
 | [],ys,m,_=>by simp
 |x::xs,ys,m,h=>by
  have b:=h x jS;rw[zx,show xs.length+1+m=(xs.length+m)+1 by omega];simp only[wK,yT,qV,yG];rw[qt ow,yP ow,nV ow,uQ ow,yU,np sz xs ys m λy a=>h y (by simp[a])]
def QJ{b p:Nat}(a:gg M ρ sz xs b p):∀x∈xs,x.length=sz:=λx d=>by
 obtain⟨i,c⟩:=yh.1 d;exact(YW a i x c).1
def Sim.growTok(b:Sim w0 G M ρ h w)(g:ρ nid=none){ys:List D}(c:Array Value)(e:TypeId){sz n cap:Nat}(h0:0<sz)(k:ys.length=n*sz)(hr:wG M ρ ys vs)(hf:ys.all D.flat=true)
  (m:c.toList.take vs.length=vs) (p:c.size=cap*sz) (j:n<=cap) (a:n<=lim) (f:0<cap):
  ∃M' d,MLe M M'/\RLe ρ d/\(∀i,i≠nid->d i=ρ i)/\Sim w0 G M' d (h.new nid .tok) (w.alloc (.cells c e))/\rel M' d (.sl sz (wK sz n ys) (.own nid)) (.slice (some ⟨w.heap.size,0,none⟩) n cap):=by
 have l:∀o,M w.heap.size o=none:=b.none_at (zC _);have h1:=b.allocImm c e vs.length;rw[m]at h1;have s:vs.length=n*sz:=by rw[yw hr,k]
 have r:n*sz<=cap*sz:=by grind
 refine⟨mC M w.heap.size 0 vs,nQ ρ nid ⟨w.heap.size,n*sz,c.size⟩,lV λo _=>l o,tA g,λi q=>by simp[nQ,q],?_,?_⟩
 .refine h1.addObj g _ .tok (b.nokeep (zC _)) (λi t v e1 e2=> ?_) ⟨λo u=> ?_,jO,c,e,?_,rfl⟩
  .have:=b.old_blk e1 e2;simp;omega
  .grind [mC]
  .show(w.heap.push _)[w.heap.size]? =_
   simp
 .simp only[rel,tf]
  exact⟨h0,a,w.heap.size,0,cap,Ib.mk _ _ _ _,j,Xz (MLe.refl _) (tA g) _ _ _ _ (Xy hr hf l k),_,by simp[nQ];rfl,rfl,jS,jO,f⟩
def Sim.behind(a:Sim w0 G M ρ h w)(D:h.at' i=some .tok)(E:ρ i=some l){c:Array Value}{e:TypeId}(A:w.heap[l.blk]? =some (.cells c e (0,0)))(r:l.endd+vs.length<=c.size)(c':Array Value)
  (x:c'.toList=c.toList.take l.endd++vs++c.toList.drop (l.endd+vs.length)):MLe M (mC M l.blk l.endd vs)/\Sim w0 G (mC M l.blk l.endd vs) ρ (h.del i) (w.setRow l.blk c'):=by
 obtain⟨S,h1,J,hM,C,O,P,h3,Q⟩:=a.live i _ D;rw[E]at h1;cases h1;have s:MLe M (mC M l.blk l.endd vs):=lV λo F=>hM o F;have g:∀o:Nat,(w.setRow l.blk c').cell? ⟨l.blk,o,none⟩ =c'.toList[o]? :=λo=>by
  rw[cell_setRow_same w l.blk o c c' e (0,0) A];simp
 have z:∀j n m,(h.del i).at' j=some n->ρ j=some m->m.blk≠l.blk:=λj n m e1 e2 f=>by
  simp only[Heap.del]at e1;split at e1
  .cases e1
  .rename_i K;exact K (a.apart j i n .tok m l e1 D e2 E f)
 have B:=a.del i;refine⟨s,{ below:= ?_,imm:=λb o v d=> ?_,live:=λj n d=> ?_,apart:=B.apart,gdef:=λb f=> ?_,old:=ZC a.old J }⟩
 .exact⟨a.below.os,a.below.tape,a.below.output,by rw[cV];exact a.below.size,λk L=>by
   have t:k≠l.blk:=by grind
   rw[nP w _ _ _ t];exact a.below.block k L,a.below.drawn⟩
 .unfold mC at d
  split at d
  .grind
  .rename_i R
   by_cases q:b=l.blk
   .subst q
    have I:o<l.endd:=by grind
    rw[g,x,oo _ _ _ (by simpa using r),ip I];have:=a.imm _ _ _ d;simp only[World.cell?,A,tZ,zg,yp]at this;simpa using this
   .rw[cell_setRow_other w _ _ _ q];exact a.imm _ _ _ d
 .obtain⟨m,u,p,H⟩:=B.live j n d
  have y:=z j n m d u;refine⟨m,u,p,rU s (RLe.refl _) (λo F=> ?_) (sM (nP w _ _ _ y) H)⟩
  grind [mC]
 .obtain⟨u,p⟩:=a.gdef b f
  refine⟨u,?_⟩;rw[nP w _ _ _ (λN=>by subst N;rw[A]at p;cases p)];exact p
theorem z5(h:Heap)(i:Nat)(o:Obj):(h.new i o).at' i=some o:=by simp[Heap.new]
def Zp(P:Program)(e:TypeId)(cs:List D):oI P e cs=.row cs\/oI P e cs=.trow e false cs:=by grind [oI]
theorem Vj(O:Sim w0 G M ρ h w)(hn:ρ nid=none){mu:Bool}{t u ty:TypeId}{s x d:D}{ud:TypeDesc}(hu:P.underlying u=some ud)(bs:∀k,ud≠ .int k)(W:rel M ρ s vy)(hx:rel M ρ x vx)
  (r:qS P mu nid t s x h=some (d,h')):YV P w0 G M ρ nid w (Builtin.append_ #[t,u] ty #[vy,vx]) d h':=by
 unfold qS at r;split at r
 .cases r
 .rename_i e he
  have ht:=sn he;split at r
  .rename_i hz
   obtain⟨i,zv,hi,cp,de,di,d1,d6⟩:=Hd hz;generalize hS:szT P e=sz at *
   split at r
   .cases r
   .rename_i ys d0
    have h0:0<sz:=ow;obtain⟨m,vs,R,d4,S,a0,cu⟩:=AR (P:=P) O h0 hx d0;have c3:ys.length/sz=m:=by rw[R];exact ue _ h0
    rw[c3]at r;obtain⟨bk,ca⟩:=cu w (Lb w);obtain⟨_,du⟩:=cu w.drew (fZ w);have X:vs.length=m*sz:=by rw[yw S,R]
    have b9:=sR S a0;have zEl:∀(base:Option Addr)(n cap:Nat)(a:List Value)(z:List D),vy=.slice base n cap->cap<n+m->n+m<=lim->(n+m)*uF P e<=lim->
      (Builtin.firstCells sz n (.slice base n cap)).run P w.drew=.ok a.toArray w.drew->wG M ρ z a->z.all D.flat=true->z.length=n*sz->
      ∃c B,(n+m<=B/\B<=maxLen)/\c.size=B*sz/\c.toList.take (a++vs).length=a++vs/\
       (Builtin.append_ #[t,u] ty #[vy,vx]).run P w=.ok (.slice (some ⟨w.heap.size,0,none⟩) (n+m) B) (w.drew.alloc (.cells c e)):=by
     intro base n cap a z hb A K L ho H V Q;subst hb;have dk:a.length=n*sz:=by rw[yw H,Q]
     have c4:=Wh (P:=P) (w:=w) t u ty e ht hu bs hi di base n cap m vx a vs bk (by rw[cp];exact du) (by rw[cp];exact ho) A K (by rw[de];exact L);have dd:=XQ w (n+m) cap e;refine⟨_,_,⟨dd,grownCap_le_maxLen w (n+m) cap e (by unfold maxLen;unfold lim at K;omega)⟩,?_,?_,c4⟩
     .simp only[Array.size_append,qr,dh,d1]
      rw[dk,X,<-qx,<-qx];congr 1;omega
     .rw[show(a.toArray++vs.toArray++Builtin.zeroCells zv.cells (grownCap w (n+m) cap e- (n+m))).toList=(a++vs)++(Builtin.zeroCells zv.cells (grownCap w (n+m) cap e- (n+m))).toList by simp[qV]]
      exact hZ rfl
    have ak:∀(base:Option Addr)(n cap:Nat)(a:List Value)(z:List D)(Z:Heap),Sim w0 G M ρ Z w->vy=.slice base n cap->cap<n+m->n+m<=lim->(n+m)*uF P e<=lim->
      (Builtin.firstCells sz n (.slice base n cap)).run P w.drew=.ok a.toArray w.drew->wG M ρ z a->z.all D.flat=true->z.length=n*sz->
      YV P w0 G M ρ nid w (Builtin.append_ #[t,u] ty #[vy,vx]) (.sl sz (wK sz (n+m) (z++ys)) (.own nid)) (Z.new nid .tok):=by
     intro base n cap a z Z cb hb A K L ho H V Q;obtain⟨c,B,g1,g2,g3,g4⟩:=zEl base n cap a z hb A K L ho H V Q;obtain⟨M',ρ',k1,k2,k3,k4,k5⟩:=cb.drew.growTok hn (ys:=z++ys) (vs:=a++vs) c e (sz:=sz) (n:=n+m) (cap:=B) h0 (by rw[zQ,Q,R,qx]) (uk H S) (by rw[uD,V,a0];rfl) g3 g2 g1.1 K ow;exact⟨_,_,M',ρ',g4,k1,k2,λi hi=>k3 i (kL hi),k4,k5⟩
    have b1:∀(base:Option Addr)(n cap:Nat)(a:List Value)(z:List D)(Z:Heap),Sim w0 G M ρ Z w->vy=.slice base n cap->cap<n+m->n+m<=lim->(n+m)*uF P e<=lim->
      (Builtin.firstCells sz n (.slice base n cap)).run P w.drew=.ok a.toArray w.drew->wG M ρ z a->z.all D.flat=true->z.length=n*sz->
      YV P w0 G M ρ nid w (Builtin.append_ #[t,u] ty #[vy,vx]) (.rs nid sz 0 (n+m)) (Z.new nid (.row (z++ys))):=by
     intro base n cap a z Z cb hb A K L ho H V Q;obtain⟨c,B,g1,g2,g3,g4⟩:=zEl base n cap a z hb A K L ho H V Q;have ai:(z++ys).length=(a++vs).length:=by rw[<-yw (uk H S)]
     have ad:(z++ys).length<=c.size:=by
      rw[g2,zQ,Q,R,<-qx];exact yg _ g1.1
     have y:=cb.drew.newRow hn e (ds:=z++ys) (c:=c) ad (by rw[ai,g3];exact uk H S) (by rw[uD,V,a0];rfl);refine⟨_,_,M,_,g4,MLe.refl _,tA hn,λi hi=>by simp[nQ,kL hi],y,?_⟩;simp only[rel];exact⟨h0,K,_,B,0,by simp[nQ];rfl,rfl,g1,jO,.inr rfl⟩
    have b2:∀(base:Option Addr)(n cap:Nat)(a:List Value)(z:List D)(Z:Heap),Sim w0 G M ρ Z w->vy=.slice base n cap->cap<n+m->n+m<=lim->(n+m)*uF P e<=lim->
      (Builtin.firstCells sz n (.slice base n cap)).run P w.drew=.ok a.toArray w.drew->wG M ρ z a->z.all D.flat=true->z.length=n*sz->
      YV P w0 G M ρ nid w (Builtin.append_ #[t,u] ty #[vy,vx]) (.rs nid sz 0 (n+m)) (Z.new nid (.trow e false (z++ys))):=by
     intro base n cap a z Z cb hb A K L ho H V Q;obtain⟨c,B,g1,g2,g3,g4⟩:=zEl base n cap a z hb A K L ho H V Q;have ai:(z++ys).length=(a++vs).length:=by rw[<-yw (uk H S)]
     have ad:(z++ys).length<=c.size:=by
      rw[g2,zQ,Q,R,<-qx];exact yg _ g1.1
     have y:=cb.drew.newTRow hn e false (ds:=z++ys) (c:=c) ad (λq=>by cases q) (by rw[ai,g3];exact uk H S) (by rw[uD,V,a0];rfl);refine⟨_,_,M,_,g4,MLe.refl _,tA hn,λi hi=>by simp[nQ,kL hi],y,?_⟩;simp only[rel];exact⟨h0,K,_,B,0,by simp[nQ];rfl,rfl,g1,jO,.inr rfl⟩
    have bx:∀(base:Option Addr)(n cap:Nat)(a:List Value)(z:List D)(Z:Heap),Sim w0 G M ρ Z w->vy=.slice base n cap->cap<n+m->n+m<=lim->(n+m)*uF P e<=lim->
      (Builtin.firstCells sz n (.slice base n cap)).run P w.drew=.ok a.toArray w.drew->wG M ρ z a->z.all D.flat=true->z.length=n*sz->
      YV P w0 G M ρ nid w (Builtin.append_ #[t,u] ty #[vy,vx]) (.rs nid sz 0 (n+m)) (Z.new nid (oI P e (z++ys))):=by
     intro base n cap a z Z a1 a2 a3 a4 a5 a6 a7 a8 a9;rcases Zp P e (z++ys)with q|q
     .rw[q];exact b1 base n cap a z Z a1 a2 a3 a4 a5 a6 a7 a8 a9
     .rw[q];exact b2 base n cap a z Z a1 a2 a3 a4 a5 a6 a7 a8 a9
    unfold tB at r;split at r
    ·
     simp only[rel]at W;subst W;split at r
     .rename_i b8
      cases r;subst b8;have:=oC (P:=P) (w:=w) t u ty e ht hu bs ow none 0 0 0 vx vs bk (by rw[hS];exact ca) (zC _) w rfl;exact .pure O this (by simp only[rel])
     .rename_i b8
      split at r
      .rename_i hc
       simp only[zF,zO]at hc;split at r
       .cases r
        have:=bx none 0 0 [] [] h O rfl ow ow (by rw[yH];exact hc.1) rfl (by simp[wG]) rfl jS;simpa using this
       .cases r
        have:=ak none 0 0 [] [] h O rfl ow ow (by rw[yH];exact hc.1) rfl (by simp[wG]) rfl jS;simpa using this
      .cases r
    ·
     rename_i f xs tk;split at r
     .rename_i hc
      simp only[zF,zO]at hc;obtain⟨⟨cc,ba⟩,T⟩:=hc;subst cc;have c7:=W;simp only[rel]at W;obtain⟨_,c8,b,p,cap,⟨sp,rfl,c6⟩,A,hE,c1⟩:=W;obtain⟨hC,bb⟩:=lN hE;obtain⟨a,o1,o2,o3,o4⟩:=(O.holds hC).firstCells (P:=P) (off:=0) (n:=xs.length*f) ow;have cg:(xs.flatten.drop 0).take (xs.length*f)=xs.flatten:=by rw[wN,<-bb,yC]
      rw[cg]at o1 o2;have ho:(Builtin.firstCells f xs.length (.slice (some ⟨b,p,sp⟩) xs.length cap)).run P w.drew=.ok a.toArray w.drew:=by
       rcases c6 with rfl|rfl
       .simpa [Builtin.firstCells]using o4 w.drew (fZ w)
       .obtain rfl:xs= []:=yS ow
        have:a= []:=by apply yS;simpa using o3
        subst this;simp[Builtin.firstCells,Go.loadCells,loadCellsFrom]
      have ck:=np f xs ys m (QJ hE);split at r
      .cases r
      .simp only at c1
       subst c1;split at r
       .rename_i b8
        cases r;subst b8;have ch:vs= []:=by apply yS;omega
        have:=oC (P:=P) (w:=w) t u ty e ht hu bs ow (some ⟨b,p,sp⟩) xs.length xs.length 0 vx vs bk (by rw[hS];exact ca) ow w (by subst ch;rfl);exact .pure O this (by simpa using c7)
       .rename_i b8
        split at r
        .cases r
         exact bx _ xs.length xs.length a xs.flatten h O rfl ow T ba ho o1 o2 bb
        .cases r
         rw[<-ck];exact ak _ xs.length xs.length a xs.flatten h O rfl ow T ba ho o1 o2 bb
      .rename_i ti
       obtain⟨l,hl,cx,ad,dr,da⟩:=c1;obtain rfl:sp=none:=c6.resolve_right ow;split at r
       .rename_i cf
        split at r
        .cases r
        .cases r
         rw[<-ck];by_cases g:xs.length+m<=cap
         .obtain⟨l',g1,g2,hM,d2,c,e0,hw,Y⟩:=O.live ti _ cf
          rw[hl]at g1;cases g1;have b4:(xs.length+m)*f<=cap*f:=yg _ g;have b6:l.endd+vs.length<=c.size:=by rw[ad,X,<-Y,qf,<-qx];omega
          have bo:=sF P l.blk l.endd e0 vs 0 c w hw ow b9;rw[qo]at bo;obtain⟨k1,k2⟩:=O.behind cf hl hw b6 (c.toList.take l.endd++vs++c.toList.drop (l.endd+vs.length)).toArray jS;have N:=oC (P:=P) (w:=w) t u ty e ht hu bs ow (some ⟨b,p,none⟩) xs.length cap m vx vs bk (by rw[hS];exact ca) g _ (by
           simp only[tN,hS];rw[<-cx,<-ad];exact bo)
          have F:(c.toList.take l.endd++vs++c.toList.drop (l.endd+vs.length)).length=c.size:=jO;have k3:=k2.addObj (nid:=nid) hn ⟨l.blk,l.endd+vs.length,l.size⟩ .tok g2 (λj oj lj e1 e2 b3=>by
            simp only[Heap.del]at e1;split at e1
            .cases e1
            .rename_i U;exact U (O.apart j ti oj .tok lj l e1 cf e2 hl b3))
           ⟨λo dt=>by
             simp only at dt⊢;unfold mC;rw[iq ow];exact hM o ow,jO,_,e0,mh w l.blk c _ e0 (0,0) hw,by simp only[qr];rw[F,Y]⟩
          refine⟨_,_,_,_,N,k1,tA hn,λi hi=>by simp[nQ,kL hi],k3,?_⟩;simp only[rel,ck,zQ,tf];refine⟨h0,T,b,p,cap,Ib.mk _ _ _ _,g,?_,(⟨l.blk,l.endd+vs.length,l.size⟩:Loc),by simp[nQ],cx,by simp only;rw[ad,X,qf,<-qx],by simpa using dr,da⟩;have c9:lM (mC M l.blk l.endd vs) (nQ ρ nid ⟨l.blk,l.endd+vs.length,l.size⟩) (xs.flatten++ys) b p:=by
           refine Xw (bn k1 (tA hn) _ _ _ hC) (uJ λi d hi=> ?_);obtain⟨v,e1,e2⟩:=th S i d hi;refine⟨zT.1 a0 d (zh hi),v,?_,u9 k1 (tA hn) _ _ e2⟩;rw[bb,<-ad,<-cx];exact V9 e1
          rw[<-ck];refine og λi x' c2=> ?_;have hi:i<xs.length+m:=by rw[<-tf f (xs.length+m) (xs.flatten++ys)];exact(zK.1 c2).1
          rw[ac _ _ _ _ hi]at c2;cases c2;have cl:i*f+f<=(xs.length+m)*f:=by rw[<-qh];exact yg _ hi
          have d3:(xs.flatten++ys).length=(xs.length+m)*f:=by rw[zQ,bb,R,qx]
          refine⟨by simp only[yB,qJ];omega,uJ λj d hd=> ?_⟩;simp only[zu,yy]at hd;split at hd
          .obtain⟨q0,v,q1,q2⟩:=nv c9 _ d hd
           exact⟨q0,v,by rw[<-q1];congr 1;omega,q2⟩
          .cases hd
         .exact ak _ xs.length cap a xs.flatten (h.del ti) (O.del ti) rfl ow T ba ho o1 o2 bb
       .cases r
     .cases r
    ·
     rename_i id f off n;split at r
     .rename_i hc
      simp only[zF,zO]at hc;obtain⟨⟨⟨⟨d5,cc⟩,c5⟩,ba⟩,T⟩:=hc;subst cc c5;split at r
      .rename_i cs y
       split at r
       .rename_i I
        cases r;simp only[rel]at W;obtain⟨_,c8,l,cap,o,hl,rfl,A,b7,C⟩:=W;obtain⟨l',g1,g2,hM,c,e0,hw,Y,ai,E⟩:=O.live id _ y;rw[hl]at g1;cases g1;have b5:cs.all D.flat=true:=zT.2 λq hq=>by
         obtain⟨j,U⟩:=yh.1 hq;exact(E j q U).1
        by_cases g:n+m<=cap
        .have b4:(n+m)*f<=cap*f:=yg _ g
         have b6:n*f+vs.length<=c.size:=by rw[X,<-qx,<-Y];omega
         have bo:(storeCells ((⟨l.blk,o,none⟩:Addr).add (n*f)) vs).run P w=.ok () (w.setRow l.blk (c.toList.take (n*f)++vs++c.toList.drop (n*f+vs.length)).toArray):=by
          rcases C with cv|C
          .have ch:vs= []:=by
            apply yS;rw[X,show m=0 by omega,sK]
           subst ch;have cw:(c.toList.take (n*f)++([]:List Value)++c.toList.drop (n*f+([]:List Value).length)).toArray=c:=jS;rw[cw,setRow_self w l.blk c e0 (0,0) hw];rfl
          .subst C
           have:=sF P l.blk (n*f) e0 vs 0 c w hw ow b9;rw[tN,yH];simpa using this
         have N:=oC (P:=P) (w:=w) t u ty e ht hu bs ow (some ⟨l.blk,o,none⟩) n cap m vx vs bk (by rw[hS];exact ca) g _ (by simp only[hS];exact bo);have F:(c.toList.take (n*f)++vs++c.toList.drop (n*f+vs.length)).length=c.size:=jO;have aj:wG M ρ (cs++ys) ((c.toList.take (n*f)++vs++c.toList.drop (n*f+vs.length)).take (cs++ys).length):=by
          have L:(cs++ys).length=n*f+vs.length:=by rw[zQ,I,X,R]
          rw[L,hZ jO];refine uk (wF jO λj q v h1 h2=> ?_) S;obtain⟨_,u',e1,e2⟩:=E j q h1;have cl:j<n*f:=by rw[<-I];exact(zK.1 h1).1
          rw[zu,ip cl]at h2
          have:some v=some u':=by rw[<-h2,<-e1];simp
          cases this;exact e2
         have ag:(cs++ys).length<=(c.toList.take (n*f)++vs++c.toList.drop (n*f+vs.length)).toArray.size:=by
          simp only[qr];rw[F,zQ,I,R,<-qx];omega
         have J:(cs++ys).all D.flat=true:=by rw[uD,b5,a0];rfl
         have k1:=O.setRow y hl hw (c':=(c.toList.take (n*f)++vs++c.toList.drop (n*f+vs.length)).toArray) (by simp only[qr];exact F) ag aj J;have k2:=(k1.del id).addObj (nid:=nid) hn l (.row (cs++ys)) g2 (λj oj lj e1 e2 b3=>by
           simp only[Heap.del,Heap.set]at e1;split at e1
           .cases e1
           .rename_i U
            exact U (O.apart j id oj (.row cs) lj l e1 y e2 hl b3))
          (fj hM (mh w l.blk c _ e0 (0,0) hw) (by simp only[qr];rw[F,Y]) ag (rW (MLe.refl _) (tA hn) _ _ aj) J)
         refine⟨_,_,M,_,N,MLe.refl _,tA hn,λj U=>by simp[nQ,kL U],k2.less (λj oj e1=> ?_),?_⟩
         .simp only[Heap.new,Heap.del,Heap.set]at e1⊢
          by_cases U:j=nid
          .rw[ip U]at e1⊢;exact e1
          .rw[iq U]at e1⊢
           by_cases au:j=id
           .rw[ip au]at e1;cases e1
           .rw[iq au]at e1⊢;rw[iq au];exact e1
         .simp only[rel]
          exact⟨h0,T,l,cap,o,by simp[nQ],rfl,⟨g,A.2⟩,b7,C⟩
        .obtain⟨a,o1,o2,o3,o4⟩:=(O.row y hl).firstCells (P:=P) (off:=0) (n:=n*f) ow
         have cg:(cs.drop 0).take (n*f)=cs:=by rw[wN,<-I,yC]
         rw[cg]at o1 o2;have ho:(Builtin.firstCells f n (.slice (some ⟨l.blk,o,none⟩) n cap)).run P w.drew=.ok a.toArray w.drew:=by
          rcases C with cv|C
          .have c0:n=0:=ow
           subst c0
           have:a= []:=by apply yS;omega
           subst this;simp[Builtin.firstCells,Go.loadCells,loadCellsFrom]
          .subst C
           have:=o4 w.drew (fZ w);simpa [Builtin.firstCells]using this
         exact b1 _ n cap a cs (h.del id) (O.del id) rfl ow T ba ho o1 o2 I
       .cases r
      .rename_i e2 full cs y
       split at r
       .cases r
       split at r
       .rename_i cm
        simp only[zF,zO]at cm;obtain⟨db,I⟩:=cm;obtain rfl:e=e2:=db.symm;cases r;simp only[rel]at W;obtain⟨_,c8,l,cap,o,hl,rfl,A,b7,C⟩:=W;obtain⟨l',g1,g2,hM,c,e0,hw,Y,ai,E,dv,_⟩:=O.live id _ y;rw[hl]at g1;cases g1;have b5:cs.all D.flat=true:=zT.2 λq hq=>by
         obtain⟨j,U⟩:=yh.1 hq;exact(E j q U).1
        by_cases g:n+m<=cap
        .have b4:(n+m)*f<=cap*f:=yg _ g
         have b6:n*f+vs.length<=c.size:=by rw[X,<-qx,<-Y];omega
         have bo:(storeCells ((⟨l.blk,o,none⟩:Addr).add (n*f)) vs).run P w=.ok () (w.setRow l.blk (c.toList.take (n*f)++vs++c.toList.drop (n*f+vs.length)).toArray):=by
          rcases C with cv|C
          .have ch:vs= []:=by
            apply yS;rw[X,show m=0 by omega,sK]
           subst ch;have cw:(c.toList.take (n*f)++([]:List Value)++c.toList.drop (n*f+([]:List Value).length)).toArray=c:=jS;rw[cw,setRow_self w l.blk c e0 (0,0) hw];rfl
          .subst C
           have:=sF P l.blk (n*f) e0 vs 0 c w hw ow b9;rw[tN,yH];simpa using this
         have N:=oC (P:=P) (w:=w) t u ty e ht hu bs ow (some ⟨l.blk,o,none⟩) n cap m vx vs bk (by rw[hS];exact ca) g _ (by simp only[hS];exact bo);have F:(c.toList.take (n*f)++vs++c.toList.drop (n*f+vs.length)).length=c.size:=jO;have aj:wG M ρ (cs++ys) ((c.toList.take (n*f)++vs++c.toList.drop (n*f+vs.length)).take (cs++ys).length):=by
          have L:(cs++ys).length=n*f+vs.length:=by rw[zQ,I,X,R]
          rw[L,hZ jO];refine uk (wF jO λj q v h1 h2=> ?_) S;obtain⟨_,u',e1,e2⟩:=E j q h1;have cl:j<n*f:=by rw[<-I];exact(zK.1 h1).1
          rw[zu,ip cl]at h2
          have:some v=some u':=by rw[<-h2,<-e1];simp
          cases this;exact e2
         have ag:(cs++ys).length<=(c.toList.take (n*f)++vs++c.toList.drop (n*f+vs.length)).toArray.size:=by
          simp only[qr];rw[F,zQ,I,R,<-qx];omega
         have J:(cs++ys).all D.flat=true:=by rw[uD,b5,a0];rfl
         have k1:=O.setTRow' y hl hw (c':=(c.toList.take (n*f)++vs++c.toList.drop (n*f+vs.length)).toArray) (by simp only[qr];exact F) ag aj J;have k2:=(k1.del id).addObj (nid:=nid) hn l (.trow e false (cs++ys)) g2 (λj oj lj e1 e2 b3=>by
           simp only[Heap.del,Heap.set]at e1;split at e1
           .cases e1
           .rename_i U
            exact U (O.apart j id oj (.trow e false cs) lj l e1 y e2 hl b3))
          (jN hM (by rw[<-dv];exact mh w l.blk c _ e0 (0,0) hw) (by simp only[qr];rw[F,Y]) ag (λq=>by cases q) (rW (MLe.refl _) (tA hn) _ _ aj) J)
         refine⟨_,_,M,_,N,MLe.refl _,tA hn,λj U=>by simp[nQ,kL U],k2.less (λj oj e1=> ?_),?_⟩
         .simp only[Heap.new,Heap.del,Heap.set]at e1⊢
          by_cases U:j=nid
          .rw[ip U]at e1⊢;exact e1
          .rw[iq U]at e1⊢
           by_cases au:j=id
           .rw[ip au]at e1;cases e1
           .rw[iq au]at e1⊢;rw[iq au];exact e1
         .simp only[rel]
          exact⟨h0,T,l,cap,o,by simp[nQ],rfl,⟨g,A.2⟩,b7,C⟩
        .obtain⟨a,o1,o2,o3,o4⟩:=(O.trow y hl).firstCells (P:=P) (off:=0) (n:=n*f) ow
         have cg:(cs.drop 0).take (n*f)=cs:=by rw[wN,<-I,yC]
         rw[cg]at o1 o2;have ho:(Builtin.firstCells f n (.slice (some ⟨l.blk,o,none⟩) n cap)).run P w.drew=.ok a.toArray w.drew:=by
          rcases C with cv|C
          .have c0:n=0:=ow
           subst c0
           have:a= []:=by apply yS;omega
           subst this;simp[Builtin.firstCells,Go.loadCells,loadCellsFrom]
          .subst C
           have:=o4 w.drew (fZ w);simpa [Builtin.firstCells]using this
         exact b2 _ n cap a cs (h.del id) (O.del id) rfl ow T ba ho o1 o2 I
       .cases r
      .cases r
     .cases r
    .cases r
  .cases r
def Sim.trunc(a:Sim w0 G M ρ h w)(u:h.at' id=some (.row cs))(k:Nat):Sim w0 G M ρ (h.set id (.row (cs.take k))) w:=by
 refine { below:=a.below,imm:=a.imm,live:=λi z e=> ?_,apart:=λi j A B x y e1 e2 r1 r2 t=> ?_,gdef:=a.gdef,old:=a.old }
 .simp only[Heap.set]at e
  split at e
  .rename_i hid
   subst hid;cases e;obtain⟨l,r,s,hM,c,p,v,f,n,b⟩:=a.live _ _ u;refine⟨l,r,s,hM,c,p,v,f,jO,λj d C=> ?_⟩
   grind
  .exact a.live i z e
 .have g:∀q o,(h.set id (.row (cs.take k))).at' q=some o->∃m,h.at' q=some m:=λq o e=>by
   grind [Heap.set]
  obtain⟨o1,k1⟩:=g i A e1;obtain⟨o2,k2⟩:=g j B e2;exact a.apart i j o1 o2 x y k1 k2 r1 r2 t
def Sim.truncRs(a:Sim w0 G M ρ h w)(s x:D):Sim w0 G M ρ (tT s x h) w:=by
 unfold V.tT;split
 .split
  .exact a
  .split
   .rename_i cs b
    split
    .exact a.trunc b _
    .exact a
   .exact a
 .exact a
def Pv(g:Sim w0 G M ρ h w)(f:ρ nid=none){mu:Bool}{t u ty:TypeId}{s x d:D}{e:TypeDesc}(i:P.underlying u=some e)(b:∀k,e≠ .int k)(a:rel M ρ s vy)(j:rel M ρ x vx)
  (c:ny P mu nid t s x h=some (d,h')):YV P w0 G M ρ nid w (Builtin.append_ #[t,u] ty #[vy,vx]) d h':=by
 unfold ny at c;split at c
 .exact Vj (g.truncRs s x) f i b a j c
 .grind [Vj]
end
end Go.V
