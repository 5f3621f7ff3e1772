/- A machine of abstract values for programs of the model, further rules, part 1. No condition. -/
import Derived.Test.YtkenagjlanhnmaaGreatDoorW00
import Derived.Laws.CopyRow
import Derived.ChangeKeysEq
import Derived.Laws.StructEq
import Derived.Laws.Concat
import Derived.Lib.Builder
import Derived.Laws.Slices
import Derived.Great.FillDense
set_option linter.all false
set_option maxHeartbeats 8000000
namespace Go.V
open Go.RowKit (Below)
structure Loc where
 blk:Nat
 endd:Nat
 size:Nat
abbrev Imm:=Nat->Nat->Option Value
abbrev Ren:=Nat->Option Loc
def fits(k:IntKind)(n:Int):Prop:=k.wrap n=n
def Ii(v:Value)(b p n cap:Nat):Prop:=∃sp,v=.slice (some ⟨b,p,sp⟩) n cap/\(sp=none\/cap=0)
theorem Ii.mk(b p n cap:Nat):Ii (.slice (some ⟨b,p,none⟩) n cap) b p n cap:=⟨none,rfl,.inl rfl⟩
mutual
def rel(M:Imm)(ρ:Ren):D->Value->Prop
  |.bool b,v=>v=.bool b
  |.int k n,v=>v=.int k n/\fits k n
  |.str s,v=>∃b:ByteArray,v=.string b/\b.data.toList=s/\s.length<=lim
  |.nilptr,v=>v=.pointer none
  |.ptr id off,v=>∃l,ρ id=some l/\v=.pointer (some ⟨l.blk,off,none⟩)
  |.iptr cs off,v=>∃b p,v=.pointer (some ⟨b,p+off,none⟩)/\kQ M ρ cs b p
  |.nilsl,v=>v=.slice none 0 0
  |.sl sz xs tk,v=>0<sz/\xs.length<=lim/\∃b p cap,Ii v b p xs.length cap/\xs.length<=cap/\gy M ρ sz xs b p/\
      (match tk with
       |.no=>True
       |.full=>cap=xs.length
       |.own t=>∃l,ρ t=some l/\l.blk=b/\l.endd=p+xs.length*sz/\p+cap*sz<=l.size/\0<cap)
  |.rs id sz off len,v=>0<sz/\len<=lim/\∃l cap o,ρ id=some l/\v=.slice (some ⟨l.blk,o,none⟩) len cap/\(len<=cap/\cap<=maxLen)/\off+cap*sz<=l.size/\(cap=0\/o=off)
  |.nilmap,v=>v=.map none
  |.map id,v=>∃l,ρ id=some l/\v=.map (some l.blk)
  |.fn f a c,v=>(∃g,f=.func g)/\∃va vc,v=.func f va vc/\wJ M ρ a va.toList/\wJ M ρ c vc.toList
  |.yld id,v=>∃l,ρ id=some l/\v=.func (.yield l.blk) #[] #[]
  |.nilfn,v=>v=.nilFunc
  |.agg cs,v=>∃vs,v=.agg vs/\wJ M ρ cs vs.toList/\cs.all D.flat=true
  |.tuple cs,v=>∃vs,v=.tuple vs/\wJ M ρ cs vs.toList
  |.iface t d,v=>∃u,v=.iface t u/\rel M ρ d u
  |.niliface,v=>v=.nilIface
def wJ(M:Imm)(ρ:Ren):List D->List Value->Prop
 | [],vs=>vs= []
 |d::ds,vs=>∃v vs',vs=v::vs'/\rel M ρ d v/\wJ M ρ ds vs'
def kQ(M:Imm)(ρ:Ren):List D->Nat->Nat->Prop
 | [],_,_=>True
 |d::ds,b,p=>(d.flat=true/\∃v,M b p=some v/\rel M ρ d v)/\kQ M ρ ds b (p+1)
def gy(M:Imm)(ρ:Ren)(sz:Nat):List (List D)->Nat->Nat->Prop
 | [],_,_=>True
 |x::xs,b,p=>x.length=sz/\kQ M ρ x b p/\gy M ρ sz xs b (p+sz)
end
def MLe(M M':Imm):Prop:=∀b o v,M b o=some v->M' b o=some v
def RLe(ρ ρ':Ren):Prop:=∀i l,ρ i=some l->ρ' i=some l
def MLe.refl(M:Imm):MLe M M:=λ_ _ _ h=>h
theorem RLe.refl(ρ:Ren):RLe ρ ρ:=λ_ _ h=>h
def MLe.trans{M M' a:Imm}(h:MLe M M')(h':MLe M' a):MLe M a:=λb o v e=>h' b o v (h b o v e)
def RLe.trans{M M' a:Ren}(h:RLe M M')(h':RLe M' a):RLe M a:=λi l e=>h' i l (h i l e)
section mono
variable{M M':Imm}{ρ ρ':Ren}(hM:MLe M M')(hr:RLe ρ ρ')
mutual
theorem to(hM:MLe M M')(hr:RLe ρ ρ'):∀(d:D)(v:Value),rel M ρ d v->rel M' ρ' d v
 |.bool _,_,h=>by simpa [rel]using h
 |.int _ _,_,h=>by simpa [rel]using h
 |.str _,_,h=>by simpa [rel]using h
 |.nilptr,_,h=>by simpa [rel]using h
 |.ptr _ _,_,h=>by grind [rel,MLe,RLe]
 |.iptr cs off,_,h=>by
  obtain⟨b,p,h1,e⟩:=h;exact⟨b,p,h1,bi hM hr cs b p e⟩
 |.nilsl,_,h=>by simpa [rel]using h
 |.sl sz xs tk,_,h=>by
  obtain⟨h0,i,b,p,cap,h1,e,h3,g⟩:=h;refine⟨h0,i,b,p,cap,h1,e,Xz hM hr sz xs b p h3,?_⟩;cases tk with
  |no=>trivial
  |full=>exact g
  |own t=>
   grind [MLe,RLe,rel]
 |.rs _ _ _ _,_,h=>by grind [rel,MLe,RLe]
 |.nilmap,_,h=>by simpa [rel]using h
 |.map _,_,h=>by grind [rel,MLe,RLe]
 |.fn f a c,_,h=>by
  obtain⟨h0,j,k,h1,e,h3⟩:=h;exact⟨h0,j,k,h1,rm hM hr a _ e,rm hM hr c _ h3⟩
 |.yld _,_,h=>by grind [rel,MLe,RLe]
 |.nilfn,_,h=>by simpa [rel]using h
 |.agg cs,_,h=>by
  obtain⟨vs,h1,e,h3⟩:=h;exact⟨vs,h1,rm hM hr cs _ e,h3⟩
 |.tuple cs,_,h=>by
  obtain⟨vs,h1,e⟩:=h;exact⟨vs,h1,rm hM hr cs _ e⟩
 |.iface t d,_,h=>by
  obtain⟨u,h1,e⟩:=h;exact⟨u,h1,to hM hr d u e⟩
 |.niliface,_,h=>by simpa [rel]using h
theorem rm(hM:MLe M M')(hr:RLe ρ ρ'):∀(ds:List D)(vs:List Value),wJ M ρ ds vs->wJ M' ρ' ds vs
 | [],_,h=>by simpa [wJ]using h
 |d::ds,_,h=>by
  obtain⟨v,a,h1,b,h3⟩:=h;exact⟨v,a,h1,to hM hr d v b,rm hM hr ds a h3⟩
theorem bi(hM:MLe M M')(hr:RLe ρ ρ'):∀(ds:List D)(b p:Nat),kQ M ρ ds b p->kQ M' ρ' ds b p
 | [],_,_,_=>by simp[kQ]
 |d::ds,b,p,h=>by
  obtain⟨⟨h0,v,h1,a⟩,h3⟩:=h;exact⟨⟨h0,v,hM _ _ _ h1,to hM hr d v a⟩,bi hM hr ds b (p+1) h3⟩
theorem Xz(hM:MLe M M')(hr:RLe ρ ρ'):∀(sz:Nat)(xs:List (List D))(b p:Nat),gy M ρ sz xs b p->gy M' ρ' sz xs b p
 |_,[],_,_,_=>by simp[gy]
 |sz,x::xs,b,p,h=>by
  exact⟨h.1,bi hM hr x b p h.2.1,Xz hM hr sz xs b (p+sz) h.2.2⟩
end
end mono
variable{M:Imm}{ρ:Ren}{sz i nid n id:Nat}{w w':World}{vs:List Value}{v vx vy:Value}{h' h:Heap}{t u:TypeId}{cs ds:List D}{d x y z:D}{ob:Obj}{r:Bool}{lo hi:Option D}{xs:List (List D)}{α:Type}
theorem qI:∀{ds:List D}{vs:List Value},wJ M ρ ds vs->vs.length=ds.length
 | [],_,h=>by grind [wJ]
 |d::ds,vs,h=>by
  obtain⟨v,a,rfl,_,h3⟩:=h;simp[qI h3]
theorem sF:∀{ds:List D}{vs:List Value},wJ M ρ ds vs->∀(i:Nat)(d:D),ds[i]? =some d->∃v,vs[i]? =some v/\rel M ρ d v
 | [],_,_,i,d,a=>by simp at a
 |e::ds,vs,h,i,d,a=>by
  obtain⟨v,c,rfl,b,h3⟩:=h;cases i with
  |zero=>simp at a;subst a;exact⟨v,by simp,b⟩
  |succ i=>simp at a;simpa using sF h3 i d a
theorem wW:∀{ds:List D}{vs:List Value},vs.length=ds.length->(∀(i:Nat)(d:D)(v:Value),ds[i]? =some d->vs[i]? =some v->rel M ρ d v)->wJ M ρ ds vs
 | [],vs,a,_=>by grind [wJ]
 |d::ds,[],a,_=>by simp at a
 |d::ds,v::vs,a,h=>by
  exact⟨v,vs,rfl,h 0 d v (by simp) (by simp),wW (by simpa using a) λi e u b c=>h (i+1) e u (by simpa using b) (by simpa using c)⟩
theorem mM:∀{ds:List D}{b p:Nat},kQ M ρ ds b p->∀(i:Nat)(d:D),ds[i]? =some d->d.flat=true/\∃v,M b (p+i)=some v/\rel M ρ d v
 | [],_,_,_,i,d,a=>by simp at a
 |e::ds,b,p,h,i,d,a=>by
  obtain⟨⟨h0,v,h1,c⟩,h3⟩:=h;cases i with
  |zero=>simp at a;subst a;exact⟨h0,v,h1,c⟩
  |succ i=>
   obtain⟨hf,u,f,hr⟩:=mM h3 i d a
   grind
theorem um:∀{ds:List D}{b p:Nat},(∀(i:Nat)(d:D),ds[i]? =some d->d.flat=true/\∃v,M b (p+i)=some v/\rel M ρ d v)->kQ M ρ ds b p
 | [],_,_,_=>by simp[kQ]
 |d::ds,b,p,h=>by
  refine⟨by simpa using h 0 d (by simp),um λi e a=> ?_⟩;obtain⟨h0,v,h1,c⟩:=h (i+1) e (by simpa using a)
  grind
theorem YZ:∀{xs:List (List D)}{b p:Nat},gy M ρ sz xs b p->∀(i:Nat)(x:List D),xs[i]? =some x->x.length=sz/\kQ M ρ x b (p+i*sz)
 | [],_,_,_,i,x,a=>by simp at a
 |y::xs,b,p,h,i,x,a=>by
  cases i with
  |zero=>simp at a;subst a;simpa using⟨h.1,h.2.1⟩
  |succ i=>
   have:=YZ h.2.2 i x a
   grind
theorem nF:∀{xs:List (List D)}{b p:Nat},(∀(i:Nat)(x:List D),xs[i]? =some x->x.length=sz/\kQ M ρ x b (p+i*sz))->gy M ρ sz xs b p
 | [],_,_,_=>by simp[gy]
 |x::xs,b,p,h=>by
  have h0:=h 0 x (by simp);refine⟨h0.1,by simpa using h0.2,nF λi y a=> ?_⟩;have:=h (i+1) y (by simpa using a)
  grind
def pa(M:Imm)(ρ:Ren):List (D×D)->List MapEntry->Prop
 | [],es=>es= []
 |(k,d)::ds,es=>∃e es',es=e::es'/\rel M ρ k e.key/\rel M ρ d e.val/\pa M ρ ds es'
def VX(M:Imm)(ρ:Ren)(fr:Frm)(tmps:Array Value):Prop:=∀i,rel M ρ (fr i) (tmps.getD i undef)
def s8(M:Imm)(ρ:Ren)(w:World)(l:Loc):Obj->Prop
 |.row cs=>(∀o,M l.blk o=none)/\∃c e,w.heap[l.blk]? =some (.cells c e (0,0))/\l.size=c.size/\cs.length<=c.size/\∀(i:Nat)(d:D),cs[i]? =some d->d.flat=true/\∃v,c[i]? =some v/\rel M ρ d v
 |.tok=>(∀o,l.endd<=o->M l.blk o=none)/\l.endd<=l.size/\∃c e,w.heap[l.blk]? =some (.cells c e (0,0))/\l.size=c.size
 |.map es=>∃en clock,w.heap[l.blk]? =some (.map en clock)/\pa M ρ es en.toList
 |.loop r=>∃L:Go.Loop,w.heap[l.blk]? =some (.loop L)/\L.state=r.st/\L.pending=r.pending/\L.params=r.params/\L.assign=r.assign/\L.body=r.body/\L.tmps.size=r.n/\VX M ρ r.fr L.tmps
 |.siter s pos=>∃b:ByteArray,w.heap[l.blk]? =some (.stringIter b pos)/\b.data.toList=s
 |.trow t full cs=>(∀o,M l.blk o=none)/\∃c e,w.heap[l.blk]? =some (.cells c e (0,0))/\l.size=c.size/\cs.length<=c.size/\(∀(i:Nat)(d:D),cs[i]? =some d->d.flat=true/\∃v,c[i]? =some v/\rel M ρ d v)/\e=t/\(full=true->c.size=cs.length)
structure Base extends World where
 O:Imm
 keep:Nat->Prop
 kept:∀b,keep b->b<heap.size
structure Kept(w0:Base)(w:World):Prop where
 os:w.os=w0.os
 tape:w.tape=w0.tape
 output:w.output=w0.output
 size:w0.heap.size<=w.heap.size
 block:∀b,w0.keep b->w.heap[b]? =w0.heap[b]?
 drawn:w0.drawn<=w.drawn
structure Bel(n:Nat)(w w':World):Prop extends Below n w w' where
 drawn:w.drawn<=w'.drawn
def Bel.refl(n:Nat)(w:World):Bel n w w:=⟨Below.refl n w,zD _⟩
structure Sim(w0:Base)(G:List Nat)(M:Imm)(ρ:Ren)(h:Heap)(w:World):Prop where
 below:Kept w0 w
 imm:∀b o v,M b o=some v->w.cell? ⟨b,o,none⟩ =some v
 live:∀i ob,h.at' i=some ob->∃l,ρ i=some l/\¬w0.keep l.blk/\s8 M ρ w l ob
 apart:∀i j oi oj li lj,h.at' i=some oi->h.at' j=some oj->ρ i=some li->ρ j=some lj->li.blk=lj.blk->i=j
 gdef:∀b,b∈G->¬w0.keep b/\w.heap[b]? =some (.deferred (some []))
 old:∀b o v,w0.keep b->M b o=some v->w0.O b o=some v
variable{l:Loc}
def se(b:w'.heap[l.blk]? =w.heap[l.blk]?):∀{a:Obj},s8 M ρ w l a->s8 M ρ w' l a
 :=by simp_all [s8]
def lC:∀{a:Obj},s8 M ρ w l a->l.blk<w.heap.size
 |.row _,h=>by obtain⟨_,c,e,h,_⟩:=h;exact(yJ.1 h).1
 |.tok,h=>by obtain⟨_,_,c,e,h,_⟩:=h;exact(yJ.1 h).1
 |.map _,h=>by obtain⟨c,e,h,_⟩:=h;exact(yJ.1 h).1
 |.loop _,h=>by obtain⟨c,h,_⟩:=h;exact(yJ.1 h).1
 |.siter _ _,h=>by obtain⟨c,h,_⟩:=h;exact(yJ.1 h).1
 |.trow _ _ _,h=>by obtain⟨_,c,e,h,_⟩:=h;exact(yJ.1 h).1
variable{M':Imm}{ρ':Ren}
theorem Va(hM:MLe M M')(hr:RLe ρ ρ'):∀(ds:List (D×D))(b:List MapEntry),pa M ρ ds b->pa M' ρ' ds b
 | [],_,h=>by simpa [pa]using h
 |(k,d)::ds,_,h=>by
  obtain⟨e,a,h1,c,h3,f⟩:=h;exact⟨e,a,h1,to hM hr _ _ c,to hM hr _ _ h3,Va hM hr ds a f⟩
def rg(hM:MLe M M')(hr:RLe ρ ρ')(f:∀o,M l.blk o=none->M' l.blk o=none):∀{j:Obj},s8 M ρ w l j->s8 M' ρ' w l j
 |.row _,h=>by
  obtain⟨h0,c,e,h1,a,h3,b⟩:=h;refine⟨λo=>f o (h0 o),c,e,h1,a,h3,λi d r=> ?_⟩
  grind [to]
 |.tok,h=>⟨λo s=>f o (h.1 o s),h.2⟩
 |.map _,h=>by
  obtain⟨m,k,h1,a⟩:=h;exact⟨m,k,h1,Va hM hr _ _ a⟩
 |.loop _,h=>by
  obtain⟨L,h1,a,h3,b,h5,n,p,q⟩:=h;exact⟨L,h1,a,h3,b,h5,n,p,λi=>to hM hr _ _ (q i)⟩
 |.siter _ _,h=>h
 |.trow _ _ _,h=>by
  obtain⟨h0,c,e,h1,a,h3,b,g⟩:=h;refine⟨λo=>f o (h0 o),c,e,h1,a,h3,λi d r=> ?_,g⟩
  grind [to]
def kP(M:Imm)(b p:Nat)(vs:List Value):Imm:=λb' o=>if b'=b/\p<=o/\o<p+vs.length then vs[o-p]? else M b' o
def nj(ρ:Ren)(i:Nat)(l:Loc):Ren:=λj=>if j=i then some l else ρ j
def tQ(h:ρ i=none):RLe ρ (nj ρ i l):=λj m e=>by grind [nj]
theorem jP{b p:Nat}(h:∀o,p<=o->M b o=none):MLe M (kP M b p vs):=λb' o v e=>by grind [kP]
def V3{b p:Nat}(h:vs[i]? =some v):kP M b p vs b (p+i)=some v:=by grind [kP]
section sim
variable{w0:Base}{G:List Nat}{M:Imm}{ρ:Ren}{h:Heap}{w:World}
def Sim.lt(a:Sim w0 G M ρ h w){b o:Nat}(e:M b o=some v):b<w.heap.size:=by
 have:=World.block_lt_of_cell? _ _ (a.imm b o v e);exact this
def Sim.none_at(a:Sim w0 G M ρ h w){b:Nat}(c:w.heap.size<=b)(o:Nat):M b o=none:=by
 cases e:M b o with
 |none=>rfl
 |some v=>have:=a.lt e;omega
def Sim.nokeep(c:Sim w0 G M ρ h w){b:Nat}(d:w.heap.size<=b):¬w0.keep b:=λa=>by
 have:=w0.kept b a;have:=c.below.size;omega
def Kept.world(a:Kept w0 w)(c:Bel w.heap.size w w'):Kept w0 w':=
 ⟨c.os.trans a.os,c.tape.trans a.tape,c.output.trans a.output,zf a.size c.size,λb d=>(c.block b (zq (w0.kept b d) a.size)).trans (a.block b d),zf a.drawn c.drawn⟩
def Sim.world(hs:Sim w0 G M ρ h w)(hb:Bel w.heap.size w w'):Sim w0 G M ρ h w' where
 below:=hs.below.world hb
 imm b o v e:=by
  have hl:=hs.lt e;have:=hs.imm b o v e;rw[<-this];exact wj (w:=w) (hb.block b hl)
 live i ob e:=by
  obtain⟨l,h1,h2,h3⟩:=hs.live i ob e;exact⟨l,h1,h2,se (hb.block _ (lC h3)) h3⟩
 apart:=hs.apart
 gdef b hb':=by
  obtain⟨h1,h2⟩:=hs.gdef b hb';exact⟨h1,by rw[hb.block b (yJ.1 h2).1];exact h2⟩
 old:=hs.old
def Sim.drew(a:Sim w0 G M ρ h w):Sim w0 G M ρ h w.drew:=a.world ⟨Below.drew (Below.refl _ _),Nat.le_succ _⟩
def Sim.alloc(a:Sim w0 G M ρ h w)(o:Go.Obj):Sim w0 G M ρ h (w.alloc o):=a.world ⟨(Below.refl _ _).alloc (zD _) o,zD _⟩
def Xl{O:Imm}{K:Nat->Prop}{b' p:Nat}(f:∀b o v,K b->M b o=some v->O b o=some v)(c:¬K b'):∀b o v,K b->kP M b' p vs b o=some v->O b o=some v:=λb o v a e=>by
 unfold kP at e;split at e
 ·rename_i d;rw[d.1]at a;exact absurd a c
 ·exact f b o v a e
def Sim.allocImm(a:Sim w0 G M ρ h w)(c:Array Value)(e:TypeId)(n:Nat):Sim w0 G (kP M w.heap.size 0 (c.toList.take n)) ρ h (w.alloc (.cells c e)):=by
 have g:MLe M (kP M w.heap.size 0 (c.toList.take n)):=jP λo _=>a.none_at (zD _) o;have f:=a.alloc (.cells c e);refine { below:=f.below,imm:=λb o v d=> ?_,live:=λi p d=> ?_,apart:=a.apart,gdef:=f.gdef,old:=Xl a.old (a.nokeep (zD _)) }
 ·unfold kP at d;split at d
  ·rename_i k;obtain⟨rfl,_,j⟩:=k;rw[World.cell?_alloc_new]
   grind
  ·exact f.imm b o v d
 ·obtain⟨l,h1,j,h3⟩:=a.live i p d;have m:=lC h3;refine⟨l,h1,j,rg g (RLe.refl _) (λo q=> ?_) (se (w:=w) (Below.heap_alloc _ _ _ m) h3)⟩
  grind [kP]
def Sim.allocObj(c:Sim w0 G M ρ h w)(D:ρ nid=none)(o:Go.Obj)(v:Obj)(l:Loc)(C:l.blk=w.heap.size)(E:s8 M (nj ρ nid l) (w.alloc o) l v):
  Sim w0 G M (nj ρ nid l) (h.new nid v) (w.alloc o):=by
 have g:=c.alloc o;have b:=tQ (l:=l) D;refine { below:=g.below,imm:=g.imm,live:=λi q e=> ?_,apart:=λi j x y t u d f F H n=> ?_,gdef:=g.gdef,old:=c.old }
 ·simp only[Heap.new]at e;split at e
  ·rename_i a;subst a;cases e;exact⟨l,by simp[nj],by rw[C];exact c.nokeep (zD _),E⟩
  ·rename_i a;obtain⟨s,h1,A,h3⟩:=g.live i q e;exact⟨s,b _ _ h1,A,rg (MLe.refl _) b (λ_ h=>h) h3⟩
 ·simp only[Heap.new]at d f;have key:∀k ok m,h.at' k=some ok->nj ρ nid l k=some m->k≠nid->m.blk<w.heap.size/\ρ k=some m:=by
   intro k ok m z r B;obtain⟨s,h1,_,h3⟩:=c.live k ok z;simp only[nj,B,yy]at r;rw[h1]at r;cases r;exact⟨lC h3,h1⟩
  by_cases a:i=nid<;>by_cases p:j=nid
  ·rw[a,p]
  ·grind [nj]
  ·grind [nj]
  ·simp only[a,yy]at d;simp only[p,yy]at f;exact c.apart i j x y t u d f (key i x t d F a).2 (key j y u f H p).2 n
def Sim.del(hs:Sim w0 G M ρ h w)(i:Nat):Sim w0 G M ρ (h.del i) w where
 below:=hs.below
 imm:=hs.imm
 live j ob e:=by
  simp only[Heap.del]at e;split at e
  ·cases e
  ·exact hs.live j ob e
 apart j k oj ok lj lk ej ek:=by
  simp only[Heap.del]at ej ek;split at ej
  ·cases ej
  ·split at ek
   ·cases ek
   ·exact hs.apart j k oj ok lj lk ej ek
 gdef:=hs.gdef
 old:=hs.old
def Sim.less(hs:Sim w0 G M ρ h w)(hl:∀i ob,h'.at' i=some ob->h.at' i=some ob):Sim w0 G M ρ h' w where
 below:=hs.below
 imm:=hs.imm
 live j ob e:=hs.live j ob (hl j ob e)
 apart j k oj ok lj lk ej ek:=hs.apart j k oj ok lj lk (hl _ _ ej) (hl _ _ ek)
 gdef:=hs.gdef
 old:=hs.old
def Sim.put(a:Sim w0 G M ρ h w){A c:Obj}(C:h.at' i=some A)(D:ρ i=some l)(u:w'.os=w.os)(z:w'.tape=w.tape)(m:w'.output=w.output)
  (y:w'.heap.size=w.heap.size) (t:∀b,b≠l.blk->w'.heap[b]? =w.heap[b]?) (J:∀o v,M l.blk o=some v->w'.cell? ⟨l.blk,o,none⟩ =some v) (L:∃x,w.heap[l.blk]? =some x/\∀d,x≠ .deferred d)
  (R:s8 M ρ w' l c) (r:w.drawn<=w'.drawn:=by exact zD _):Sim w0 G M ρ (h.set i c) w':=by
 obtain⟨S,h1,I,h3⟩:=a.live i A C;rw[D]at h1;cases h1;refine { below:=⟨u.trans a.below.os,z.trans a.below.tape,m.trans a.below.output,by rw[y];exact a.below.size,λk g=>by rw[t k (λe=>I (e▸g))];exact a.below.block k g,zf a.below.drawn r⟩,imm:=λb o v e=> ?_,live:=λj p e=> ?_,apart:=λj k p ok n N E F P Q s=> ?_,gdef:=λb f=> ?_,old:=a.old }
 ·by_cases f:b=l.blk
  ·grind
  ·have:=a.imm b o v e;rw[<-this];exact wj (w:=w) (t b f)
 ·simp only[Heap.set]at e;split at e
  ·grind
  ·rename_i K;obtain⟨n,q,B,H⟩:=a.live j p e;refine⟨n,q,B,se (t _ λf=>K (a.apart j i p A n l e C q D f)) H⟩
 ·have key:∀k ok,(h.set i c).at' k=some ok->∃O,h.at' k=some O:=by
   grind [Heap.set]
  obtain⟨o1,e1⟩:=key j p E;obtain⟨o2,e2⟩:=key k ok F;exact a.apart j k o1 o2 n N e1 e2 P Q s
 ·obtain⟨q,B⟩:=a.gdef b f
  grind
end sim
theorem tm(b o j:Nat):(⟨b,o,none⟩:Addr).add j= ⟨b,o+j,none⟩:=by
 unfold Addr.add;split<;>simp_all
section ty
variable{P:Program}{w:World}
def bP{d:TypeDesc}(a:P.underlying t=some d):∃i,P.info? t=some i:=by
 unfold Program.underlying at a;cases e:P.info? t with
 |none=>rw[e]at a;cases a
 |some i=>exact⟨i,rfl⟩
def wG(a:szT P t≠0):(sizeOf t).run P w=.ok (szT P t) w:=by
 cases e:P.info? t with
 |none=>simp[szT,Program.cellsOf,e]at a
 |some i=>exact run_sizeOf _ e
def fG{d:TypeDesc}(b:P.underlying t=some d):(sizeOf t).run P w=.ok (szT P t) w:=by
 obtain⟨i,a⟩:=bP b;exact run_sizeOf _ a
def YG{ag:Bool}(h:agT P t=some ag):∃d,P.underlying t=some d/\(isAgg t).run P w=.ok ag w:=by
 unfold agT at h;cases e:P.underlying t with
 |none=>simp[e]at h
 |some d=>
  simp only[isAgg,zx,zU e,zX];cases d<;>simp_all
def rG{t e:TypeId}(h:tG P t=some e):P.underlying t=some (.slice e):=by grind [tG]
def cz{t e:TypeId}(h:Wt P t=some (n,e)):P.underlying t=some (.array n e):=by grind [Wt]
def Xd{t k e:TypeId}(h:MA P t=some (k,e)):P.underlying t=some (.map k e):=by grind [MA]
def XE{f off:Nat}(h:qV P t f=some (off,u)):∃ (fs:Array Field) (fl:Field),P.underlying t=some (.struct fs)/\fs[f]? =some fl/\fl.offset=off/\fl.type=u:=by grind [qV]
end ty
def V1(M:Imm)(ρ:Ren)(w:World)(cs:List D)(b p:Nat):Prop:=
 ∀(i:Nat)(d:D),cs[i]? =some d->d.flat=true/\∃v,w.cell? ⟨b,p+i,none⟩ =some v/\rel M ρ d v
section
variable{P:Program}{w0:Base}{G:List Nat}{M:Imm}{ρ:Ren}{h:Heap}{w:World}
def Sim.holds(f:Sim w0 G M ρ h w){b p:Nat}(c:kQ M ρ cs b p):V1 M ρ w cs b p:=λi d e=>by
 obtain⟨h0,v,h1,a⟩:=mM c i d e;exact⟨h0,v,f.imm _ _ _ h1,a⟩
def Sim.row(m:Sim w0 G M ρ h w)(j:h.at' id=some (.row cs))(k:ρ id=some l):V1 M ρ w cs l.blk 0:=λi d g=>by
 obtain⟨n,h1,_,_,c,e,a,_,_,h3⟩:=m.live id _ j;rw[k]at h1;cases h1;obtain⟨f,v,b,h5⟩:=h3 i d g;exact⟨f,v,by simp[World.cell?,a,b],h5⟩
def Sim.trow(m:Sim w0 G M ρ h w){full:Bool}(j:h.at' id=some (.trow u full cs))(k:ρ id=some l):V1 M ρ w cs l.blk 0:=λi d g=>by
 obtain⟨n,h1,_,_,c,e,a,_,_,h3,_⟩:=m.live id _ j;rw[k]at h1;cases h1;obtain⟨f,v,b,h5⟩:=h3 i d g;exact⟨f,v,by simp[World.cell?,a,b],h5⟩
def V1.loadCells{b p:Nat}(h:V1 M ρ w cs b p){off n:Nat}(l:off+n<=cs.length):
  ∃vs:List Value,vs.length=n/\(loadCells ⟨b,p+off,none⟩ n).run P w=.ok vs.toArray w/\wJ M ρ ((cs.drop off).take n) vs/\((cs.drop off).take n).all D.flat=true/\∀(j:Nat)(v:Value),vs[j]? =some v->w.cell? ⟨b,p+off+j,none⟩ =some v:=by
 let f:Nat->Value:=λj=>(w.cell? ⟨b,p+off+j,none⟩).getD undef
 have hf:∀j,j<n->w.cell? ((⟨b,p+off,none⟩:Addr).add j)=some (f j):=λj g=>by
  obtain⟨_,v,h1,_⟩:=h (off+j) cs[off+j] (zB ow);rw[<-wA]at h1;rw[tm];simp[f,h1]
 refine⟨(List.range n).map f,by simp,run_loadCells w _ n f hf,wW (by simp;omega) λi d v c a=> ?_,zo.2 λd c=> ?_,λj v a=> ?_⟩
 ·simp only[yF,qX]at c;split at c
  ·rename_i e;obtain⟨_,u,h1,k⟩:=h (off+i) d c;rw[<-wA]at h1;simp[e]at a;subst a;simpa [f,h1]using k
  ·cases c
 ·obtain⟨i,e⟩:=yw.1 c;simp only[yF,qX]at e;split at e
  ·exact(h _ d e).1
  ·cases e
 ·simp only[zj]at a;by_cases g:j<n
  ·simp[g]at a;subst a;have:=hf j g
   rwa [tm]at this
  ·simp[g]at a
def V1.loadVar{b p:Nat}(g:V1 M ρ w cs b p){ag:Bool}(f:agT P t=some ag){off:Nat}(a:yW ag (szT P t) cs off=some d):
  ∃v,(loadVar t ⟨b,p+off,none⟩).run P w=.ok v w/\rel M ρ d v:=by
 obtain⟨td,j,c⟩:=YG (w:=w) f;cases ag with
 |true=>
  simp only[yW,qS]at a;split at a
  ·cases a
  ·split at a
   ·rename_i i;obtain⟨vs,h1,e,h3,h,_⟩:=g.loadCells (P:=P) i;cases a;refine⟨.agg vs.toArray,?_,?_⟩
    ·simp[Go.loadVar,c,fG j,e]
    ·simp only[rel];exact⟨_,rfl,by simpa using h3,h⟩
   ·cases a
 |false=>
  simp only[yW,zl,yy]at a;obtain⟨_,v,h1,e⟩:=g off d a;exact⟨v,by simp[Go.loadVar,c,h1],e⟩
def YV(P:Program)(w0:Base)(G:List Nat)(M:Imm)(ρ:Ren)(nid:Nat)(w:World)(s:Sem Value)(d:D)(h':Heap):Prop:=
 ∃v w' M' ρ',s.run P w=.ok v w'/\MLe M M'/\RLe ρ ρ'/\(∀i,h'.next<=i\/i≠nid->ρ' i=ρ i)/\Sim w0 G M' ρ' h' w'/\rel M' ρ' d v
variable{h:Heap}
def kx(a:(h.new nid ob).next<=i\/i≠nid):i≠nid:=by grind [Heap.new]
def YV.pure{s:Sem Value}(b:Sim w0 G M ρ h w)(hr:s.run P w=.ok v w)(a:rel M ρ d v):YV P w0 G M ρ nid w s d h:=
 ⟨v,w,M,ρ,hr,MLe.refl _,RLe.refl _,λ_ _=>rfl,b,a⟩
def FP(f:Sim w0 G M ρ h w){a d:D}(j:rel M ρ a vx)(c:lR P t a h=some d):YV P w0 G M ρ nid w (Instr.loadAt t vx) d h:=by
 unfold lR at c;split at c
 ·cases c
 ·rename_i ag e;split at c
  ·rename_i cs off;obtain⟨b,p,rfl,m⟩:=j;obtain⟨v,h1,g⟩:=(f.holds m).loadVar e c;exact .pure f (by simp[Instr.loadAt,Instr.sureAddr,h1]) g
  ·rename_i id off;obtain⟨l,k,rfl⟩:=j;split at c
   ·rename_i cs i;obtain⟨v,h1,g⟩:=(f.row i k).loadVar e c;rw[yZ]at h1;exact .pure f (by simp[Instr.loadAt,Instr.sureAddr,h1]) g
   ·rename_i u full cs i;obtain⟨v,h1,g⟩:=(f.trow i k).loadVar e c;rw[yZ]at h1;exact .pure f (by simp[Instr.loadAt,Instr.sureAddr,h1]) g
   ·cases c
  ·cases c
def U7(j:Sim w0 G M ρ h w){f:Nat}(m:rel M ρ x vx)(a:p7 P t x f=some d):YV P w0 G M ρ nid w (Instr.fieldAt t vx f) d h:=by
 unfold p7 at a;split at a
 ·rename_i off q g;obtain⟨fs,fl,k,c,rfl,rfl⟩:=XE g;split at a
  ·cases a
  ·rename_i n;have i:=wG (P:=P) (w:=w) n;have e:∀b o,(fieldPlace ⟨b,o,none⟩ fl).run P w=.ok ⟨b,o+fl.offset,none⟩ w:=λb o=>by
    simp[fieldPlace,i,n,tm]
   split at a
   ·rename_i cs o;obtain⟨b,p,rfl,r⟩:=m;refine .pure j (v:=.pointer (some ⟨b,p+o+fl.offset,none⟩)) ?_ ?_
    ·simp[Instr.fieldAt,zU k,c,Instr.sureAddr,e]
    ·grind [rel]
   ·rename_i id o;obtain⟨l,s,rfl⟩:=m;refine .pure j (v:=.pointer (some ⟨l.blk,o+fl.offset,none⟩)) ?_ ?_
    ·simp[Instr.fieldAt,zU k,c,Instr.sureAddr,e]
    ·grind [rel]
   ·cases a
 ·cases a
def U8(A:Sim w0 G M ρ h w){x i d:D}(g:rel M ρ x vx)(E:rel M ρ i vy)(a:yt P t x i=some d):YV P w0 G M ρ nid w (Instr.indexAt t vx vy) d h:=by
 unfold yt at a;split at a
 ·rename_i k n;simp only[rel]at E;obtain⟨rfl,_⟩:=E;split at a
  ·rename_i e K;have y:=rG K;split at a
   ·rename_i sz xs tk;split at a
    ·rename_i j;split at a
     ·rename_i h0;split at a
      ·rename_i c z;cases a;have N:=g;simp only[rel]at g;obtain⟨u,s,b,p,cap,⟨O,rfl,C⟩,r,I,_⟩:=g;obtain⟨F,H⟩:=YZ I _ _ z;have L:n.toNat<xs.length:=(zK.1 z).1;obtain rfl:O=none:=C.resolve_right ow;have m:n<(xs.length:Int):=ow;have q:szT P e≠0:=ow;refine .pure A (v:=.pointer (some ⟨b,p+n.toNat*sz,none⟩)) ?_ ?_
       ·simp[Instr.indexAt,asIntOf,zU y,h0,m,wG q,tm,j]
       ·simp only[rel];exact⟨b,p+n.toNat*sz,rfl,H⟩
      ·cases a
     ·cases a
    ·cases a
   ·rename_i id sz off len;split at a
    ·rename_i f;simp only[zF,zO]at f;obtain⟨⟨j,h0⟩,m⟩:=f;cases a;simp only[rel]at g;obtain⟨u,s,l,cap,o,B,rfl,r,_,Q⟩:=g;obtain rfl:o=off:=ow;have q:szT P e≠0:=ow;refine .pure A (v:=.pointer (some ⟨l.blk,o+n.toNat*sz,none⟩)) ?_ ?_
     ·simp[Instr.indexAt,asIntOf,zU y,h0,m,wG q,tm,j]
     ·simp only[rel];exact⟨l,B,rfl⟩
    ·cases a
   ·cases a
  ·split at a
   ·rename_i len e J;have y:=cz J;split at a
    ·rename_i f;simp only[zF,zO]at f;obtain⟨⟨h0,m⟩,q⟩:=f;split at a
     ·rename_i cs o;cases a;simp only[rel]at g;obtain⟨b,p,rfl,z⟩:=g;refine .pure A (v:=.pointer (some ⟨b,p+o+n.toNat*szT P e,none⟩)) ?_ ?_
      ·simp[Instr.indexAt,asIntOf,zU y,Instr.sureAddr,h0,m,wG q,tm]
      ·simp only[rel];exact⟨b,p,by rw[wA],z⟩
     ·rename_i id o;cases a;simp only[rel]at g;obtain⟨l,B,rfl⟩:=g;refine .pure A (v:=.pointer (some ⟨l.blk,o+n.toNat*szT P e,none⟩)) ?_ ?_
      ·simp[Instr.indexAt,asIntOf,zU y,Instr.sureAddr,h0,m,wG q,tm]
      ·simp only[rel];exact⟨l,B,rfl⟩
     ·cases a
    ·cases a
   ·cases a
 ·cases a
end
variable{M:Imm}{w:World}{h:Heap}
def uM{k:IntKind}{n:Int}(h:fits k n):rel M ρ (.int k n) (.int k n):=by grind [rel]
theorem uz(b:Bool):rel M ρ (.bool b) (.bool b):=by simp only[rel]
def rt(k:IntKind)(n:Int):fits k (k.wrap n):=by
 unfold fits IntKind.wrap;cases k<;>simp[IntKind.bits,IntKind.signed]<;>(repeat' split)<;>omega
def oR(k:IntKind)(n:Int):fits k n↔k.min<=n/\n<=k.max:=by
 unfold fits IntKind.wrap IntKind.min IntKind.max;cases k<;>simp[IntKind.bits,IntKind.signed]<;>(repeat' split)<;>omega
def Jh{k:IntKind}{a b:Int}(c:fits k a):fits k (a.tmod b):=by
 rw[oR]at c⊢;have h0:(a.tmod b).natAbs<=a.natAbs:=by rw[Int.natAbs_tmod];exact Nat.mod_le _ _
 have d:0<=a->0<=a.tmod b:=λh=>Int.tmod_nonneg b h;have h3:a<=0->a.tmod b<=0:=λh=>by
  have:=Int.tmod_nonneg b (a:= -a) ow;rw[Int.neg_tmod]at this;omega
 have e:k.min<=0/\0<=k.max:=by cases k<;>simp[IntKind.min,IntKind.max,IntKind.bits,IntKind.signed]
 grind
def Jg{k:IntKind}{a:Int}(c:fits k a)(n:Nat):fits k (a.fdiv (2^n)):=by
 rw[oR]at c⊢;have e:k.min<=0/\0<=k.max:=by cases k<;>simp[IntKind.min,IntKind.max,IntKind.bits,IntKind.signed]
 have d:(1:Int)<=2^n:=Int.pow_pos ow;generalize(2:Int)^n=m at d⊢;rw[Int.fdiv_eq_ediv_of_nonneg _ ow];rcases(show a<0\/0<=a by omega)with h|h
 ·have h3:=Int.ediv_neg_of_neg_of_pos h (by omega:(0:Int)<m);have b:a<=a/m:=Int.le_ediv_of_mul_le ow (by
   have:a*m<=a*1:=Int.mul_le_mul_of_nonpos_left ow ow;omega)
  omega
 ·have h3:0<=a/m:=Int.ediv_nonneg h ow;have b:=Int.ediv_le_self m h;omega
section
variable{P:Program}{w0:Base}{G:List Nat}{M:Imm}{ρ:Ren}{h:Heap}{w:World}{nid:Nat}
def FS{op:BinOp}{k:IntKind}{a b:Int}(g:fits k a)(c:Ml op k a b=some d)(e:op≠ .shl/\op≠ .shr)(t:TypeId):
  ∃v,(binOp op t (.int k a) (.int k b)).run P w=.ok v w/\rel M ρ d v:=by
 cases op with
 |shl=>exact absurd rfl e.1
 |shr=>exact absurd rfl e.2
 |quo=>
  simp only[Ml]at c;split at c
  ·cases c
  ·rename_i f;injection c with c;subst c;exact⟨.int k (k.wrap (a.tdiv b)),by simp[binOp,Op.intDiv,f],uM (rt _ _)⟩
 |rem=>
  simp only[Ml]at c;split at c
  ·cases c
  ·rename_i f;injection c with c;subst c;exact⟨.int k (a.tmod b),by simp[binOp,Op.intDiv,f],uM (Jh g)⟩
 |add=>cases c;exact⟨.int k (k.wrap (a+b)),by simp[binOp,Op.intArith],uM (rt _ _)⟩
 |sub=>cases c;exact⟨.int k (k.wrap (a-b)),by simp[binOp,Op.intArith],uM (rt _ _)⟩
 |mul=>cases c;exact⟨.int k (k.wrap (a*b)),by simp[binOp,Op.intArith],uM (rt _ _)⟩
 |and=>cases c;exact⟨.int k (k.wrap (BitVec.ofInt k.bits a &&& BitVec.ofInt k.bits b).toNat),by simp[binOp,Op.intBits],uM (rt _ _)⟩
 |or=>cases c;exact⟨.int k (k.wrap (BitVec.ofInt k.bits a |||BitVec.ofInt k.bits b).toNat),by simp[binOp,Op.intBits],uM (rt _ _)⟩
 |xor=>cases c;exact⟨.int k (k.wrap (BitVec.ofInt k.bits a ^^^ BitVec.ofInt k.bits b).toNat),by simp[binOp,Op.intBits],uM (rt _ _)⟩
 |andNot=>cases c;exact⟨.int k (k.wrap (BitVec.ofInt k.bits a &&& ~~~ BitVec.ofInt k.bits b).toNat),by simp[binOp,Op.intBits],uM (rt _ _)⟩
 |eql=>cases c;exact⟨.bool (a==b),by simp[binOp,Op.intCmp],uz _⟩
 |neq=>cases c;exact⟨.bool (a !=b),by simp[binOp,Op.intCmp],uz _⟩
 |lss=>cases c;exact⟨.bool (decide (a<b)),by simp[binOp,Op.intCmp],uz _⟩
 |leq=>cases c;exact⟨.bool (decide (a<=b)),by simp[binOp,Op.intCmp],uz _⟩
 |gtr=>cases c;exact⟨.bool (decide (a>b)),by simp[binOp,Op.intCmp],uz _⟩
 |geq=>cases c;exact⟨.bool (decide (a>=b)),by simp[binOp,Op.intCmp],uz _⟩
def L6{op:BinOp}{k k':IntKind}{a b:Int}(f:fits k a)(c:QY op k a b=some d)(t:TypeId):
  ∃v,(binOp op t (.int k a) (.int k' b)).run P w=.ok v w/\rel M ρ d v:=by
 unfold QY at c;split at c
 ·cases c
 ·rename_i e;cases op<;>simp only at c<;>first
   |(injection c with c;subst c;exact⟨.int k (k.wrap (a*2^ (min b.toNat k.bits))),by simp[binOp,Op.shift,e],uM (rt _ _)⟩)
   |(injection c with c;subst c;exact⟨.int k (a.fdiv (2^ (min b.toNat k.bits))),by simp[binOp,Op.shift,e],uM (Jg f _)⟩)
   |cases c
def uX(b:ByteArray):b.toList=b.data.toList:=ByteArray.toList_eq b
def FT{op:BinOp}{a b:ByteArray}(c:Hm op a.data.toList b.data.toList=some d)(t:TypeId):
  ∃v,(binOp op t (.string a) (.string b)).run P w=.ok v w/\rel M ρ d v:=by
 cases op with
 |add=>
  simp only[Hm]at c;split at c
  ·rename_i e;injection c with c;subst c;refine⟨.string (a++b),?_,?_⟩
   ·simp only[binOp];refine run_string_add_sum w a b ?_;have h1:a.size=a.data.toList.length:=by rw[yQ];rfl
    have f:b.size=b.data.toList.length:=by rw[yQ];rfl
    unfold lim at e;omega
   ·simp_all [rel]
  ·cases c
 |eql=>cases c;exact⟨.bool (a.data.toList==b.data.toList),by rw[<-uX,<-uX];rfl,uz _⟩
 |neq=>cases c;exact⟨.bool (!(a.data.toList==b.data.toList)),by rw[<-uX,<-uX];rfl,uz _⟩
 |lss=>cases c;exact⟨.bool (WS a.data.toList b.data.toList),by simp only[binOp,Op.stringOp,uX,WS,yN],uz _⟩
 |leq=>cases c;exact⟨.bool (WS a.data.toList b.data.toList||a.data.toList==b.data.toList),by simp only[binOp,Op.stringOp,uX,WS,yN],uz _⟩
 |gtr=>cases c;exact⟨.bool (!(WS a.data.toList b.data.toList||a.data.toList==b.data.toList)),by simp only[binOp,Op.stringOp,uX,WS,yN],uz _⟩
 |geq=>cases c;exact⟨.bool (!(WS a.data.toList b.data.toList)),by simp only[binOp,Op.stringOp,uX,WS,yN],uz _⟩
 |_=>cases c
theorem o8:∀{ks:List Kd}{as a:List D}{r:Bool},eqK ks as a=some r->as.length=ks.length/\a.length=ks.length
 | [],[],[],_,_=>⟨rfl,rfl⟩
 |.b::ks,.bool x::as,.bool y::a,r,h=>by
  simp only[eqK,zh]at h;obtain⟨q,h,_⟩:=h;have:=o8 h;simp[this]
 |.i::ks,.int k x::as,.int k' y::a,r,h=>by
  simp only[eqK]at h;split at h
  ·simp only[zh]at h;obtain⟨q,h,_⟩:=h;have:=o8 h;simp[this]
  ·cases h
 |.s::ks,.str x::as,.str y::a,r,h=>by
  simp only[eqK,zh]at h;obtain⟨q,h,_⟩:=h;have:=o8 h;simp[this]
theorem ke:∀{k1 k2:List Kd}{as a:List D}{r:Bool},eqK (k1++k2) as a=some r->
  ∃r1 r2,eqK k1 (as.take k1.length) (a.take k1.length)=some r1/\eqK k2 (as.drop k1.length) (a.drop k1.length)=some r2/\r=(r1&&r2)
 | [],k2,as,a,r,h=>⟨true,r,by simp[eqK],by simpa using h,by simp⟩
 |.b::k1,k2,.bool x::as,.bool y::a,r,h=>by
  simp only[yE,eqK,zh]at h;obtain⟨q,h,rfl⟩:=h;obtain⟨r1,r2,h1,c,rfl⟩:=ke h;exact⟨x==y&&r1,r2,by simp[eqK,h1],by simpa using c,by simp[dP]⟩
 |.i::k1,k2,.int k x::as,.int k' y::a,r,h=>by
  simp only[yE,eqK]at h;split at h
  ·rename_i d;simp only[zh]at h;obtain⟨q,h,rfl⟩:=h;obtain⟨r1,r2,h1,c,rfl⟩:=ke h;exact⟨x==y&&r1,r2,by simp[eqK,h1,d],by simpa using c,by simp[dP]⟩
  ·cases h
 |.s::k1,k2,.str x::as,.str y::a,r,h=>by
  simp only[yE,eqK,zh]at h;obtain⟨q,h,rfl⟩:=h;obtain⟨r1,r2,h1,c,rfl⟩:=ke h;exact⟨x==y&&r1,r2,by simp[eqK,h1],by simpa using c,by simp[dP]⟩
theorem QG{vs:Array Value}(h:wJ M ρ ds vs.toList)(a n:Nat):wJ M ρ ((ds.drop a).take n) (vs.extract a (a+n)).toList:=by grind [qI,wW,sF]
def dB{ag:Bool}(e:agT P t=some ag){vs:Array Value}(hr:wJ M ρ ds vs.toList)(hf:ds.all D.flat=true){off:Nat}(a:yW ag (szT P t) ds off=some d):
  ∃v,(part t vs off).run P w=.ok v w/\rel M ρ d v:=by
 obtain⟨td,g,b⟩:=YG (w:=w) e;cases ag with
 |true=>
  simp only[yW,qS]at a;split at a
  ·cases a
  ·split at a
   ·cases a;refine⟨.agg (vs.extract off (off+szT P t)),by simp[part,b,fG g],?_⟩
    grind [rel,QG]
   ·cases a
 |false=>
  obtain⟨v,h1,f⟩:=sF hr off d a;refine⟨v,?_,f⟩;have c:vs[off]? =some v:=by simpa using h1
  simp[part,b,c]
def lx{d:Nat}{ks:List Kd}(h:pK P d t=some ks)(a:agT P t=some false):∃c,ks= [c]:=by
 cases d with
 |zero=>simp[pK]at h
 |succ d=>
  unfold pK at h;unfold agT at a;cases b:P.underlying t with
  |none=>rw[b]at h;cases h
  |some td=>
   grind
theorem Vg{d k : Nat}(ih : ∀(t : TypeId)(ks : List Kd)(ag : Bool), pK P d t = some ks -> agT P t = some ag -> ∀(J K : D)(a b : Value)(r : Bool), yz ag J = true -> yz ag K = true ->
      rel M ρ J a -> rel M ρ K b -> eqK ks J.cells K.cells = some r -> (Op.equalIn (d + k) t a b).run P w =.ok r w) :
    ∀(fs : List Field)(off n : Nat)(ks : List Kd), XW (pK P d) P.cellsOf fs off n = some ks -> ∀(as p : List D)(xs ys : Array Value)(r : Bool), wJ M ρ as xs.toList -> wJ M ρ p ys.toList -> as.all D.flat = true -> p.all D.flat = true ->
      eqK ks (as.drop off) (p.drop off) = some r -> (Op.eqFields (d + k) xs ys fs).run P w =.ok r w
  | [], off, n, ks, j, as, p, xs, ys, r, T, U, Q, R, B => by
    simp only [XW]at j;split at j
    · cases j
      have := o8 B;cases E : as.drop off with
      | nil => cases hq' : p.drop off with
        | nil => rw [E, hq']at B; simp [eqK]at B; simp [Op.eqFields, B]
        | cons _ _ => rw [hq']at this; simp at this
      | cons _ _ => rw [E]at this; simp at this
    · cases j
  | f :: fs, off, n, ks, j, as, p, xs, ys, r, T, U, Q, R, B => by
    simp only [XW]at j;split at j
    · rename_i m
      simp only [zF, fX, ne_eq, qN]at m;obtain ⟨⟨z, I⟩, Y⟩ := m;split at j
      · rename_i i h
        split at j
        · rename_i o
          simp only [qN]at o;simp only [zh]at j;obtain ⟨kr, W, rfl⟩ := j;obtain ⟨r1, r2, h1, h2, rfl⟩ := ke B;obtain ⟨ag, l⟩ : ∃ ag, agT P f.type = some ag := by
            cases hd : d with
            | zero => rw [hd]at h; simp [pK]at h
            | succ d' =>
              rw [hd]at h;unfold pK at h;unfold agT;cases hu : P.underlying f.type with
              | none => rw [hu]at h; cases h
              | some td => cases td <;> simp
          have q := o8 h1;have ad : szT P f.type = i.length := o.symm;have cell : ∀(cs : List D)(vs : Array Value), wJ M ρ cs vs.toList -> cs.all D.flat = true -> ((cs.drop off).take i.length).length = i.length ->
              (∀ c, ag = false -> (cs.drop off).take i.length = [c] -> yz false c = true /\ c.cells = [c]) -> (ag = true -> i.length ≠ 0) -> (ag = false -> i.length = 1) ->
              ∃ v L, (part f.type vs f.offset).run P w =.ok v w /\ rel M ρ L v /\ yz ag L = true /\ L.cells = (cs.drop off).take i.length := by
            intro cs vs hr G C Z s F;rw [I];cases ag with
            | true =>
              have X : off + i.length <= cs.length := by
                have := s rfl;simp only [yR, tF]at C; omega
              obtain ⟨v, p1, p2⟩ := dB (w := w) l hr G (off := off) (d :=.agg ((cs.drop off).take i.length)) (by simp [yW, ad, s rfl, X]);exact ⟨v, _, p1, p2, rfl, rfl⟩
            | false =>
              have S := F rfl;have H : off < cs.length := by simp only [yR, tF]at C; omega
              have u : (cs.drop off).take i.length = [cs[off]] := by rw [S, yf H, pq, kD]
              obtain ⟨v, p1, p2⟩ := dB (w := w) l hr G (off := off) (d := cs[off]) (by simp [yW, H]);obtain ⟨q1, q2⟩ := Z _ rfl u;exact ⟨v, _, p1, p2, q1, by rw [q2, u]⟩
          have g : (ag = true -> i.length ≠ 0) /\ (ag = false -> i.length = 1) := by
            refine ⟨λ_ => by rw [o]; exact Y, λe => ?_⟩;subst e;obtain ⟨c, rfl⟩ := lx h l;rfl
          have x : ∀(c e : D)(rr : Bool), ag = false -> (eqK i [c] [e] = some rr) -> (yz false c = true /\ c.cells = [c]) /\ (yz false e = true /\ e.cells = [e]) := by
            intro c e rr hf E;subst hf;obtain ⟨kk, rfl⟩ := lx h l;cases kk <;> cases c <;> cases e <;> simp [eqK, yz, D.cells]at E ⊢
          have one : ∀ cs : List D, ((cs.drop off).take i.length).length = i.length -> ag = false -> ∃ c, (cs.drop off).take i.length = [c] := by
            intro cs C hf;have := g.2 hf;rw [this]at C;exact List.length_eq_one_iff.1 (by rw [<- this]at C; rw [C, this])
          obtain ⟨va, N, ai, ak, au, a0⟩ := cell as xs T Q q.1 (λc hf V => by
            obtain ⟨e, y⟩ := one p q.2 hf;rw [V, y]at h1;exact (x c e r1 hf h1).1) g.1 g.2
          obtain ⟨vb, O, a1, a2, a3, a4⟩ := cell p ys U R q.2 (λc hf V => by
            obtain ⟨e, y⟩ := one as q.1 hf;rw [V, y]at h1;exact (x e c r1 hf h1).2) g.1 g.2
          have E := ih f.type i ag h l N O va vb r1 au a3 ak a2 (by rw [a0, a4]; exact h1);have A := Vg ih fs (off + i.length) n kr W as p xs ys r2 T U Q R (by rw [uN, uN]at h2; exact h2);simp only [Op.eqFields, ne_eq, z, not_false_eq_true, qS, zx, ai, a1, zX, E];cases r1 with
          | true => simpa using A
          | false => simp
        · cases j
      · cases j
    · cases j
theorem Pj(k : Nat) : ∀(d : Nat)(t : TypeId)(ks : List Kd)(ag : Bool), pK P d t = some ks -> agT P t = some ag -> ∀(e f : D)(a b : Value)(r : Bool), yz ag e = true -> yz ag f = true ->
      rel M ρ e a -> rel M ρ f b -> eqK ks e.cells f.cells = some r -> (Op.equalIn (d + k) t a b).run P w =.ok r w
  | 0, t, ks, ag, h, _, _, _, _, _, _, _, _, _, _, _ => by simp [pK]at h
  | d + 1, t, ks, ag, h, j, e, f, a, b, r, l, m, g, rb, i => by
    rw [show d + 1 + k = (d + k) + 1 by omega];have h' := h;unfold pK at h;cases hu : P.underlying t with
    | none => rw [hu]at h; cases h
    | some td =>
      rw [hu]at h;have c : ∀ x : Bool, (match td with |.struct _ => true |.array _ _ => true | _ => false) = x -> ag = x := by
        intro x C;unfold agT at j;rw [hu]at j;cases td <;> simp_all
      cases td <;> simp only at h <;> (try (cases h; done))
      · split at h
        · cases h
          obtain rfl := c false rfl;cases e <;> simp [yz]at l <;> cases f <;> simp [yz]at m <;> simp [D.cells, eqK]at i;simp only [rel]at g rb;subst g rb i;simp [Op.equalIn, zU hu]
        · cases h
      · split at h
        · cases h
          obtain rfl := c false rfl;cases e <;> simp [yz]at l <;> cases f <;> simp [yz]at m <;> simp [D.cells, eqK]at i;simp only [rel]at g rb;obtain ⟨rfl, _⟩ := g;obtain ⟨rfl, _⟩ := rb;obtain ⟨rfl, rfl⟩ := i;simp [Op.equalIn, zU hu]
        · cases h
      · split at h
        · cases h
          obtain rfl := c false rfl;cases e <;> simp [yz]at l <;> cases f <;> simp [yz]at m <;> simp [D.cells, eqK]at i;simp only [rel]at g rb;obtain ⟨x, rfl, rfl, _⟩ := g;obtain ⟨y, rfl, rfl, _⟩ := rb;rw [run_equalIn_string w _ t x y hu, uX, uX, i]
        · cases h
      · rename_i fs
        split at h
        · cases h
        · rename_i q
          obtain rfl := c true rfl;cases e <;> simp [yz]at l;cases f <;> simp [yz]at m;rename_i as z;simp only [rel]at g rb;obtain ⟨xs, rfl, s, o⟩ := g;obtain ⟨ys, rfl, u, p⟩ := rb;have hf : P.fieldsOf t = fs := by simp [Program.fieldsOf, hu]
          rw [run_equalIn_struct w (d + k) t xs ys (by rw [hf]; exact hu) (by simpa using q), hf];exact Vg (λB v n h1 A => Pj k d B v n h1 A) fs.toList 0 _ ks h as z xs ys r s u o p (by simpa [D.cells]using i)
end
section
variable{P:Program}{w0:Base}{G:List Nat}{M:Imm}{ρ:Ren}{h:Heap}{w:World}{nid:Nat}
def zHL(P:Program)(w:World)(t:TypeId)(a b:Value)(r:Bool):Prop:=
 (∀o o',(eqGuard .eql t o o' a b).run P w=.ok () w/\(eqGuard .neq t o o' a b).run P w=.ok () w)/\
  (binOp .eql t a b).run P w=.ok (.bool r) w/\(binOp .neq t a b).run P w=.ok (.bool (!r)) w
def UM{a b:Value}(h1:∀o c,eqGuard .eql t o c a b=pure ()/\eqGuard .neq t o c a b=pure ())
  (f:binOp .eql t a b=do pure (.bool (<-Op.equal t a b))) (h3:binOp .neq t a b=do pure (.bool (!(<-Op.equal t a b))))
  (e:∀d,(Op.equalIn (d+1) t a b).run P w=.ok r w):zHL P w t a b r:=by
 have h5:(Op.equal t a b).run P w=.ok r w:=e 9999;refine⟨λo c=>⟨by rw[(h1 o c).1];rfl,by rw[(h1 o c).2];rfl⟩,?_,?_⟩
 all_goals simp_all
def zAc{a b:Value}(c:rel M ρ x a)(e:rel M ρ y b)(f:veq (P.underlying t) x y=some r):zHL P w t a b r:=by
 unfold veq at f;split at f<;>(try (cases f;done))<;>(injection f with f;subst f)<;>simp only[rel]at c e<;>rename_i g
 all_goals
  first
   |(subst c;subst e)
   |(subst c;obtain⟨_,_,rfl⟩:=e)
   |(subst e;obtain⟨_,_,rfl⟩:=c)
   |(subst c;obtain⟨_,_,rfl,_⟩:=e)
   |(subst e;obtain⟨_,_,rfl,_⟩:=c)
   |(subst c;obtain⟨_,_,_,_,_,⟨_,rfl,_⟩,_⟩:=e)
   |(subst e;obtain⟨_,_,_,_,_,⟨_,rfl,_⟩,_⟩:=c)
   |(subst c;obtain⟨_,_,_,_,_,rfl,_⟩:=e)
   |(subst e;obtain⟨_,_,_,_,_,rfl,_⟩:=c)
   |(subst c;obtain⟨_,_,_,_,_,_,rfl,_⟩:=e)
   |(subst e;obtain⟨_,_,_,_,_,_,rfl,_⟩:=c)
   |(subst e;obtain⟨_,_,rfl⟩:=c)
   |(subst c;obtain⟨_,_,_,_,_,rfl,_⟩:=e)
   |(subst c;obtain⟨_,_,_,rfl,_⟩:=e)
   |(subst e;obtain⟨_,_,_,rfl,_⟩:=c)
   |(subst c;obtain⟨_,_,_,_,_,rfl⟩:=e)
 all_goals
  first
   |exact UM (λo h=>⟨rfl,rfl⟩) rfl rfl (λd=>by simp[Op.equalIn,zU g])
   |skip
def Wf{ks:List Kd}(a:eqT P t=some ks){as c:List D}{xs ys:Array Value}(g:wJ M ρ as xs.toList/\as.all D.flat=true)(h:wJ M ρ c ys.toList/\c.all D.flat=true)(i:eqK ks as c=some r):zHL P w t (.agg xs) (.agg ys) r:=by
 unfold eqT at a;split at a
 ·rename_i fs k;split at a
  ·cases a
  ·rename_i j;have b:P.eqGuardType P.depth t=false:=by simpa using j
   have e:=λd=>Pj (P:=P) (M:=M) (ρ:=ρ) (w:=w) d 8 t ks true a (by simp[agT,k]) (.agg as) (.agg c) (.agg xs) (.agg ys) r rfl rfl (by simp only[rel];exact⟨xs,rfl,g⟩) (by simp only[rel];exact⟨ys,rfl,h⟩) i;refine⟨λo f=>⟨run_eqGuard_agg w .eql t o f xs ys b,run_eqGuard_agg w .neq t o f xs ys b⟩,?_,?_⟩
   ·rw[run_eql_struct,show(10000:Nat)=8+9992 from rfl,e];rfl
   ·rw[run_neq_struct,show(10000:Nat)=8+9992 from rfl,e];rfl
 ·cases a
def PH(op:BinOp)(t:TypeId)(o c:Operand)(k k':IntKind)(a b:Int):eqGuard op t o c (.int k a) (.int k' b)=pure ():=by cases op<;>rfl
def PI(op:BinOp)(t:TypeId)(o c:Operand)(a b:ByteArray):eqGuard op t o c (.string a) (.string b)=pure ():=by cases op<;>rfl
theorem zAl(Y:Sim w0 G M ρ h w){op:BinOp}{a b:Value}(o z:Operand)(A:rel M ρ x a)(n:rel M ρ y b)(c:jI P op t (isC o||isC z) x y=some d):
  YV P w0 G M ρ nid w (do eqGuard op t o z a b;binOp op t a b) d h:=by
 have m:∀v,(eqGuard op t o z a b).run P w=.ok () w->(binOp op t a b).run P w=.ok v w->rel M ρ d v->YV P w0 G M ρ nid w (do eqGuard op t o z a b;binOp op t a b) d h:=λv h1 E h3=>
  .pure Y (by simp only[zx,h1,zX,E]) h3
 have B:∀r,zHL P w t a b r->∀f g:Option D,f=some (.bool r)->g=some (.bool (!r))->oe op f g=some d->YV P w0 G M ρ nid w (do eqGuard op t o z a b;binOp op t a b) d h:=λr K f g hf H C=>by
  cases op<;>simp only[oe]at C<;>(try (cases C;done))
  ·rw[hf]at C;cases C;exact m _ (K.1 o z).1 K.2.1 (uz _)
  ·rw[H]at C;cases C;exact m _ (K.1 o z).2 K.2.2 (uz _)
 have other:FZ P op t x y=some d->YV P w0 G M ρ nid w (do eqGuard op t o z a b;binOp op t a b) d h:=λC=>by
  cases hr:veq (P.underlying t) x y with
  |none=>unfold FZ at C;rw[hr]at C;cases op<;>simp[oe]at C
  |some r=>exact B r (zAc A n hr) _ _ (by rw[hr];rfl) (by rw[hr];rfl) C
 cases x with
 |niliface=>
  simp only[jI]at c;simp only[rel]at A;subst A;split at c
  ·simp only[rel]at n;subst n;split at c
   ·rename_i U;unfold KH at c;split at c
    ·rename_i ms I;have H:∀op,(eqGuard op t o z .nilIface .nilIface).run P w=.ok () w:=λop=>by
      cases o<;>cases z<;>simp only[isC,ZX,gL,cj,zl,lX]at U<;>cases op<;>rfl
     have T:∀d,(Op.equalIn (d+1) t .nilIface .nilIface).run P w=.ok true w:=λd=>by simp[Op.equalIn,zU I]
     have h5:(Op.equal t .nilIface .nilIface).run P w=.ok true w:=T 9999;cases op<;>simp only[oe]at c<;>(try (cases c;done))
     ·cases c;exact m (.bool true) (H _) (by show((do pure (.bool (<-Op.equal t .nilIface .nilIface))):Sem Value).run P w=_;simp only[zx,h5,zX,yN]) (uz _)
     ·cases c;exact m (.bool false) (H _) (by show((do pure (.bool (!(<-Op.equal t .nilIface .nilIface)))):Sem Value).run P w=_;simp only[zx,h5,zX,yN];rfl) (uz _)
    ·cases c
   ·cases c
  ·simp only[rel]at n;obtain⟨u,rfl,_⟩:=n;rename_i ti R;unfold KH at c;split at c
   ·rename_i ms I;exact B false (UM (λo z=>⟨rfl,rfl⟩) rfl rfl (λd=>by simp[Op.equalIn,zU I])) _ _ rfl rfl c
   ·cases c
  ·cases c
 |iface ti R=>
  simp only[jI]at c;simp only[rel]at A;obtain⟨u,rfl,_⟩:=A;split at c
  ·simp only[rel]at n;subst n;unfold KH at c;split at c
   ·rename_i ms I;exact B false (UM (λo z=>⟨rfl,rfl⟩) rfl rfl (λd=>by simp[Op.equalIn,zU I])) _ _ rfl rfl c
   ·cases c
  ·cases c
 |int k p=>
  simp only[jI]at c;split at c
  ·rename_i k' q;simp only[rel]at A n;obtain⟨rfl,O⟩:=A;obtain⟨rfl,fb⟩:=n;have H:(eqGuard op t o z (.int k p) (.int k' q)).run P w=.ok () w:=by rw[PH];rfl
   have go:∀(c:QY op k p q=some d),YV P w0 G M ρ nid w (do eqGuard op t o z (.int k p) (.int k' q);binOp op t (.int k p) (.int k' q)) d h:=λc=>by
    obtain⟨v,h1,E⟩:=L6 (P:=P) (w:=w) (M:=M) (ρ:=ρ) (k':=k') O c t;exact m v H h1 E
   unfold lQ at c;split at c
   ·exact go c
   ·exact go c
   ·rename_i h1 E;split at c
    ·rename_i W;subst W;obtain⟨v,h3,S⟩:=FS (P:=P) (w:=w) (M:=M) (ρ:=ρ) O c ⟨h1,E⟩ t;exact m v H h3 S
    ·cases c
  ·cases c
 |str s=>
  simp only[jI]at c;split at c
  ·simp only[rel]at A n;obtain⟨ba,rfl,rfl,la⟩:=A;obtain⟨bb,rfl,rfl,lb⟩:=n;obtain⟨v,h1,E⟩:=FT (P:=P) (w:=w) (M:=M) (ρ:=ρ) c t;exact m v (by rw[PI];rfl) h1 E
  ·cases c
 |agg as=>
  simp only[jI]at c;split at c
  ·rename_i Q;simp only[rel]at A n;obtain⟨xs,rfl,L⟩:=A;obtain⟨ys,rfl,N⟩:=n;split at c
   ·rename_i ks Z;cases hr:eqK ks as Q with
    |none=>unfold KA at c;rw[hr]at c;cases op<;>simp[oe]at c
    |some r=>exact B r (Wf Z L N hr) _ _ (by rw[hr];rfl) (by rw[hr];rfl) c
   ·cases c
  ·cases c
 |ptr i k=>
  simp only[jI]at c;split at c
  ·rename_i j q;split at c
   ·rename_i F;simp only[zF]at F;have e1:=ye F.1;have e2:=ye F.2;subst e1 e2;simp only[rel]at A n;obtain⟨l,X,rfl⟩:=A;obtain⟨l',J,rfl⟩:=n;rw[X]at J;cases J;unfold BJ at c;split at c
    ·rename_i e I;split at c
     ·rename_i ji V;exact B true (UM (λo z=>⟨rfl,rfl⟩) rfl rfl (λd=>by simp[Op.equalIn,zU I,sizeOf,typeInfo,V,run_sameAddr_same])) _ _ rfl rfl c
     ·cases c
    ·cases c
   ·cases c
  ·exact other c
 |_=>exact other c
def zGl(e:Sim w0 G M ρ h w){op:UnOp}{a:Value}(c:rel M ρ x a)(b:vun op x=some d):YV P w0 G M ρ nid w (Op.unary op a) d h:=by
 unfold vun at b;split at b
 ·cases b;obtain⟨rfl,_⟩:=c;exact .pure e (by simp only[Op.unary,Op.intArith,yN]) (uM (rt _ _))
 ·cases b;subst c;exact .pure e (by simp only[Op.unary,yN]) (uz _)
 ·cases b
def Ip(o:Sim w0 G M ρ h w){x i d:D}(p:rel M ρ x vx)(y:rel M ρ i vy)(a:nn P t x i=some d):YV P w0 G M ρ nid w (Instr.index t vx vy) d h:=by
 unfold nn at a;split at a
 ·rename_i k n;obtain⟨rfl,_⟩:=y;split at a
  ·rename_i s;obtain⟨b,rfl,rfl,_⟩:=p;split at a
   ·rename_i z;split at a
    ·rename_i h0;split at a
     ·rename_i c g;cases a;have r:b[n.toNat]? =some c:=by
       have:b.data[n.toNat]? =some c:=by simpa using g
       rw[<-this];rfl
      refine .pure o (v:=.int .u8 c.toNat) ?_ (uM ?_)
      ·simp[Instr.index,asIntOf,zU z,h0,r]
      ·rw[oR];have:=c.toNat_lt;simp[IntKind.min,IntKind.max,IntKind.signed,IntKind.bits];omega
     ·cases a
    ·cases a
   ·cases a
  ·rename_i cs;obtain⟨vs,rfl,m,j⟩:=p;split at a
   ·rename_i len e u;split at a
    ·rename_i ag f;split at a
     ·rename_i g;simp only[zF,zO]at g;obtain⟨v,h1,q⟩:=dB (w:=w) f m j a;obtain⟨td,l,_⟩:=YG (w:=w) f;exact .pure o (by simp[Instr.index,asIntOf,zU (cz u),g,fG l,h1]) q
     ·cases a
    ·cases a
   ·cases a
  ·cases a
 ·cases a
def Io(i:Sim w0 G M ρ h w){f off:Nat}{ag:Bool}(l:rel M ρ (.agg cs) vx)(hf:qV P t f=some (off,u))(b:agT P u=some ag)(k:yW ag (szT P u) cs off=some d):
  YV P w0 G M ρ nid w (Instr.field t vx f) d h:=by
 obtain⟨fs,fl,j,c,rfl,rfl⟩:=XE hf;obtain⟨vs,rfl,e,a⟩:=l;obtain⟨v,h1,g⟩:=dB (w:=w) b e a k;exact .pure i (by simp[Instr.field,zU j,c,asAgg,h1]) g
def Px(g:Sim w0 G M ρ h w)(e:rel M ρ x vx)(a:l9 x i=some d):YV P w0 G M ρ nid w (Instr.extract vx i) d h:=by
 unfold l9 at a;split at a
 ·simp only[rel]at e;obtain⟨vs,rfl,c⟩:=e;obtain⟨v,h1,f⟩:=sF c i d a;have b:vs[i]? =some v:=by simpa using h1
  exact .pure g (by simp[Instr.extract,b]) f
 ·cases a
end
section
variable{P:Program}{w0:Base}{G:List Nat}{M:Imm}{ρ:Ren}{h:Heap}{w:World}{nid:Nat}
def Z0{l u:Nat}(a:rR n lo hi=some (l,u)):VA n hi=some u/\Td u lo=some l:=by grind [rR]
def UV{u:Nat}(b:VA n hi=some u){vhi:Option Value}(c:∀d,hi=some d->∃v,vhi=some v/\rel M ρ d v)(a:hi=none->vhi=none):
  (vhi=none/\u=n)\/∃k x,vhi=some (.int k x)/\0<=x/\x<=n/\u=x.toNat:=by
 cases hi with
 |none=>simp[VA]at b;exact .inl ⟨a rfl,b.symm⟩
 |some d=>
  cases d with
  |int k x=>
   grind [VA,rel]
  |_=>simp[VA]at b
def N8{l:Nat}(b:Td n lo=some l){vlo:Option Value}(c:∀d,lo=some d->∃v,vlo=some v/\rel M ρ d v)(a:lo=none->vlo=none):
  (vlo=none/\l=0)\/∃k x,vlo=some (.int k x)/\0<=x/\x<=n/\l=x.toNat:=by
 cases lo with
 |none=>simp[Td]at b;exact .inl ⟨a rfl,b.symm⟩
 |some d=>
  cases d with
  |int k x=>
   grind [Td,rel]
  |_=>simp[Td]at b
def p6{l u:Nat}(b:rR n lo hi=some (l,u)):l<=u/\u<=n:=by
 obtain⟨h1,a⟩:=Z0 b;refine⟨?_,?_⟩
 ·cases lo with
  |none=>simp[Td]at a;omega
  |some d=>
   cases d with
   |int k x=>
    grind [Td]
   |_=>simp[Td]at a
 ·cases hi with
  |none=>simp[VA]at h1;omega
  |some d=>
   cases d with
   |int k x=>
    grind [VA]
   |_=>simp[VA]at h1
def lP{n cap:Nat}{l u:Nat}(o:rR n lo hi=some (l,u))(g:n<=cap)(f:Bool){vlo vhi:Option Value}
  (e:∀d,lo=some d->∃v,vlo=some v/\rel M ρ d v) (b:lo=none->vlo=none) (c:∀d,hi=some d->∃v,vhi=some v/\rel M ρ d v) (a:hi=none->vhi=none):
  (Instr.sliceBounds f n cap vlo vhi none).run P w=.ok (l,u,cap) w:=by
 obtain⟨h1,m⟩:=Z0 o;rcases UV h1 c a with⟨rfl,rfl⟩ | ⟨k,x,rfl,h,p,rfl⟩ <;>rcases N8 m e b with⟨rfl,rfl⟩ | ⟨k',y,rfl,i,j,rfl⟩
 ·simp[Instr.sliceBounds]
 ·simp[Instr.sliceBounds,run_sliceBound w k' y _ _ i j]
 ·simp[Instr.sliceBounds,run_sliceBound w k x cap _ h ow]
 ·simp[Instr.sliceBounds,run_sliceBound w k x cap _ h ow,run_sliceBound w k' y x.toNat _ i j]
theorem Ux{b p:Nat}(c:gy M ρ sz xs b p)(l u:Nat):gy M ρ sz ((xs.take u).drop l) b (p+l*sz):=
 nF λi x a=>by
  have h1:xs[l+i]? =some x:=by
   simp only[qX,yF]at a;split at a
   ·exact a
   ·cases a
  have:=YZ c _ _ h1;rw[wD,<-wA]at this;exact this
def aJ{b m:D}{l u:Nat}(a:jv n lo b m=some (l,u)):VA n (some m)=some u/\VA u (some b)=some u/\Td u lo=some l:=by
 unfold jv at a;split at a
 ·cases a
 ·rename_i h e;split at a
  ·cases a
  ·rename_i i f;split at a
   ·rename_i c;split at a
    ·cases a
    ·rename_i g d;cases a;subst c;exact⟨e,f,d⟩
   ·cases a
def aK{a m:D}{l u:Nat}(b:jv n lo a m=some (l,u)):l<=u/\u<=n:=by
 obtain⟨h1,c,h3⟩:=aJ b;have k1:rR n lo (some m)=some (l,u):=by grind [rR]
 exact p6 k1
def fM{n cap:Nat}{o m:D}{l u:Nat}(B:jv n lo o m=some (l,u))(j:n<=cap)(h:Bool){vlo:Option Value}{vhi c:Value}
  (g:∀d,lo=some d->∃v,vlo=some v/\rel M ρ d v) (a:lo=none->vlo=none) (f:rel M ρ o vhi) (A:rel M ρ m c):
  (Instr.sliceBounds h n cap vlo (some vhi) (some c)).run P w=.ok (l,u,u) w:=by
 obtain⟨h1,t,h3⟩:=aJ B;rcases UV (M:=M) (ρ:=ρ) (vhi:=some c) h1 (λd e=>by cases e;exact⟨c,rfl,A⟩) (λe=>by cases e)with⟨e,_⟩ | ⟨k,x,e,q,F,p⟩
 ·cases e
 ·cases e;rcases UV (M:=M) (ρ:=ρ) (vhi:=some vhi) t (λd e=>by cases e;exact⟨vhi,rfl,f⟩) (λe=>by cases e)with⟨e,_⟩ | ⟨k',y,e,r,s,b⟩
  ·cases e
  ·cases e;rcases N8 h3 g a with⟨rfl,rfl⟩ | ⟨i,z,rfl,C,E,rfl⟩
   ·simp[Instr.sliceBounds,run_sliceBound w k x cap _ q ow,<-p,run_sliceBound w k' y u _ r s,<-b]
   ·simp[Instr.sliceBounds,run_sliceBound w k x cap _ q ow,<-p,run_sliceBound w k' y u _ r s,<-b,run_sliceBound w i z u _ C E]
def L4(z:Sim w0 G M ρ h w){x d I m:D}{N vhi L:Value}{vlo:Option Value}(H:rel M ρ x N)
  (n:∀d,lo=some d->∃v,vlo=some v/\rel M ρ d v) (g:lo=none->vlo=none) (k:rel M ρ I vhi) (C:rel M ρ m L)
  (a:ND P t x lo I m=some d):YV P w0 G M ρ nid w (Instr.sliceAt t N vlo (some vhi) (some L)) d h:=by
 unfold ND at a;split at a
 ·cases a
 ·rename_i e O;split at a
  ·cases a
  ·rename_i B;have r:=rG O;have A:=wG (P:=P) (w:=w) B;have i:P.underlying t=some (.slice (P.elem t)):=by rw[r];simp[Program.elem,r]
   split at a
   ·rename_i sz xs tk;split at a
    ·rename_i F;split at a
     ·rename_i l u j;cases a;obtain⟨h0,s,b,p,cap,⟨K,rfl,y⟩,f,T,R⟩:=H;have c:=fM (P:=P) (w:=w) (M:=M) (ρ:=ρ) j f true n g k C;have J:=aK j;rcases y with rfl|rfl
      case inr=>
       obtain rfl:u=0:=ow;obtain rfl:l=0:=ow;refine .pure z (v:=.slice (some ⟨b,p,K⟩) 0 0) ?_ ?_
       ·rw[run_sliceAt_slice (w:=w) t _ _ _ _ i];simp only[Instr.slice,zx,zU r,zX,c,A,yN];rfl
       ·simp only[rel];exact⟨h0,by simp,b,p,0,⟨K,rfl,.inr rfl⟩,by simp,by simp[gy],by simp⟩
      refine .pure z (v:=.slice (some ⟨b,if u=l then p else p+l*sz,none⟩) (u-l) (u-l)) ?_ ?_
      ·rw[run_sliceAt_slice (w:=w) t _ _ _ _ i];simp only[Instr.slice,zx,zU r,zX,c,A,yN]
       grind [tm]
      ·grind [rel,Ii.mk,gy,Ux]
     ·cases a
    ·cases a
   ·rename_i id sz off len;split at a
    ·rename_i F;split at a
     ·rename_i l u j;split at a
      ·rename_i Q;obtain⟨h0,s,S,cap,o,U,rfl,f,E,V⟩:=H;have c:=fM (P:=P) (w:=w) (M:=M) (ρ:=ρ) j f.1 true n g k C;refine .pure z (v:=.slice (some ⟨S.blk,o,none⟩) 0 0) ?_ ?_
       ·rw[run_sliceAt_slice (w:=w) t _ _ _ _ i];simp only[Instr.slice,zx,zU r,zX,c,A,yN]
        grind
       ·grind [rel,Ii.mk,gy]
      ·cases a
     ·cases a
    ·cases a
   ·split at a
    ·rename_i q j;cases a;subst H;obtain⟨l,u⟩:=q;have c:=fM (P:=P) (w:=w) (M:=M) (ρ:=ρ) j (zD 0) true n g k C;have y:=aK j;obtain rfl:l=0:=ow;obtain rfl:u=0:=ow;refine .pure z (v:=.slice none 0 0) ?_ (by simp only[rel]);rw[run_sliceAt_slice (w:=w) t _ _ _ _ i];simp only[Instr.slice,zx,zU r,zX,c,A,yN];rfl
    ·cases a
   ·cases a
theorem Ir(F:Sim w0 G M ρ h w){vlo vhi:Option Value}(B:rel M ρ x vx)
  (y:∀d,lo=some d->∃v,vlo=some v/\rel M ρ d v) (j:lo=none->vlo=none) (r:∀d,hi=some d->∃v,vhi=some v/\rel M ρ d v) (i:hi=none->vhi=none)
  (a:fR P t x lo hi none=some d):YV P w0 G M ρ nid w (Instr.sliceAt t vx vlo vhi none) d h:=by
 simp only[fR]at a;split at a
 ·rename_i s;split at a
  ·rename_i f;split at a
   ·rename_i l u k;cases a;simp only[rel]at B;obtain⟨b,rfl,rfl,A⟩:=B;have n:b.size=b.data.toList.length:=by rw[yQ];rfl
    rw[<-n]at k;have c:=lP (P:=P) (w:=w) (M:=M) (ρ:=ρ) k (zD _) false y j r i;have z:=p6 k;refine .pure F (v:=.string (b.extract l u)) ?_ ?_
    ·rw[run_sliceAt_string (w:=w) t _ _ _ _ f];simp only[Instr.slice,zx,zU f,zX,sC,zl,yy,c,yN]
    ·simp only[rel];refine⟨_,rfl,?_,?_⟩
     ·simp[ByteArray.data_extract,List.drop_take]
     ·simp only[tF,yR];omega
   ·cases a
  ·cases a
 ·rename_i sz xs tk;split at a
  ·rename_i e D;split at a
   ·rename_i n;split at a
    ·rename_i l u k;cases a;simp only[rel]at B;obtain⟨h0,A,b,p,cap,⟨R,rfl,z⟩,m,S,O⟩:=B;have c:=lP (P:=P) (w:=w) (M:=M) (ρ:=ρ) k m true y j r i;have H:=p6 k;have f:=rG D;have J:=wG (P:=P) (w:=w) (t:=e) ow;rcases z with rfl|rfl
     case inr=>
      obtain rfl:xs= []:=yY ow;simp only[yo]at H;obtain rfl:u=0:=ow;obtain rfl:l=0:=ow;refine .pure F (v:=.slice (some ⟨b,p,R⟩) 0 0) ?_ ?_
      ·have g:P.underlying t=some (.slice (P.elem t)):=by rw[f];simp[Program.elem,f]
       rw[run_sliceAt_slice (w:=w) t _ _ _ _ g];simp only[Instr.slice,zx,zU f,zX,c,J,yN];rfl
      ·simp only[rel];refine⟨h0,by simp,b,p,0,⟨R,rfl,.inr rfl⟩,by simp,by simp[gy],?_⟩;cases tk<;>simp[PE]
     refine .pure F (v:=.slice (some ⟨b,if cap=l then p else p+l*sz,none⟩) (u-l) (cap-l)) ?_ ?_
     ·have g:P.underlying t=some (.slice (P.elem t)):=by rw[f];simp[Program.elem,f]
      rw[run_sliceAt_slice (w:=w) t _ _ _ _ g];simp only[Instr.slice,zx,zU f,zX,c,J,yN];congr 2;split<;>simp[tm,<-n]
     ·simp only[rel];have E:((xs.take u).drop l).length=u-l:=by simp only[tF,yR];omega
      refine⟨h0,by omega,b,_,_,by rw[E];exact Ii.mk _ _ _ _,by omega,?_,?_⟩
      ·by_cases K:cap=l
       ·have:(xs.take u).drop l= []:=by apply yY;omega
        rw[this];simp[gy]
       ·rw[iq K];exact Ux S l u
      ·cases tk with
       |no=>simp only[PE]
       |own t=>simp only[PE]
       |full=>
        simp only at O;by_cases C:u=xs.length
        ·simp only[PE,C,qS,z6,tF];omega
        ·simp only[PE,C,yy]
    ·cases a
   ·cases a
  ·cases a
 ·rename_i id sz off len;split at a
  ·rename_i e D;split at a
   ·rename_i n;split at a
    ·rename_i l u k;cases a;simp only[rel]at B;obtain⟨h0,A,Q,cap,o,T,rfl,m,N,I⟩:=B;have c:=lP (P:=P) (w:=w) (M:=M) (ρ:=ρ) k m.1 true y j r i;have z:=p6 k;have f:=rG D;have J:=wG (P:=P) (w:=w) (t:=e) ow;refine .pure F (v:=.slice (some ⟨Q.blk,if cap=l then o else o+l*sz,none⟩) (u-l) (cap-l)) ?_ ?_
     ·have g:P.underlying t=some (.slice (P.elem t)):=by rw[f];simp[Program.elem,f]
      rw[run_sliceAt_slice (w:=w) t _ _ _ _ g];simp only[Instr.slice,zx,zU f,zX,c,J,yN];congr 2;split<;>simp[tm,<-n]
     ·simp only[rel];refine⟨h0,by omega,Q,cap-l,_,T,rfl,by omega,?_,?_⟩
      ·have:(cap-l)*sz+l*sz=cap*sz:=by rw[<-wD];congr 1;omega
       omega
      ·by_cases K:cap=l
       ·left;omega
       ·right;rw[iq K];rcases I with I|I
        ·omega
        ·rw[I]
    ·cases a
   ·cases a
  ·cases a
 ·split at a
  ·rename_i e D;split at a
   ·cases a
   rename_i L;split at a
   ·rename_i q k;cases a;simp only[rel]at B;subst B;have c:=lP (P:=P) (w:=w) (M:=M) (ρ:=ρ) k (zD 0) true y j r i;have z:=p6 k;have f:=rG D;obtain⟨l,u⟩:=q;obtain rfl:l=0:=ow;obtain rfl:u=0:=ow;refine .pure F (v:=.slice none 0 0) ?_ (by simp only[rel]);have g:P.underlying t=some (.slice (P.elem t)):=by rw[f];simp[Program.elem,f]
    rw[run_sliceAt_slice (w:=w) t _ _ _ _ g];have U:=wG (P:=P) (w:=w) L;simp only[Instr.slice,zx,zU f,zX,c,U,yN];rfl
   ·cases a
  ·cases a
 ·cases a
theorem sE(sz:Nat):∀(n:Nat)(cs:List D),(wR sz n cs).length=n
 |0,_=>rfl
 |n+1,cs=>by simp[wR,sE sz n]
theorem Y8(sz:Nat):∀(n:Nat)(ds:List D),wR sz n (ds.take (n*sz))=wR sz n ds
 |0,_=>rfl
 |n+1,ds=>by
  simp only[wR];rw[List.take_take,mh (by rw[qf];omega),List.drop_take,show(n+1)*sz-sz=n*sz by rw[qf];omega,Y8 sz n]
variable{M:Imm}
theorem gz{sz b:Nat} :∀(n:Nat){ds:List D}{p:Nat},ds.length=n*sz->kQ M ρ ds b p->gy M ρ sz (wR sz n ds) b p
 |0,_,_,_,_=>trivial
 |n+1,ds,p,c,h=>by
  have e:ds.length=n*sz+sz:=by rw[c,qf]
  have f:=mM h;refine⟨by simp;omega,um λi d a=> ?_,gz n (by simp;omega) (um λi d a=> ?_)⟩
  all_goals grind
def L5(hs:Sim w0 G M ρ h w){t e:TypeId}{n:Nat}{x d:D}{lo hi:Option D}{vx:Value}{vlo vhi:Option Value}(ht:Wt P t=some (n,e))(hx:rel M ρ x vx)
  (hlo:∀d,lo=some d->∃v,vlo=some v/\rel M ρ d v) (hlo':lo=none->vlo=none) (hhi:∀d,hi=some d->∃v,vhi=some v/\rel M ρ d v) (hhi':hi=none->vhi=none)
  (hv:TV P n e x lo hi h=some d):YV P w0 G M ρ nid w (Instr.sliceAt t vx vlo vhi none) d h:=by
 unfold TV at hv;split at hv
 ·rename_i hc;simp only[zF,zO]at hc;obtain⟨h0,hlim⟩:=hc;have hu:=cz ht;have hz:=wG (P:=P) (w:=w) (t:=e) ow;split at hv
  ·cases hv
  ·rename_i l u hb;have hrun:=lP (P:=P) (w:=w) (M:=M) (ρ:=ρ) hb (zD _) false hlo hlo' hhi hhi';have hsp:=p6 hb;split at hv
   ·rename_i id off;split at hv
    ·rename_i cs hi';split at hv
     ·rename_i hle;cases hv;obtain⟨lc,hl,rfl⟩:=hx;obtain⟨lc',h1,_,hM,c,ty,hw,hls,hlen,_⟩:=hs.live id _ hi';rw[hl]at h1;cases h1;refine .pure hs (v:=.slice (some ⟨lc.blk,if n=l then off else off+l*szT P e,none⟩) (u-l) (n-l)) ?_ ?_
      ·simp only[Instr.sliceAt,zx,zU hu,zX,Instr.sureAddr,yN,hrun,hz];split<;>simp[tm]
      ·simp only[rel];refine⟨h0,by omega,lc,n-l,_,hl,rfl,⟨by omega,by unfold maxLen;unfold lim at *;omega⟩,?_,?_⟩
       ·have:(n-l)*szT P e+l*szT P e=n*szT P e:=by rw[<-wD];congr 1;omega
        omega
       ·grind
     ·cases hv
    ·cases hv
   ·rename_i cs off;split at hv
    ·rename_i hle;obtain⟨b,p,rfl,hC⟩:=hx;have hg:=mM hC;have hE:gy M ρ (szT P e) (wR (szT P e) n ((cs.drop off).take (n*szT P e))) b (p+off):=by grind [gz,um]
     have hch:wR (szT P e) n ((cs.drop off).take (n*szT P e))=wR (szT P e) n (cs.drop off):=Y8 _ _ _;refine .pure hs (v:=.slice (some ⟨b,if n=l then p+off else p+off+l*szT P e,none⟩) (u-l) (n-l)) ?_ ?_
     ·simp only[Instr.sliceAt,zx,zU hu,zX,Instr.sureAddr,yN,hrun,hz];split<;>simp[tm]
     ·grind [wR,szT,sE,rel,Ii.mk,gy,Ux]
    ·cases hv
   ·cases hv
 ·cases hv
theorem MR{b:Nat}(hr:wJ M ρ ds vs)(hf:ds.all D.flat=true)(hM:∀o,M b o=none):kQ (kP M b 0 vs) ρ ds b 0:=
 um λi d a=>by
  obtain⟨v,h1,c⟩:=sF hr i d a;exact⟨zo.1 hf d (zg a),v,V3 h1,to (jP λo _=>hM o) (RLe.refl _) _ _ c⟩
theorem s9(hr:rel M ρ d v):wJ M ρ d.cells v.cells.toList:=by
 cases d<;>first
  |(simp only[rel]at hr;obtain⟨vs,rfl,h,_⟩:=hr;simpa [D.cells,Value.cells]using h;done)
  |skip
 all_goals
  have a:v.cells= #[v]:=by
   first
    |(subst hr;rfl)
    |(obtain⟨rfl,_⟩:=hr;rfl)
    |(obtain⟨_,rfl,_⟩:=hr;rfl)
    |(obtain⟨_,_,rfl⟩:=hr;rfl)
    |(obtain⟨_,_,rfl,_⟩:=hr;rfl)
    |(obtain⟨_,_,_,_,_,⟨_,rfl,_⟩,_⟩:=hr;rfl)
    |(obtain⟨_,_,_,_,_,rfl,_⟩:=hr;rfl)
    |(obtain⟨_,_,_,_,_,_,rfl,_⟩:=hr;rfl)
    |(obtain⟨_,_,_,rfl,_⟩:=hr;rfl)
  rw[a];simp only[D.cells]
  grind [wW,rel,wJ]
theorem pE(hr:rel M ρ d v)(a:d.notTuple=true):d.cells.all D.flat=true:=by
 cases d with
 |agg cs=>simp only[rel]at hr;exact(by obtain⟨_,_,_,h⟩:=hr;exact h)
 |tuple cs=>cases a
 |_=>rfl
def ZK(t:TypeId)(v:Value):(newVar t v).run P w=.ok ⟨w.heap.size,0,none⟩ (w.alloc (.cells v.cells t)):=by
 simp[newVar,newRow]
def Pu(b:Sim w0 G M ρ h w)(e:rel M ρ x v)(d:x.notTuple=true):YV P w0 G M ρ nid w (Instr.box t v) (.iptr x.cells 0) h:=by
 have c:∀o,M w.heap.size o=none:=b.none_at (zD _);have a:=b.allocImm v.cells t v.cells.size;rw[show v.cells.toList.take v.cells.size=v.cells.toList by rw[<-yQ];exact z6]at a;refine⟨.pointer (some ⟨w.heap.size,0,none⟩),_,kP M w.heap.size 0 v.cells.toList,ρ,?_,jP λo _=>c o,RLe.refl _,λ_ _=>rfl,a,?_⟩
 ·simp[Instr.box,ZK]
 ·grind [rel,MR,s9,pE]
variable{w:World}
def fy{c:Array Value}(hM:∀o,M l.blk o=none)(h:w.heap[l.blk]? =some (.cells c t (0,0)))(f:l.size=c.size)(b:ds.length<=c.size)
  (hr:wJ M ρ ds (c.toList.take ds.length)) (hf:ds.all D.flat=true):s8 M ρ w l (.row ds):=
 ⟨hM,c,t,h,f,b,λi d a=>by
  obtain⟨v,h1,g⟩:=sF hr i d a;have e:i<ds.length:=(zK.1 a).1;exact⟨zo.1 hf d (zg a),v,by simpa [yF,e]using h1,g⟩⟩
def Sim.newRow(d:Sim w0 G M ρ h w)(b:ρ nid=none){c:Array Value}(t:TypeId)(a:ds.length<=c.size)(hr:wJ M ρ ds (c.toList.take ds.length))(hf:ds.all D.flat=true):
  Sim w0 G M (nj ρ nid ⟨w.heap.size,0,c.size⟩) (h.new nid (.row ds)) (w.alloc (.cells c t)):=by
 refine d.allocObj b _ _ _ rfl (fy (l:=⟨w.heap.size,0,c.size⟩) (d.none_at (zD _)) (t:=t) (c:=c) ?_ rfl a ?_ hf)
 ·show(w.heap.push _)[w.heap.size]? =_;simp
 ·have:=rm (MLe.refl M) (tQ (l:=⟨w.heap.size,0,c.size⟩) b) _ _ hr;exact this
def jj{c:Array Value}{full:Bool}(hM:∀o,M l.blk o=none)(g:w.heap[l.blk]? =some (.cells c t (0,0)))(f:l.size=c.size)(d:ds.length<=c.size)(b:full=true->c.size=ds.length)
  (hr:wJ M ρ ds (c.toList.take ds.length)) (hf:ds.all D.flat=true):s8 M ρ w l (.trow t full ds):=by
 obtain⟨h0,c',e,h1,h,h3,i⟩:=fy hM g f d hr hf;have a:=h1;rw[g]at a;cases a;exact⟨h0,c,t,h1,h,h3,i,rfl,b⟩
def Sim.newTRow(e:Sim w0 G M ρ h w)(d:ρ nid=none){c:Array Value}(t:TypeId)(full:Bool)(b:ds.length<=c.size)(a:full=true->c.size=ds.length)(hr:wJ M ρ ds (c.toList.take ds.length))(hf:ds.all D.flat=true):
  Sim w0 G M (nj ρ nid ⟨w.heap.size,0,c.size⟩) (h.new nid (.trow t full ds)) (w.alloc (.cells c t)):=by
 refine e.allocObj d _ _ _ rfl (jj (l:=⟨w.heap.size,0,c.size⟩) (e.none_at (zD _)) (t:=t) (c:=c) ?_ rfl b a ?_ hf)
 ·show(w.heap.push _)[w.heap.size]? =_;simp
 ·have:=rm (MLe.refl M) (tQ (l:=⟨w.heap.size,0,c.size⟩) d) _ _ hr;exact this
theorem QK(k:Sim w0 G M ρ h w)(e:ρ nid=none)(f:rel M ρ x v)(l:x.notTuple=true):YV P w0 G M ρ nid w (Instr.box t v) (.ptr nid 0) (h.new nid (.trow t true x.cells)):=by
 have d:=s9 f;have j:=qI d;have a:x.cells.length=v.cells.size:=by rw[<-j];simp
 have b:=k.newTRow e t true (ds:=x.cells) (c:=v.cells) ow (λ_=>a.symm) (by rw[a,<-yQ,z6];exact d) (pE f l);refine⟨.pointer (some ⟨w.heap.size,0,none⟩),_,M,_,?_,MLe.refl _,tQ e,λi g=>by simp[nj,kx g],b,?_⟩
 ·simp[Instr.box,ZK]
 ·simp_all [rel,nj]
theorem X9(k:Sim w0 G M ρ h w)(e:ρ nid=none)(f:rel M ρ x v)(l:x.notTuple=true):YV P w0 G M ρ nid w (Instr.box t v) (.ptr nid 0) (h.new nid (.row x.cells)):=by
 have d:=s9 f;have j:=qI d;have a:x.cells.length=v.cells.size:=by rw[<-j];simp
 have b:=k.newRow e t (ds:=x.cells) (c:=v.cells) ow (by rw[a,<-yQ,z6];exact d) (pE f l);refine⟨.pointer (some ⟨w.heap.size,0,none⟩),_,M,_,?_,MLe.refl _,tQ e,λi g=>by simp[nj,kx g],b,?_⟩
 ·simp[Instr.box,ZK]
 ·simp_all [rel,nj]
end
section
variable{P:Program}{w0:Base}{G:List Nat}{M:Imm}{ρ:Ren}{h:Heap}{w:World}{nid:Nat}
def Ji(v:Value)(h:kb v=true)(a:v.oneCell'=true):(cst v).flat=true:=by
 unfold kb at h;split at h<;>(first|rfl|cases a|cases h)
theorem Nu:∀(vs:List Value),XB vs=true->vs.all (·.oneCell')=true->(D6 vs).all D.flat=true
 | [],_,_=>by simp[D6]
 |v::vs,h,a=>by
  simp only[uv,zF]at a;simp only[XB,zF]at h;simp only[D6,uv,zF];exact⟨Ji v h.1 a.1,Nu vs h.2 a.2⟩
mutual
theorem Ph:∀(v:Value),kb v=true->rel M ρ (cst v) v
 |.bool b,_=>by simp only[cst,rel]
 |.int k n,h=>by simp only[kb,qN]at h;exact uM h
 |.string s,h=>by grind [kb,cst,rel]
 |.pointer none,_=>by simp only[cst,rel]
 |.pointer (some _),h=>by simp[kb]at h
 |.slice none 0 0,_=>by simp only[cst,rel]
 |.slice none 0 (_+1),h=>by simp[kb]at h
 |.slice none (_+1) _,h=>by simp[kb]at h
 |.slice (some _) _ _,h=>by simp[kb]at h
 |.map none,_=>by simp only[cst,rel]
 |.map (some _),h=>by simp[kb]at h
 |.nilFunc,_=>by simp only[cst,rel]
 |.nilIface,_=>by simp only[cst,rel]
 |.agg cs,h=>by simp only[kb,zF]at h;exact⟨cs,rfl,Uy cs.toList h.1,Nu cs.toList h.1 h.2⟩
 |.tuple cs,h=>by simp only[kb]at h;exact⟨cs,rfl,Uy cs.toList h⟩
 |.float _ _,h=>by simp[kb]at h
 |.complex _ _ _,h=>by simp[kb]at h
 |.chan _,h=>by simp[kb]at h
 |.func _ _ _,h=>by simp[kb]at h
 |.iface _ _,h=>by simp[kb]at h
theorem Uy:∀(vs:List Value),XB vs=true->wJ M ρ (D6 vs) vs
 | [],_=>by simp only[D6,wJ]
 |v::vs,h=>by
  simp only[XB,zF]at h;exact⟨v,vs,rfl,Ph v h.1,Uy vs h.2⟩
end
def oC(a:tJ P t=some z):∃i v,P.info? t=some i/\i.zero=some v/\rel M ρ z v/\(zeroValue t).run P w=.ok v w:=by
 unfold tJ at a;cases c:P.info? t with
 |none=>rw[c]at a;cases a
 |some i=>
  rw[c]at a;simp only[sw]at a;cases b:i.zero with
  |none=>rw[b]at a;cases a
  |some v=>
   rw[b]at a;simp only at a;split at a
   ·rename_i d;cases a;exact⟨i,v,rfl,b,Ph v d,by simp[zeroValue,typeInfo,c,b]⟩
   ·cases a
theorem PW(t:TypeId)(cs:List D):ax t cs=.row cs\/ax t cs=.trow t true cs:=by
 unfold ax
 grind
def Ij(g:Sim w0 G M ρ h w)(f:ρ nid=none)(c:tJ P t=some z)(j:z.notTuple=true):YV P w0 G M ρ nid w (Instr.alloc t true (.tuple #[])) (.ptr nid 0) (h.new nid (ax t z.cells)):=by
 obtain⟨i,v,_,_,hr,a⟩:=oC (M:=M) (ρ:=ρ) (w:=w) c;obtain⟨u,d,M',e,h1,b⟩:YV P w0 G M ρ nid w (Instr.box t v) (.ptr nid 0) (h.new nid (ax t z.cells)):=by grind [PW,X9,QK]
 refine⟨u,d,M',e,?_,b⟩;rw[<-h1];simp[Instr.alloc,Instr.box,a]
def Zl(hr:rel M ρ d v)(hf:d.flat=true):v.oneCell'=true:=by
 cases d<;>simp[D.flat]at hf<;>simp only[rel]at hr<;>first
  |(subst hr;rfl)
  |(obtain⟨rfl,_⟩:=hr;rfl)
  |(obtain⟨_,rfl,_⟩:=hr;rfl)
  |(obtain⟨_,_,rfl⟩:=hr;rfl)
  |(obtain⟨_,_,rfl,_⟩:=hr;rfl)
  |(obtain⟨_,_,_,_,_,⟨_,rfl,_⟩,_⟩:=hr;rfl)
  |(obtain⟨_,_,_,_,_,rfl,_⟩:=hr;rfl)
  |(obtain⟨_,_,_,_,_,_,rfl,_⟩:=hr;rfl)
  |(obtain⟨_,_,_,rfl,_⟩:=hr;rfl)
theorem pF:∀{ds:List D}{vs:List Value},wJ M ρ ds vs->ds.all D.flat=true->∀v∈vs,v.oneCell'=true
 | [],_,h,_,v,a=>by grind [wJ]
 |d::ds,_,h,hf,v,a=>by
  obtain⟨u,c,rfl,h1,b⟩:=h;simp only[uv,zF]at hf;rcases zw.1 a with rfl|a
  ·exact Zl h1 hf.1
  ·exact pF b hf.2 v a
def fj{off:Nat}(h1:cs.all D.flat=true)(a:ds.all D.flat=true):(wo cs ds off).all D.flat=true:=by grind [wo]
theorem nH(l m:List α)(a:Nat)(b:a+m.length<=l.length)(i:Nat):
  (l.take a++m++l.drop (a+m.length))[i]? =if i<a then l[i]? else if i<a+m.length then m[i-a]? else l[i]? :=by grind
def jm{as ds:List D}{xs vs:List Value}{off:Nat}(a:wJ M ρ as xs)(b:wJ M ρ ds vs)(c:off+ds.length<=as.length):
  wJ M ρ (wo as ds off) (xs.take off++vs++xs.drop (off+vs.length)):=by grind [qI,wW,wo,nH,sF]
def Sim.setRow(k:Sim w0 G M ρ h w){cs cs':List D}(i:h.at' id=some (.row cs))(j:ρ id=some l){c c':Array Value}(g:w.heap[l.blk]? =some (.cells c t (0,0)))
  (f:c'.size=c.size) (a:cs'.length<=c'.size) (hr:wJ M ρ cs' (c'.toList.take cs'.length)) (hf:cs'.all D.flat=true):Sim w0 G M ρ (h.set id (.row cs')) (w.setRow l.blk c'):=by
 obtain⟨r,h1,_,hM,p,q,h3,m,_,_⟩:=k.live id _ i;rw[j]at h1;cases h1;rw[g]at h3;cases h3;refine k.put i j (setRow_os w _ _) (X6 w _ _) (bq w _ _) (cT w _ _) (λb n=>ni w _ _ _ n) (λo v e=>by rw[hM o]at e;cases e) ⟨_,g,λd=>by simp⟩ ?_;exact fy hM (lK w _ _ c' t (0,0) g) (by rw[m,f]) a hr hf
def Sim.setTRow(m:Sim w0 G M ρ h w){full:Bool}{cs cs':List D}(j:h.at' id=some (.trow u full cs))(k:ρ id=some l){c c':Array Value}(i:w.heap[l.blk]? =some (.cells c t (0,0)))
  (a:c'.size=c.size) (f:cs'.length<=c'.size) (g:cs'.length=cs.length) (hr:wJ M ρ cs' (c'.toList.take cs'.length)) (hf:cs'.all D.flat=true):Sim w0 G M ρ (h.set id (.trow u full cs')) (w.setRow l.blk c'):=by
 obtain⟨y,h1,_,hM,s,x,h3,n,_,_,p,q⟩:=m.live id _ j;rw[k]at h1;cases h1;rw[i]at h3;cases h3;refine m.put j k (setRow_os w _ _) (X6 w _ _) (bq w _ _) (cT w _ _) (λb r=>ni w _ _ _ r) (λo v e=>by rw[hM o]at e;cases e) ⟨_,i,λd=>by simp⟩ ?_;subst p;exact jj hM (lK w _ _ c' t (0,0) i) (by rw[n,a]) f (λe=>by rw[a,q e,g]) hr hf
def Sim.setTRow'(k:Sim w0 G M ρ h w){cs cs':List D}(i:h.at' id=some (.trow u false cs))(j:ρ id=some l){c c':Array Value}(g:w.heap[l.blk]? =some (.cells c t (0,0)))
  (f:c'.size=c.size) (a:cs'.length<=c'.size) (hr:wJ M ρ cs' (c'.toList.take cs'.length)) (hf:cs'.all D.flat=true):Sim w0 G M ρ (h.set id (.trow u false cs')) (w.setRow l.blk c'):=by
 obtain⟨x,h1,_,hM,q,r,h3,m,_,_,n,s⟩:=k.live id _ i;rw[j]at h1;cases h1;rw[g]at h3;cases h3;refine k.put i j (setRow_os w _ _) (X6 w _ _) (bq w _ _) (cT w _ _) (λb p=>ni w _ _ _ p) (λo v e=>by rw[hM o]at e;cases e) ⟨_,g,λd=>by simp⟩ ?_;subst n;exact jj hM (lK w _ _ c' t (0,0) g) (by rw[m,f]) a (λe=>by cases e) hr hf
def Sim.storeRow(r:Sim w0 G M ρ h w){id off:Nat}(o:h.at' id=some (.row cs))(p:ρ id=some l)(hr:wJ M ρ ds vs)(hf:ds.all D.flat=true)(k:off+ds.length<=cs.length):
  ∃t,(storeCells ⟨l.blk,off,none⟩ vs).run P w=.ok () t/\Sim w0 G M ρ (h.set id (.row (wo cs ds off))) t:=by
 obtain⟨y,h1,_,hM,c,e,s,v,q,a⟩:=r.live id _ o;rw[p]at h1;cases h1;have x:=qI hr;have b:=pF hr hf;have n:=sV P l.blk off e vs 0 c w s ow b;refine⟨w.setRow l.blk (c.toList.take off++vs++c.toList.drop (off+vs.length)).toArray,n,?_⟩;have f:wJ M ρ cs (c.toList.take cs.length):=by grind [wW]
 have m:(wo cs ds off).length=cs.length:=by simp[wo];omega
 have j:(c.toList.take off++vs++c.toList.drop (off+vs.length)).length=c.size:=by simp;omega
 refine r.setRow o p s (by simpa using j) (by rw[m];simp only[qy];omega) ?_ (fj (zo.2 λd u=>by
  obtain⟨i,g⟩:=yw.1 u;exact(a i d g).1) hf)
 have:=jm f hr k
 grind [wW,sF,nH]
theorem It(O:Sim w0 G M ρ h w){a x:D}(N:rel M ρ a vy)(T:rel M ρ x vx)(q:yX P t a x h=some h'):
  ∃U,(Instr.storeAt t vy vx).run P w=.ok () U/\Sim w0 G M ρ h' U:=by
 unfold yX at q;split at q
 ·rename_i id off;split at q
  ·rename_i cs H;split at q
   ·rename_i F;simp only[zF,zO]at F;obtain⟨⟨⟨B,E⟩,z⟩,k⟩:=F;cases q;simp only[rel]at N;obtain⟨l,I,rfl⟩:=N;obtain⟨W,h1,_,hM,c,e,L,R,J,b⟩:=O.live id _ H;rw[I]at h1;cases h1;have j:=s9 T;have A:=qI j;have C:vx.cells.size=x.cells.length:=by rw[<-A];simp
    have m:=pF j k;have o:=sV P l.blk off e vx.cells.toList 0 c w L (by simp;omega) m;rw[uB]at o;refine⟨w.setRow l.blk (c.toList.take off++vx.cells.toList++c.toList.drop (off+vx.cells.toList.length)).toArray,?_,?_⟩
    ·have p:(sizeOf t).run P w=.ok vx.cells.size w:=by
      rw[C,E];cases K:P.info? t with
      |some i=>exact run_sizeOf _ K
      |none=>
       exfalso;have h0:szT P t=0:=by simp[szT,Program.cellsOf,K]
       exact B h0
     simp only[Instr.storeAt,Instr.sureAddr,storeVar,zx,yN,zX,p,ne_eq,not_true_eq_false,yy];exact o
    ·have n:wJ M ρ cs (c.toList.take cs.length):=wW (by simp;omega) λi d v h1 r=>by
      obtain⟨_,u,e1,e2⟩:=b i d h1;have f:i<cs.length:=(zK.1 h1).1;rw[yF,ip f]at r
      have:some v=some u:=by rw[<-r,<-e1];simp
      cases this;exact e2
     have g:(wo cs x.cells off).length=cs.length:=by simp[wo];omega
     have y:(c.toList.take off++vx.cells.toList++c.toList.drop (off+vx.cells.toList.length)).length=c.size:=by simp;omega
     refine O.setRow H I L (by simpa using y) (by rw[g];simp only[qy];omega) ?_ (fj (zo.2 λd Q=>by
      obtain⟨i,s⟩:=yw.1 Q;exact(b i d s).1) k)
     rw[g];have:=jm n j z;refine wW (by simp;omega) λi d v h1 r=> ?_;have f:i<cs.length:=by rw[<-g];exact(zK.1 h1).1
     obtain⟨u,e1,e2⟩:=sF this i d h1
     have:some v=some u:=by
      rw[<-r,<-e1,yF,ip f,nH _ _ _ (by simp;omega),nH _ _ _ (by simp;omega),yF,ip f]
     cases this;exact e2
   ·cases q
  ·rename_i u full cs H;split at q
   ·rename_i F;simp only[zF,zO]at F;obtain⟨⟨⟨B,E⟩,z⟩,k⟩:=F;cases q;simp only[rel]at N;obtain⟨l,I,rfl⟩:=N;obtain⟨W,h1,_,hM,c,e,L,R,J,b,V,S⟩:=O.live id _ H;rw[I]at h1;cases h1;have j:=s9 T;have A:=qI j;have C:vx.cells.size=x.cells.length:=by rw[<-A];simp
    have m:=pF j k;have o:=sV P l.blk off e vx.cells.toList 0 c w L (by simp;omega) m;rw[uB]at o;refine⟨w.setRow l.blk (c.toList.take off++vx.cells.toList++c.toList.drop (off+vx.cells.toList.length)).toArray,?_,?_⟩
    ·have p:(sizeOf t).run P w=.ok vx.cells.size w:=by
      rw[C,E];cases K:P.info? t with
      |some i=>exact run_sizeOf _ K
      |none=>
       exfalso;have h0:szT P t=0:=by simp[szT,Program.cellsOf,K]
       exact B h0
     simp only[Instr.storeAt,Instr.sureAddr,storeVar,zx,yN,zX,p,ne_eq,not_true_eq_false,yy];exact o
    ·have n:wJ M ρ cs (c.toList.take cs.length):=wW (by simp;omega) λi d v h1 r=>by
      obtain⟨_,u,e1,e2⟩:=b i d h1;have f:i<cs.length:=(zK.1 h1).1;rw[yF,ip f]at r
      have:some v=some u:=by rw[<-r,<-e1];simp
      cases this;exact e2
     have g:(wo cs x.cells off).length=cs.length:=by simp[wo];omega
     have y:(c.toList.take off++vx.cells.toList++c.toList.drop (off+vx.cells.toList.length)).length=c.size:=by simp;omega
     refine O.setTRow H I L (by simpa using y) (by rw[g];simp only[qy];omega) g ?_ (fj (zo.2 λd Q=>by
      obtain⟨i,s⟩:=yw.1 Q;exact(b i d s).1) k)
     rw[g];have:=jm n j z;refine wW (by simp;omega) λi d v h1 r=> ?_;have f:i<cs.length:=by rw[<-g];exact(zK.1 h1).1
     obtain⟨u,e1,e2⟩:=sF this i d h1
     have:some v=some u:=by
      rw[<-r,<-e1,yF,ip f,nH _ _ _ (by simp;omega),nH _ _ _ (by simp;omega),yF,ip f]
     cases this;exact e2
   ·cases q
  ·cases q
 ·cases q
end
section
variable{P:Program}{w0:Base}{G:List Nat}{M:Imm}{ρ:Ren}{h:Heap}{w:World}{nid:Nat}
theorem X5:∀(fs:List Field)(a:List (Nat×Nat)),Xo P fs=some a->(fs.mapM (m:=Sem) λf=>do pure (f.offset,<-sizeOf f.type)).run P w=.ok a w
 | [],a,h=>by simp[Xo]at h;subst h;rfl
 |f::fs,a,h=>by
  simp only[Xo]at h;split at h
  ·cases h
  ·rename_i d;simp only[zh]at h;obtain⟨c,b,rfl⟩:=h;have e:=X5 fs c b
   simp_all [List.mapM_cons,wG]
def Ig(off:Nat)(vs:Array Value)(cells:Array Value)(b:off+vs.size<=cells.size):
  (vs.zipIdx.foldl (λcs (x:Value×Nat)=>cs.setIfInBounds (off+x.2) x.1) cells).toList=cells.toList.take off++vs.toList++cells.toList.drop (off+vs.toList.length):=by
 obtain⟨h1,a⟩:=Go.Great.foldl_set off vs.toList 0 cells;rw[<-Array.foldl_toList,Array.toList_zipIdx];apply sT
 grind
theorem YM(place:Nat->Option (Nat×Nat))(ev:Operand->D)(b:Operand->Value):∀(l:List (Nat×Operand))(cs cs':List D)(cells:Array Value),(∀p∈l,rel M ρ (ev p.2) (b p.2))->wJ M ρ cs cells.toList->cs.all D.flat=true->
  ur place cs (l.map λp=>(p.1,ev p.2))=some cs'->∃a,Instr.fill place cells (l.map λp=>(p.1,b p.2))=some a/\(wJ M ρ cs' a.toList/\cs'.all D.flat=true)/\a.size=cells.size
 | [],cs,cs',cells,_,hr,hf,c=>by simp only[nT,ur,uD]at c;subst c;exact⟨cells,rfl,⟨hr,hf⟩,rfl⟩
 |p::l,cs,cs',cells,f,hr,hf,c=>by
  simp only[qm,ur]at c;split at c
  ·cases c
  ·rename_i off size g;split at c
   ·rename_i i;simp only[zF,zO]at i;obtain⟨⟨h0,h1⟩,o⟩:=i;have j:=s9 (f p (by simp));have k:=qI j;have e:=qI hr;have h:(b p.2).cells.size=size:=by grind
    have n:cells.size=cs.length:=by rw[<-e];simp
    have d:=Ig off (b p.2).cells cells ow;obtain⟨a,e1,e2,e3⟩:=YM place ev b l _ cs' ((b p.2).cells.zipIdx.foldl (λcs (x:Value×Nat)=>cs.setIfInBounds (off+x.2) x.1) cells) (λq m=>f q (by simp[m])) (by
     rw[d];exact jm hr j ow) (fj hf (pE (f p (by simp)) h0)) c
    refine⟨a,?_,e2,?_⟩
    ·simp only[qm,Instr.fill,g,h]
     grind
    ·rw[e3,<-yQ,d];simp;omega
   ·cases c
def Il(y:Sim w0 G M ρ h w){parts:Array (Nat×Operand)}(ev:Operand->D)(g:Operand->Value)(x:∀p∈parts.toList,rel M ρ (ev p.2) (g p.2))
  (b:qd P t (parts.toList.map λp=>(p.1,ev p.2))=some d):YV P w0 G M ρ nid w (Instr.build t (parts.map λp=>(p.1,g p.2))) d h:=by
 unfold qd at b;split at b
 ·cases b
 ·rename_i z E;split at b
  ·cases b
  rename_i q;simp only[Bool.not_eq_true,Bool.not_eq_false']at q;obtain⟨i,A,H,F,k,c⟩:=oC (P:=P) (M:=M) (ρ:=ρ) (w:=w) E;have l:=s9 k;have o:=pE k q;split at b
  ·rename_i u j;simp only[zh]at b;obtain⟨cs',hf,rfl⟩:=b;unfold rh at j;split at j
   ·rename_i fs C;obtain⟨a,e1,e2,_⟩:=YM (λ(i:Nat)=>u[i]?) ev g parts.toList _ _ A.cells x l o hf;refine .pure y (v:=.agg a) ?_ (by simp only[rel];exact⟨_,rfl,e2⟩);have s:(fs.mapM (m:=Sem) λf=>do pure (f.offset,<-sizeOf f.type)).run P w=.ok u.toArray w:=by
     have:=X5 (P:=P) (w:=w) fs.toList u j;rw[show fs=fs.toList.toArray by simp,List.mapM_toArray]
     simp_all
    simp only[Instr.build,zx,c,zX,zU C,s,ua]
    simp_all
   ·cases j
  ·split at b
   ·rename_i n e B;split at b
    ·cases b
    ·rename_i r;simp only[zh]at b;obtain⟨cs',hf,rfl⟩:=b;obtain⟨a,e1,e2,_⟩:=YM _ ev g parts.toList _ _ A.cells x l o hf;refine .pure y (v:=.agg a) ?_ (by simp only[rel];exact⟨_,rfl,e2⟩);simp only[Instr.build,zx,c,zX,zU (cz B),wG (P:=P) (w:=w) r,ua,e1];rfl
   ·cases b
theorem ab(sz:Nat):∀(n:Nat)(cs:List D)(i:Nat),i<n->(wR sz n cs)[i]? =some ((cs.drop (i*sz)).take sz)
 |0,_,_,h=>by omega
 |n+1,cs,0,_=>by simp[wR]
 |n+1,cs,i+1,h=>by
  simp only[wR,we];rw[ab sz n _ i ow,uN,wD,ov,gQ sz]
theorem Xy{sz n b:Nat}(hr:wJ M ρ cs vs)(hf:cs.all D.flat=true)(hM:∀o,M b o=none)(k:cs.length=n*sz):gy (kP M b 0 vs) ρ sz (wR sz n cs) b 0:=
 nF λi x c=>by
  have e:i<n:=by rw[<-sE sz n cs];exact(zK.1 c).1
  rw[ab sz n cs i e]at c;cases c;have h:i*sz+sz<=n*sz:=by rw[<-qf];exact yv _ e
  refine⟨by simp;omega,um λj d a=> ?_⟩;have g:=MR hr hf hM;simp only[yF,qX]at a;split at a
  ·obtain⟨h0,v,h1,f⟩:=mM g _ d a;exact⟨h0,v,by rw[<-h1];congr 1;omega,f⟩
  ·cases a
theorem nb(z:List α):∀(n i:Nat),i<n*z.length->(List.replicate n z).flatten[i]? =z[i%z.length]?
 |0,i,h=>by simp at h
 |n+1,i,h=>by
  rw[tX,yS];by_cases b:i<z.length
  ·rw[yg b,Nat.mod_eq_of_lt b]
  ·rw[yT ow,nb z n (i-z.length) (by rw[wD,ov]at h;omega),Nat.mod_eq_sub_mod (a:=i) ow]
theorem uG(z:List α):∀n:Nat,(List.replicate n z).flatten.length=n*z.length
 |0=>by simp
 |n+1=>by rw[tX,yS,zR,uG z n,wD,ov,gQ]
def kp{z:List D}(hf:z.all D.flat=true)(n:Nat):(lV n z).all D.flat=true:=
 zo.2 λd b=>by
  obtain⟨l,h1,a⟩:=List.mem_flatten.1 b;rw[(List.mem_replicate.1 h1).2]at a;exact zo.1 hf d a
def bl{z : List D}{zc : Array Value}(hr : wJ M ρ z zc.toList)(n : Nat) : wJ M ρ (lV n z) ((Array.range (n * z.length)).map (zc[· % zc.size]!)).toList := by
  have hl := qI hr;have hl' : zc.size = z.length := by rw [<- hl]; simp
  refine wW (by simp [lV]) λi d v hd hv => ?_;have hi : i < n * z.length := by
    have := (zK.1 hd).1
    rwa [lV, uG]at this
  have hz0 : 0 < z.length := by rcases lm z.length with h0 | h0; · rw [h0]at hi; simp at hi
                                · exact h0
  rw [lV, nb z n i hi]at hd;obtain ⟨u, h1, h2⟩ := sF hr _ d hd
  have : u = v := by
    simp only [ua, zj, Array.toList_range]at hv;rw [me hi]at hv;simp only [wB, uD]at hv;rw [<- hv, hl'];have hm : i % z.length < zc.size := by rw [hl']; exact aX _ hz0
    have h1' : zc[i % z.length]? = some u := by simpa using h1
    rw [Array.getElem!_eq_getD, uO, h1']; rfl
  rw [<- this]; exact h2
def Sim.newImmRow(a:Sim w0 G M ρ h w){cells:Array Value}(e:TypeId)(h0:0<sz)(f:n<=lim)(c:cs.length=n*sz)(hr:wJ M ρ cs cells.toList)(hf:cs.all D.flat=true):
  MLe M (kP M w.heap.size 0 cells.toList)/\Sim w0 G (kP M w.heap.size 0 cells.toList) ρ h (w.alloc (.cells cells e))/\
   rel (kP M w.heap.size 0 cells.toList) ρ (.sl sz (wR sz n cs) .full) (.slice (some ⟨w.heap.size,0,none⟩) n n):=by
 have d:∀o,M w.heap.size o=none:=a.none_at (zD _);have b:=a.allocImm cells e cells.size;rw[show cells.toList.take cells.size=cells.toList by rw[<-yQ];exact z6]at b
 grind [jP,rel,sE,Ii.mk,Xy]
def Wh(N:Sim w0 G M ρ h w)(L:ρ nid=none){mu:Bool}{parts:Array (Nat×Operand)}(ev:Operand->D)(l:Operand->Value)(R:∀p∈parts.toList,rel M ρ (ev p.2) (l p.2))
  (b:yB P mu nid t n (parts.toList.map λp=>(p.1,ev p.2)) h=some (d,h')):YV P w0 G M ρ nid w (Instr.buildSlice t n (parts.map λp=>(p.1,l p.2))) d h':=by
 unfold yB at b;split at b
 ·cases b
 ·rename_i e Q;split at b
  ·cases b
  ·rename_i z S;obtain⟨i,O,J,T,B,q⟩:=oC (P:=P) (M:=M) (ρ:=ρ) (w:=w) S;have C:=s9 B;simp only at b;split at b
   ·rename_i I;simp only[zF,zO]at I;obtain⟨⟨⟨H,F⟩,k⟩,K⟩:=I;have E:=pE B H;split at b
    ·cases b
    ·rename_i cs hf;have g:=bl C n;rw[F]at g;obtain⟨a,e1,⟨e2,s⟩,e3⟩:=YM _ ev l parts.toList _ _ ((Array.range (n*szT P e)).map (O.cells[· %O.cells.size]!)) R g (kp E n) hf;have j:a.size=n*szT P e:=by rw[e3];simp
     have x:cs.length=n*szT P e:=by rw[<-j,<-qI e2];simp
     have A:(Instr.buildSlice t n (parts.map λp=>(p.1,l p.2))).run P w=.ok (.slice (some ⟨w.heap.size,0,none⟩) n n) (w.alloc (.cells a e)):=by
      have v:¬(n*szT P e>2^24):=ow;unfold Instr.buildSlice;simp only[zx,zU (rG Q),zX,wG (P:=P) (w:=w) (t:=e) ow,v,yy,yN,ua];by_cases o:n*szT P e=0
      ·have u:∀f:Nat->Value,(Array.range 0).map f= #[]:=λf=>by simp
       have r:=e1;rw[o,u]at r;simp only[o,qS,yN,zx,zX,u,r];simp[newRow]
      ·simp only[o,yy,zx,q,zX,yN,e1];simp[newRow]
     have m:n<=lim:=by unfold lim;have:n*1<=n*szT P e:=mi _ k;omega
     split at b
     ·cases b;have y:=N.newRow L e (ds:=cs) (c:=a) ow (by rw[x,<-j,<-yQ,z6];exact e2) s;refine⟨_,_,M,_,A,MLe.refl _,tQ L,λi J=>by simp[nj,kx J],y,?_⟩;exact⟨k,m,_,n,0,by simp[nj];rfl,rfl,⟨zD _,by unfold maxLen;unfold lim at m;omega⟩,by simp[j],.inr rfl⟩
     ·cases b;obtain⟨U,V,W⟩:=N.newImmRow e k m x e2 s
      grind [RLe.refl,rel,yB,YV]
   ·cases b
end
section
variable{P:Program}{w0:Base}{G:List Nat}{M:Imm}{ρ:Ren}{h:Heap}{w:World}{nid:Nat}
theorem Xw{xs ys:List D}{b p:Nat}(f:kQ M ρ xs b p)(g:kQ M ρ ys b (p+xs.length)):kQ M ρ (xs++ys) b p:=
 um λi d a=>by
  by_cases e:i<xs.length
  ·rw[yg e]at a;exact mM f i d a
  ·rw[yT ow]at a;obtain⟨h0,v,h1,c⟩:=mM g _ d a;exact⟨h0,v,by rw[<-h1];congr 1;omega,c⟩
theorem l7:∀{xs:List (List D)}{b p:Nat},gy M ρ sz xs b p->kQ M ρ xs.flatten b p/\xs.flatten.length=xs.length*sz
 | [],_,_,_=>by simp[kQ]
 |x::xs,b,p,h=>by
  obtain⟨h1,a,h3⟩:=h;obtain⟨c,d⟩:=l7 h3
  grind [Xw]
def Ho(w w1:World):Prop:=∀b o v,w.cell? ⟨b,o,none⟩ =some v->w1.cell? ⟨b,o,none⟩ =some v
def LZ(w:World):Ho w w:=λ_ _ _ h=>h
def fq(w:World):Ho w w.drew:=λ_ _ _ h=>h
def Els(P:Program)(M:Imm)(ρ:Ren)(w:World)(sz:Nat)(ys:List D)(m:Nat)(vs:List Value)(vx:Value):Prop:=
 ys.length=m*sz/\m<=lim/\wJ M ρ ys vs/\ys.all D.flat=true/\∀w1,Ho w w1->(Builtin.lenOf vx).run P w1=.ok m w1/\(Builtin.firstCells sz m vx).run P w1=.ok vs.toArray w1
def V1.firstCells{b p off n:Nat}(d:V1 M ρ w cs b p)(f:off+n<=cs.length):∃vs,wJ M ρ ((cs.drop off).take n) vs/\((cs.drop off).take n).all D.flat=true/\vs.length=n/\∀a,Ho w a->(Go.loadCells ⟨b,p+off,none⟩ n).run P a=.ok vs.toArray a:=by
 obtain⟨vs,h1,_,h3,c,h5⟩:=d.loadCells (P:=P) f;refine⟨vs,h3,c,h1,λa e=> ?_⟩;have:=run_loadCells_list (P:=P) a ⟨b,p+off,none⟩ vs (λj v g=>by rw[tm];exact e _ _ _ (h5 j v g))
 grind
def AM(J:Sim w0 G M ρ h w)(h0:0<sz)(u:rel M ρ x vx){ys:List D}(a:QU sz x h=some ys):∃m vs,Els P M ρ w sz ys m vs vx:=by
 unfold QU at a;split at a
 ·rename_i s xs tk;split at a
  ·rename_i f;subst f;cases a;obtain⟨_,e,b,p,cap,⟨T,rfl,E⟩,A,N,_⟩:=u;obtain⟨L,k⟩:=l7 N;rcases E with rfl|rfl
   case inr=>
    obtain rfl:xs= []:=yY ow;exact⟨0,[],by simp,by simp,by simp[wJ],rfl,λj _=>⟨rfl,by simp[Builtin.firstCells,Go.loadCells,loadCellsFrom]⟩⟩
   obtain⟨vs,q,r,y,z⟩:=(J.holds L).firstCells (P:=P) (off:=0) (n:=xs.length*s) ow;have R:(xs.flatten.drop 0).take (xs.length*s)=xs.flatten:=by grind
   rw[R]at q r;exact⟨xs.length,vs,k,e,q,r,λj B=>⟨rfl,by simpa [Builtin.firstCells]using z j B⟩⟩
  ·cases a
 ·rename_i id s off n;split at a
  ·rename_i f;subst f;split at a
   ·rename_i cs O;split at a
    ·rename_i C;cases a;obtain⟨_,e,l,cap,o,Q,rfl,H,_,S⟩:=u;obtain⟨vs,q,r,y,z⟩:=(J.row O Q).firstCells (P:=P) C;refine⟨n,vs,by simp;omega,e,q,r,λj B=>⟨rfl,?_⟩⟩;rcases lm n with I|I
     ·subst I;simp at y;subst y;simp[Builtin.firstCells,Go.loadCells,loadCellsFrom]
     ·obtain rfl:o=off:=ow;have:=z j B;simpa [Builtin.firstCells]using this
    ·cases a
   ·cases a
  ·cases a
 ·cases a;subst u;exact⟨0,[],by simp,by simp,by simp[wJ],rfl,λj _=>⟨rfl,rfl⟩⟩
 ·rename_i s;split at a
  ·rename_i f;subst f;cases a;obtain⟨b,rfl,rfl,e⟩:=u;have g:b.size=b.data.toList.length:=by rw[yQ];rfl
   refine⟨b.size,b.data.toList.map λc=>.int .u8 c.toNat,by rw[zG,ww,g],by omega,wW (by rw[zG,zG]) λi d v t a=> ?_,?_,λj _=>⟨rfl,?_⟩⟩
   ·simp only[zj,zh]at t a;obtain⟨c,K,rfl⟩:=t;obtain⟨c',F,rfl⟩:=a;rw[K]at F;cases F;refine uM ?_;rw[oR];have:=c.toNat_lt;simp[IntKind.min,IntKind.max,IntKind.signed,IntKind.bits];omega
   ·exact zo.2 λd t=>by
     obtain⟨c,_,rfl⟩:=zM.1 t;rfl
   ·simp only[Builtin.firstCells,yN];congr 1
    have:b.extract 0 b.size=b:=by simp[ByteArray.extract_zero_size]
    grind
  ·cases a
 ·cases a
def Hb{e:TypeId}(a:ZW P e=true):∃i v,P.info? e=some i/\i.size=szT P e/\i.bytes=uE P e/\i.zero=some v/\v.cells.size=szT P e/\szT P e≠0:=by
 unfold ZW at a;split at a
 ·rename_i z c;simp only[zF,qN,fX,ne_eq]at a;obtain⟨i,v,b,d,hr,_⟩:=oC (P:=P) (M:=λ_ _=>none) (ρ:=λ_=>none) (w:=default) c;refine⟨i,v,b,by simp[szT,Program.cellsOf,b],by simp[uE,Program.bytesOf,b],d,?_,a.2⟩;have:=qI (s9 hr)
  grind
 ·cases a
def oU(t u ty e:TypeId)(g:P.underlying t=some (.slice e)){j:TypeDesc}(h:P.underlying u=some j)(o:∀k,j≠ .int k)(i:szT P e≠0)(base:Option Addr)(n cap m:Nat)(d:Value)(vs:List Value)
  (f:(Builtin.lenOf d).run P w=.ok m w) (hf:(Builtin.firstCells (szT P e) m d).run P w=.ok vs.toArray w) (c:n+m<=cap) (l:World)
  (b:(match base with|some a=>storeCells (a.add (n*szT P e)) vs|none=>pure ()).run P w=.ok () l):
  (Builtin.append_ #[t,u] ty #[.slice base n cap,d]).run P w=.ok (.slice base (n+m) cap) l:=by
 cases base with
 |none=>
  simp only[yN]at b;cases b;simp[Builtin.append_,zU g,zU h,wG i,f,hf,c]
 |some a=>
  simp only at b;simp[Builtin.append_,zU g,zU h,wG i,f,hf,c,b]
def We(t u ty e:TypeId)(v:P.underlying t=some (.slice e)){l:TypeDesc}(x:P.underlying u=some l)(y:∀k,l≠ .int k){i:TypeInfo}{z:Value}(f:P.info? e=some i)(A:i.zero=some z)(base:Option Addr)(n cap m:Nat)(h:Value)(a vs:List Value)
  (q:(Builtin.lenOf h).run P w=.ok m w) (hf:(Builtin.firstCells i.size m h).run P w.drew=.ok vs.toArray w.drew) (s:(Builtin.firstCells i.size n (.slice base n cap)).run P w.drew=.ok a.toArray w.drew)
  (p:cap<n+m) (d:n+m<=lim) (o:(n+m)*i.bytes<=lim):
  (Builtin.append_ #[t,u] ty #[.slice base n cap,h]).run P w=.ok (.slice (some ⟨w.heap.size,0,none⟩) (n+m) (grownCap w (n+m) cap e))
   (w.drew.alloc (.cells (a.toArray++vs.toArray++Builtin.zeroCells z.cells (grownCap w (n+m) cap e- (n+m))) e)):=by
 have r:¬(n+m<=cap):=ow;have c:¬(9223372036854775807<((n:Int)+(m:Int))):=by unfold lim at d;omega
 have j:=growslice_fits (need:=n+m) (old:=cap) (bytes:=i.bytes) p o;have b:¬(281474976710656<Builtin.nextslicecap (n+m) cap*i.bytes):=ow;have g:(sizeOf e).run P w=.ok i.size w:=by rw[run_sizeOf _ f];simp[Program.cellsOf,f]
 simp[Builtin.append_,zU v,zU x,g,typeInfo,zeroValue,f,A,q,r,c,b,Question.forced,hf,s,newRow,grownCap];congr 2;apply sS;simp[qh]
def Sim.addObj(b:Sim w0 G M ρ h w)(s:ρ nid=none)(l:Loc)(o:Obj)(z:¬w0.keep l.blk)(t:∀i a d,h.at' i=some a->ρ i=some d->d.blk≠l.blk)(A:s8 M (nj ρ nid l) w l o):
  Sim w0 G M (nj ρ nid l) (h.new nid o) w:=by
 have c:=tQ (l:=l) s;refine { below:=b.below,imm:=b.imm,live:=λi a e=> ?_,apart:=λi j x y u v f g p q m=> ?_,gdef:=b.gdef,old:=b.old }
 ·simp only[Heap.new]at e;split at e
  ·grind [nj]
  ·obtain⟨d,h1,r,h3⟩:=b.live i a e;exact⟨d,c _ _ h1,r,rg (MLe.refl _) c (λ_ h=>h) h3⟩
 ·simp only[Heap.new]at f g;by_cases k:i=nid<;>by_cases n:j=nid
  ·rw[k,n]
  ·grind [nj]
  ·grind [nj]
  ·simp only[k,yy]at f;simp only[n,yy]at g;simp only[nj,k,yy]at p;simp only[nj,n,yy]at q;exact b.apart i j x y u v f g p q m
def Sim.old_blk(c:Sim w0 G M ρ h w)(a:h.at' i=some ob)(b:ρ i=some l):l.blk<w.heap.size:=by
 obtain⟨d,h1,_,h3⟩:=c.live i ob a;rw[b]at h1;cases h1;exact lC h3
def tH{as a:List D}{xs ys:List Value}(b:wJ M ρ as xs)(c:wJ M ρ a ys):wJ M ρ (as++a) (xs++ys):=by grind [qI,wW,sF]
theorem mK(sz:Nat):∀(xs:List (List D))(ys:List D)(m:Nat),(∀x∈xs,x.length=sz)->wR sz (xs.length+m) (xs.flatten++ys)=xs++wR sz m ys
 | [],ys,m,_=>by simp
 |x::xs,ys,m,h=>by
  have b:=h x (by simp);rw[zm,show xs.length+1+m=(xs.length+m)+1 by omega];simp only[wR,yS,qh,yE];rw[wQ ow,yV ow,nv ow,th ow,yc,mK sz xs ys m λy a=>h y (by simp[a])]
def QB{b p:Nat}(a:gy M ρ sz xs b p):∀x∈xs,x.length=sz:=λx d=>by
 obtain⟨i,c⟩:=yw.1 d;exact(YZ a i x c).1
def Sim.growTok(b:Sim w0 G M ρ h w)(g:ρ nid=none){ys:List D}(c:Array Value)(e:TypeId){sz n cap:Nat}(h0:0<sz)(k:ys.length=n*sz)(hr:wJ M ρ ys vs)(hf:ys.all D.flat=true)
  (m:c.toList.take vs.length=vs) (p:c.size=cap*sz) (j:n<=cap) (a:n<=lim) (f:0<cap):
  ∃M' d,MLe M M'/\RLe ρ d/\(∀i,i≠nid->d i=ρ i)/\Sim w0 G M' d (h.new nid .tok) (w.alloc (.cells c e))/\rel M' d (.sl sz (wR sz n ys) (.own nid)) (.slice (some ⟨w.heap.size,0,none⟩) n cap):=by
 have l:∀o,M w.heap.size o=none:=b.none_at (zD _);have h1:=b.allocImm c e vs.length;rw[m]at h1;have s:vs.length=n*sz:=by rw[qI hr,k]
 have r:n*sz<=cap*sz:=by grind
 refine⟨kP M w.heap.size 0 vs,nj ρ nid ⟨w.heap.size,n*sz,c.size⟩,jP λo _=>l o,tQ g,λi q=>by simp[nj,q],?_,?_⟩
 ·refine h1.addObj g _ .tok (b.nokeep (zD _)) (λi t v e1 e2=> ?_) ⟨λo u=> ?_,by simp;omega,c,e,?_,rfl⟩
  ·have:=b.old_blk e1 e2;simp;omega
  ·grind [kP]
  ·show(w.heap.push _)[w.heap.size]? =_;simp
 ·simp only[rel,sE];exact⟨h0,a,w.heap.size,0,cap,Ii.mk _ _ _ _,j,Xz (MLe.refl _) (tQ g) _ _ _ _ (Xy hr hf l k),_,by simp[nj];rfl,rfl,by simp,by simp;omega,f⟩
def Sim.behind(a:Sim w0 G M ρ h w)(D:h.at' i=some .tok)(E:ρ i=some l){c:Array Value}{e:TypeId}(A:w.heap[l.blk]? =some (.cells c e (0,0)))(r:l.endd+vs.length<=c.size)(c':Array Value)
  (x:c'.toList=c.toList.take l.endd++vs++c.toList.drop (l.endd+vs.length)):MLe M (kP M l.blk l.endd vs)/\Sim w0 G (kP M l.blk l.endd vs) ρ (h.del i) (w.setRow l.blk c'):=by
 obtain⟨S,h1,J,hM,C,O,P,h3,Q⟩:=a.live i _ D;rw[E]at h1;cases h1;have s:MLe M (kP M l.blk l.endd vs):=jP λo F=>hM o F;have g:∀o:Nat,(w.setRow l.blk c').cell? ⟨l.blk,o,none⟩ =c'.toList[o]? :=λo=>by
  rw[cell_setRow_same w l.blk o c c' e (0,0) A];simp
 have z:∀j n m,(h.del i).at' j=some n->ρ j=some m->m.blk≠l.blk:=λj n m e1 e2 f=>by
  simp only[Heap.del]at e1;split at e1
  ·cases e1
  ·rename_i K;exact K (a.apart j i n .tok m l e1 D e2 E f)
 have B:=a.del i;refine⟨s,{ below:= ?_,imm:=λb o v d=> ?_,live:=λj n d=> ?_,apart:=B.apart,gdef:=λb f=> ?_,old:=Xl a.old J }⟩
 ·exact⟨a.below.os,a.below.tape,a.below.output,by rw[cT];exact a.below.size,λk L=>by
   have t:k≠l.blk:=by grind
   rw[ni w _ _ _ t];exact a.below.block k L,a.below.drawn⟩
 ·unfold kP at d;split at d
  ·grind
  ·rename_i R;by_cases q:b=l.blk
   ·subst q;have I:o<l.endd:=by grind
    rw[g,x,nH _ _ _ (by simpa using r),ip I];have:=a.imm _ _ _ d;simp only[World.cell?,A,sC,zl,yy]at this;simpa using this
   ·rw[cell_setRow_other w _ _ _ q];exact a.imm _ _ _ d
 ·obtain⟨m,u,p,H⟩:=B.live j n d;have y:=z j n m d u;refine⟨m,u,p,rg s (RLe.refl _) (λo F=> ?_) (se (ni w _ _ _ y) H)⟩
  grind [kP]
 ·obtain⟨u,p⟩:=a.gdef b f;refine⟨u,?_⟩;rw[ni w _ _ _ (λN=>by subst N;rw[A]at p;cases p)];exact p
def z8(h:Heap)(i:Nat)(o:Obj):(h.new i o).at' i=some o:=by simp[Heap.new]
def Zq(P:Program)(e:TypeId)(cs:List D):og P e cs=.row cs\/og P e cs=.trow e false cs:=by grind [og]
theorem Vh(O:Sim w0 G M ρ h w)(hn:ρ nid=none){mu:Bool}{t u ty:TypeId}{s x d:D}{ud:TypeDesc}(hu:P.underlying u=some ud)(bx:∀k,ud≠ .int k)(W:rel M ρ s vy)(hx:rel M ρ x vx)
  (r:qg P mu nid t s x h=some (d,h')):YV P w0 G M ρ nid w (Builtin.append_ #[t,u] ty #[vy,vx]) d h':=by
 unfold qg at r;split at r
 ·cases r
 ·rename_i e he;have ht:=rG he;split at r
  ·rename_i hz;obtain⟨i,zv,hi,cp,de,di,d1,d6⟩:=Hb hz;generalize hS:szT P e=sz at *
   split at r
   ·cases r
   ·rename_i ys d0;have h0:0<sz:=ow;obtain⟨m,vs,R,d4,S,ba,cu⟩:=AM (P:=P) O h0 hx d0;have c3:ys.length/sz=m:=by rw[R];exact tA _ h0
    rw[c3]at r;obtain⟨bo,ca⟩:=cu w (LZ w);obtain⟨_,du⟩:=cu w.drew (fq w);have X:vs.length=m*sz:=by rw[qI S,R]
    have b9:=pF S ba;have zEf:∀(base:Option Addr)(n cap:Nat)(a:List Value)(z:List D),vy=.slice base n cap->cap<n+m->n+m<=lim->(n+m)*uE P e<=lim->
      (Builtin.firstCells sz n (.slice base n cap)).run P w.drew=.ok a.toArray w.drew->wJ M ρ z a->z.all D.flat=true->z.length=n*sz->
      ∃c B,(n+m<=B/\B<=maxLen)/\c.size=B*sz/\c.toList.take (a++vs).length=a++vs/\
       (Builtin.append_ #[t,u] ty #[vy,vx]).run P w=.ok (.slice (some ⟨w.heap.size,0,none⟩) (n+m) B) (w.drew.alloc (.cells c e)):=by
     intro base n cap a z hb A K L ho H V Q;subst hb;have dk:a.length=n*sz:=by rw[qI H,Q]
     have c4:=We (P:=P) (w:=w) t u ty e ht hu bx hi di base n cap m vx a vs bo (by rw[cp];exact du) (by rw[cp];exact ho) A K (by rw[de];exact L);have dd:=XP w (n+m) cap e;refine⟨_,_,⟨dd,grownCap_le_maxLen w (n+m) cap e (by unfold maxLen;unfold lim at K;omega)⟩,?_,?_,c4⟩
     ·simp only[Array.size_append,qy,df,d1];rw[dk,X,<-wD,<-wD];congr 1;omega
     ·rw[show(a.toArray++vs.toArray++Builtin.zeroCells zv.cells (grownCap w (n+m) cap e- (n+m))).toList=(a++vs)++(Builtin.zeroCells zv.cells (grownCap w (n+m) cap e- (n+m))).toList by simp[qh]];exact gP rfl
    have au:∀(base:Option Addr)(n cap:Nat)(a:List Value)(z:List D)(Z:Heap),Sim w0 G M ρ Z w->vy=.slice base n cap->cap<n+m->n+m<=lim->(n+m)*uE P e<=lim->
      (Builtin.firstCells sz n (.slice base n cap)).run P w.drew=.ok a.toArray w.drew->wJ M ρ z a->z.all D.flat=true->z.length=n*sz->
      YV P w0 G M ρ nid w (Builtin.append_ #[t,u] ty #[vy,vx]) (.sl sz (wR sz (n+m) (z++ys)) (.own nid)) (Z.new nid .tok):=by
     intro base n cap a z Z cb hb A K L ho H V Q;obtain⟨c,B,g1,g2,g3,g4⟩:=zEf base n cap a z hb A K L ho H V Q;obtain⟨M',ρ',k1,k2,k3,k4,k5⟩:=cb.drew.growTok hn (ys:=z++ys) (vs:=a++vs) c e (sz:=sz) (n:=n+m) (cap:=B) h0 (by rw[zR,Q,R,wD]) (tH H S) (by rw[uP,V,ba];rfl) g3 g2 g1.1 K ow;exact⟨_,_,M',ρ',g4,k1,k2,λi hi=>k3 i (kx hi),k4,k5⟩
    have b1:∀(base:Option Addr)(n cap:Nat)(a:List Value)(z:List D)(Z:Heap),Sim w0 G M ρ Z w->vy=.slice base n cap->cap<n+m->n+m<=lim->(n+m)*uE P e<=lim->
      (Builtin.firstCells sz n (.slice base n cap)).run P w.drew=.ok a.toArray w.drew->wJ M ρ z a->z.all D.flat=true->z.length=n*sz->
      YV P w0 G M ρ nid w (Builtin.append_ #[t,u] ty #[vy,vx]) (.rs nid sz 0 (n+m)) (Z.new nid (.row (z++ys))):=by
     intro base n cap a z Z cb hb A K L ho H V Q;obtain⟨c,B,g1,g2,g3,g4⟩:=zEf base n cap a z hb A K L ho H V Q;have ai:(z++ys).length=(a++vs).length:=by rw[<-qI (tH H S)]
     have ad:(z++ys).length<=c.size:=by
      rw[g2,zR,Q,R,<-wD];exact yv _ g1.1
     have y:=cb.drew.newRow hn e (ds:=z++ys) (c:=c) ad (by rw[ai,g3];exact tH H S) (by rw[uP,V,ba];rfl);refine⟨_,_,M,_,g4,MLe.refl _,tQ hn,λi hi=>by simp[nj,kx hi],y,?_⟩;simp only[rel];exact⟨h0,K,_,B,0,by simp[nj];rfl,rfl,g1,by simp;omega,.inr rfl⟩
    have b2:∀(base:Option Addr)(n cap:Nat)(a:List Value)(z:List D)(Z:Heap),Sim w0 G M ρ Z w->vy=.slice base n cap->cap<n+m->n+m<=lim->(n+m)*uE P e<=lim->
      (Builtin.firstCells sz n (.slice base n cap)).run P w.drew=.ok a.toArray w.drew->wJ M ρ z a->z.all D.flat=true->z.length=n*sz->
      YV P w0 G M ρ nid w (Builtin.append_ #[t,u] ty #[vy,vx]) (.rs nid sz 0 (n+m)) (Z.new nid (.trow e false (z++ys))):=by
     intro base n cap a z Z cb hb A K L ho H V Q;obtain⟨c,B,g1,g2,g3,g4⟩:=zEf base n cap a z hb A K L ho H V Q;have ai:(z++ys).length=(a++vs).length:=by rw[<-qI (tH H S)]
     have ad:(z++ys).length<=c.size:=by
      rw[g2,zR,Q,R,<-wD];exact yv _ g1.1
     have y:=cb.drew.newTRow hn e false (ds:=z++ys) (c:=c) ad (λq=>by cases q) (by rw[ai,g3];exact tH H S) (by rw[uP,V,ba];rfl);refine⟨_,_,M,_,g4,MLe.refl _,tQ hn,λi hi=>by simp[nj,kx hi],y,?_⟩;simp only[rel];exact⟨h0,K,_,B,0,by simp[nj];rfl,rfl,g1,by simp;omega,.inr rfl⟩
    have b0:∀(base:Option Addr)(n cap:Nat)(a:List Value)(z:List D)(Z:Heap),Sim w0 G M ρ Z w->vy=.slice base n cap->cap<n+m->n+m<=lim->(n+m)*uE P e<=lim->
      (Builtin.firstCells sz n (.slice base n cap)).run P w.drew=.ok a.toArray w.drew->wJ M ρ z a->z.all D.flat=true->z.length=n*sz->
      YV P w0 G M ρ nid w (Builtin.append_ #[t,u] ty #[vy,vx]) (.rs nid sz 0 (n+m)) (Z.new nid (og P e (z++ys))):=by
     intro base n cap a z Z a1 a2 a3 a4 a5 a6 a7 a8 a9;rcases Zq P e (z++ys)with q|q
     ·rw[q];exact b1 base n cap a z Z a1 a2 a3 a4 a5 a6 a7 a8 a9
     ·rw[q];exact b2 base n cap a z Z a1 a2 a3 a4 a5 a6 a7 a8 a9
    unfold tp at r;split at r
    ·
     simp only[rel]at W;subst W;split at r
     ·rename_i b8;cases r;subst b8;have:=oU (P:=P) (w:=w) t u ty e ht hu bx ow none 0 0 0 vx vs bo (by rw[hS];exact ca) (zD _) w rfl;exact .pure O this (by simp only[rel])
     ·rename_i b8;split at r
      ·rename_i hc;simp only[zF,zO]at hc;split at r
       ·cases r;have:=b0 none 0 0 [] [] h O rfl ow ow (by rw[yZ];exact hc.1) rfl (by simp[wJ]) rfl (by simp);simpa using this
       ·cases r;have:=au none 0 0 [] [] h O rfl ow ow (by rw[yZ];exact hc.1) rfl (by simp[wJ]) rfl (by simp);simpa using this
      ·cases r
    ·
     rename_i f xs tk;split at r
     ·rename_i hc;simp only[zF,zO]at hc;obtain⟨⟨cc,bb⟩,T⟩:=hc;subst cc;have c7:=W;simp only[rel]at W;obtain⟨_,c8,b,p,cap,⟨sp,rfl,c6⟩,A,hE,c1⟩:=W;obtain⟨hC,bk⟩:=l7 hE;obtain⟨a,o1,o2,o3,o4⟩:=(O.holds hC).firstCells (P:=P) (off:=0) (n:=xs.length*f) ow;have cg:(xs.flatten.drop 0).take (xs.length*f)=xs.flatten:=by rw[wb,<-bk,z6]
      rw[cg]at o1 o2;have ho:(Builtin.firstCells f xs.length (.slice (some ⟨b,p,sp⟩) xs.length cap)).run P w.drew=.ok a.toArray w.drew:=by
       rcases c6 with rfl|rfl
       ·simpa [Builtin.firstCells]using o4 w.drew (fq w)
       ·obtain rfl:xs= []:=yY ow
        have:a= []:=by apply yY;simpa using o3
        subst this;simp[Builtin.firstCells,Go.loadCells,loadCellsFrom]
      have ck:=mK f xs ys m (QB hE);split at r
      ·cases r
      ·simp only at c1;subst c1;split at r
       ·rename_i b8;cases r;subst b8;have ch:vs= []:=by apply yY;omega
        have:=oU (P:=P) (w:=w) t u ty e ht hu bx ow (some ⟨b,p,sp⟩) xs.length xs.length 0 vx vs bo (by rw[hS];exact ca) ow w (by subst ch;rfl);exact .pure O this (by simpa using c7)
       ·rename_i b8;split at r
        ·cases r;exact b0 _ xs.length xs.length a xs.flatten h O rfl ow T bb ho o1 o2 bk
        ·cases r;rw[<-ck];exact au _ xs.length xs.length a xs.flatten h O rfl ow T bb ho o1 o2 bk
      ·rename_i ti;obtain⟨l,hl,cx,ad,dr,da⟩:=c1;obtain rfl:sp=none:=c6.resolve_right ow;split at r
       ·rename_i cf;split at r
        ·cases r
        ·cases r;rw[<-ck];by_cases g:xs.length+m<=cap
         ·obtain⟨l',g1,g2,hM,d2,c,e0,hw,Y⟩:=O.live ti _ cf;rw[hl]at g1;cases g1;have b4:(xs.length+m)*f<=cap*f:=yv _ g;have b6:l.endd+vs.length<=c.size:=by rw[ad,X,<-Y,wA,<-wD];omega
          have bs:=sV P l.blk l.endd e0 vs 0 c w hw ow b9;rw[uB]at bs;obtain⟨k1,k2⟩:=O.behind cf hl hw b6 (c.toList.take l.endd++vs++c.toList.drop (l.endd+vs.length)).toArray (by simp);have N:=oU (P:=P) (w:=w) t u ty e ht hu bx ow (some ⟨b,p,none⟩) xs.length cap m vx vs bo (by rw[hS];exact ca) g _ (by
           simp only[tm,hS];rw[<-cx,<-ad];exact bs)
          have F:(c.toList.take l.endd++vs++c.toList.drop (l.endd+vs.length)).length=c.size:=by simp;omega
          have k3:=k2.addObj (nid:=nid) hn ⟨l.blk,l.endd+vs.length,l.size⟩ .tok g2 (λj oj lj e1 e2 b3=>by
            simp only[Heap.del]at e1;split at e1
            ·cases e1
            ·rename_i U;exact U (O.apart j ti oj .tok lj l e1 cf e2 hl b3))
           ⟨λo dt=>by
             simp only at dt⊢;unfold kP;rw[iq ow];exact hM o ow,by simp;omega,_,e0,lK w l.blk c _ e0 (0,0) hw,by simp only[qy];rw[F,Y]⟩
          refine⟨_,_,_,_,N,k1,tQ hn,λi hi=>by simp[nj,kx hi],k3,?_⟩;simp only[rel,ck,zR,sE];refine⟨h0,T,b,p,cap,Ii.mk _ _ _ _,g,?_,(⟨l.blk,l.endd+vs.length,l.size⟩:Loc),by simp[nj],cx,by simp only;rw[ad,X,wA,<-wD],by simpa using dr,da⟩;have c9:kQ (kP M l.blk l.endd vs) (nj ρ nid ⟨l.blk,l.endd+vs.length,l.size⟩) (xs.flatten++ys) b p:=by
           refine Xw (bi k1 (tQ hn) _ _ _ hC) (um λi d hi=> ?_);obtain⟨v,e1,e2⟩:=sF S i d hi;refine⟨zo.1 ba d (zg hi),v,?_,to k1 (tQ hn) _ _ e2⟩;rw[bk,<-ad,<-cx];exact V3 e1
          rw[<-ck];refine nF λi x' c2=> ?_;have hi:i<xs.length+m:=by rw[<-sE f (xs.length+m) (xs.flatten++ys)];exact(zK.1 c2).1
          rw[ab _ _ _ _ hi]at c2;cases c2;have cl:i*f+f<=(xs.length+m)*f:=by rw[<-qf];exact yv _ hi
          have d3:(xs.flatten++ys).length=(xs.length+m)*f:=by rw[zR,bk,R,wD]
          refine⟨by simp only[yR,tF];omega,um λj d hd=> ?_⟩;simp only[yF,qX]at hd;split at hd
          ·obtain⟨q0,v,q1,q2⟩:=mM c9 _ d hd;exact⟨q0,v,by rw[<-q1];congr 1;omega,q2⟩
          ·cases hd
         ·exact au _ xs.length cap a xs.flatten (h.del ti) (O.del ti) rfl ow T bb ho o1 o2 bk
       ·cases r
     ·cases r
    ·
     rename_i id f off n;split at r
     ·rename_i hc;simp only[zF,zO]at hc;obtain⟨⟨⟨⟨d5,cc⟩,c5⟩,bb⟩,T⟩:=hc;subst cc c5;split at r
      ·rename_i cs y;split at r
       ·rename_i I;cases r;simp only[rel]at W;obtain⟨_,c8,l,cap,o,hl,rfl,A,b7,C⟩:=W;obtain⟨l',g1,g2,hM,c,e0,hw,Y,ai,E⟩:=O.live id _ y;rw[hl]at g1;cases g1;have b5:cs.all D.flat=true:=zo.2 λq hq=>by
         obtain⟨j,U⟩:=yw.1 hq;exact(E j q U).1
        by_cases g:n+m<=cap
        ·have b4:(n+m)*f<=cap*f:=yv _ g;have b6:n*f+vs.length<=c.size:=by rw[X,<-wD,<-Y];omega
         have bs:(storeCells ((⟨l.blk,o,none⟩:Addr).add (n*f)) vs).run P w=.ok () (w.setRow l.blk (c.toList.take (n*f)++vs++c.toList.drop (n*f+vs.length)).toArray):=by
          rcases C with cv|C
          ·have ch:vs= []:=by
            apply yY;rw[X,show m=0 by omega,sZ]
           subst ch;have cw:(c.toList.take (n*f)++([]:List Value)++c.toList.drop (n*f+([]:List Value).length)).toArray=c:=by simp
           rw[cw,setRow_self w l.blk c e0 (0,0) hw];rfl
          ·subst C;have:=sV P l.blk (n*f) e0 vs 0 c w hw ow b9;rw[tm,yZ];simpa using this
         have N:=oU (P:=P) (w:=w) t u ty e ht hu bx ow (some ⟨l.blk,o,none⟩) n cap m vx vs bo (by rw[hS];exact ca) g _ (by simp only[hS];exact bs);have F:(c.toList.take (n*f)++vs++c.toList.drop (n*f+vs.length)).length=c.size:=by simp;omega
         have ak:wJ M ρ (cs++ys) ((c.toList.take (n*f)++vs++c.toList.drop (n*f+vs.length)).take (cs++ys).length):=by
          have L:(cs++ys).length=n*f+vs.length:=by rw[zR,I,X,R]
          rw[L,gP (by simp;omega)];refine tH (wW (by simp;omega) λj q v h1 h2=> ?_) S;obtain⟨_,u',e1,e2⟩:=E j q h1;have cl:j<n*f:=by rw[<-I];exact(zK.1 h1).1
          rw[yF,ip cl]at h2
          have:some v=some u':=by rw[<-h2,<-e1];simp
          cases this;exact e2
         have ag:(cs++ys).length<=(c.toList.take (n*f)++vs++c.toList.drop (n*f+vs.length)).toArray.size:=by
          simp only[qy];rw[F,zR,I,R,<-wD];omega
         have J:(cs++ys).all D.flat=true:=by rw[uP,b5,ba];rfl
         have k1:=O.setRow y hl hw (c':=(c.toList.take (n*f)++vs++c.toList.drop (n*f+vs.length)).toArray) (by simp only[qy];exact F) ag ak J;have k2:=(k1.del id).addObj (nid:=nid) hn l (.row (cs++ys)) g2 (λj oj lj e1 e2 b3=>by
           simp only[Heap.del,Heap.set]at e1;split at e1
           ·cases e1
           ·rename_i U;exact U (O.apart j id oj (.row cs) lj l e1 y e2 hl b3))
          (fy hM (lK w l.blk c _ e0 (0,0) hw) (by simp only[qy];rw[F,Y]) ag (rm (MLe.refl _) (tQ hn) _ _ ak) J)
         refine⟨_,_,M,_,N,MLe.refl _,tQ hn,λj U=>by simp[nj,kx U],k2.less (λj oj e1=> ?_),?_⟩
         ·simp only[Heap.new,Heap.del,Heap.set]at e1⊢;by_cases U:j=nid
          ·rw[ip U]at e1⊢;exact e1
          ·rw[iq U]at e1⊢;by_cases a0:j=id
           ·rw[ip a0]at e1;cases e1
           ·rw[iq a0]at e1⊢;rw[iq a0];exact e1
         ·simp only[rel];exact⟨h0,T,l,cap,o,by simp[nj],rfl,⟨g,A.2⟩,b7,C⟩
        ·obtain⟨a,o1,o2,o3,o4⟩:=(O.row y hl).firstCells (P:=P) (off:=0) (n:=n*f) ow;have cg:(cs.drop 0).take (n*f)=cs:=by rw[wb,<-I,z6]
         rw[cg]at o1 o2;have ho:(Builtin.firstCells f n (.slice (some ⟨l.blk,o,none⟩) n cap)).run P w.drew=.ok a.toArray w.drew:=by
          rcases C with cv|C
          ·have c0:n=0:=ow;subst c0
           have:a= []:=by apply yY;omega
           subst this;simp[Builtin.firstCells,Go.loadCells,loadCellsFrom]
          ·subst C;have:=o4 w.drew (fq w);simpa [Builtin.firstCells]using this
         exact b1 _ n cap a cs (h.del id) (O.del id) rfl ow T bb ho o1 o2 I
       ·cases r
      ·rename_i e2 full cs y;split at r
       ·cases r
       split at r
       ·rename_i cm;simp only[zF,zO]at cm;obtain⟨db,I⟩:=cm;obtain rfl:e=e2:=db.symm;cases r;simp only[rel]at W;obtain⟨_,c8,l,cap,o,hl,rfl,A,b7,C⟩:=W;obtain⟨l',g1,g2,hM,c,e0,hw,Y,ai,E,dv,_⟩:=O.live id _ y;rw[hl]at g1;cases g1;have b5:cs.all D.flat=true:=zo.2 λq hq=>by
         obtain⟨j,U⟩:=yw.1 hq;exact(E j q U).1
        by_cases g:n+m<=cap
        ·have b4:(n+m)*f<=cap*f:=yv _ g;have b6:n*f+vs.length<=c.size:=by rw[X,<-wD,<-Y];omega
         have bs:(storeCells ((⟨l.blk,o,none⟩:Addr).add (n*f)) vs).run P w=.ok () (w.setRow l.blk (c.toList.take (n*f)++vs++c.toList.drop (n*f+vs.length)).toArray):=by
          rcases C with cv|C
          ·have ch:vs= []:=by
            apply yY;rw[X,show m=0 by omega,sZ]
           subst ch;have cw:(c.toList.take (n*f)++([]:List Value)++c.toList.drop (n*f+([]:List Value).length)).toArray=c:=by simp
           rw[cw,setRow_self w l.blk c e0 (0,0) hw];rfl
          ·subst C;have:=sV P l.blk (n*f) e0 vs 0 c w hw ow b9;rw[tm,yZ];simpa using this
         have N:=oU (P:=P) (w:=w) t u ty e ht hu bx ow (some ⟨l.blk,o,none⟩) n cap m vx vs bo (by rw[hS];exact ca) g _ (by simp only[hS];exact bs);have F:(c.toList.take (n*f)++vs++c.toList.drop (n*f+vs.length)).length=c.size:=by simp;omega
         have ak:wJ M ρ (cs++ys) ((c.toList.take (n*f)++vs++c.toList.drop (n*f+vs.length)).take (cs++ys).length):=by
          have L:(cs++ys).length=n*f+vs.length:=by rw[zR,I,X,R]
          rw[L,gP (by simp;omega)];refine tH (wW (by simp;omega) λj q v h1 h2=> ?_) S;obtain⟨_,u',e1,e2⟩:=E j q h1;have cl:j<n*f:=by rw[<-I];exact(zK.1 h1).1
          rw[yF,ip cl]at h2
          have:some v=some u':=by rw[<-h2,<-e1];simp
          cases this;exact e2
         have ag:(cs++ys).length<=(c.toList.take (n*f)++vs++c.toList.drop (n*f+vs.length)).toArray.size:=by
          simp only[qy];rw[F,zR,I,R,<-wD];omega
         have J:(cs++ys).all D.flat=true:=by rw[uP,b5,ba];rfl
         have k1:=O.setTRow' y hl hw (c':=(c.toList.take (n*f)++vs++c.toList.drop (n*f+vs.length)).toArray) (by simp only[qy];exact F) ag ak J;have k2:=(k1.del id).addObj (nid:=nid) hn l (.trow e false (cs++ys)) g2 (λj oj lj e1 e2 b3=>by
           simp only[Heap.del,Heap.set]at e1;split at e1
           ·cases e1
           ·rename_i U;exact U (O.apart j id oj (.trow e false cs) lj l e1 y e2 hl b3))
          (jj hM (by rw[<-dv];exact lK w l.blk c _ e0 (0,0) hw) (by simp only[qy];rw[F,Y]) ag (λq=>by cases q) (rm (MLe.refl _) (tQ hn) _ _ ak) J)
         refine⟨_,_,M,_,N,MLe.refl _,tQ hn,λj U=>by simp[nj,kx U],k2.less (λj oj e1=> ?_),?_⟩
         ·simp only[Heap.new,Heap.del,Heap.set]at e1⊢;by_cases U:j=nid
          ·rw[ip U]at e1⊢;exact e1
          ·rw[iq U]at e1⊢;by_cases a0:j=id
           ·rw[ip a0]at e1;cases e1
           ·rw[iq a0]at e1⊢;rw[iq a0];exact e1
         ·simp only[rel];exact⟨h0,T,l,cap,o,by simp[nj],rfl,⟨g,A.2⟩,b7,C⟩
        ·obtain⟨a,o1,o2,o3,o4⟩:=(O.trow y hl).firstCells (P:=P) (off:=0) (n:=n*f) ow;have cg:(cs.drop 0).take (n*f)=cs:=by rw[wb,<-I,z6]
         rw[cg]at o1 o2;have ho:(Builtin.firstCells f n (.slice (some ⟨l.blk,o,none⟩) n cap)).run P w.drew=.ok a.toArray w.drew:=by
          rcases C with cv|C
          ·have c0:n=0:=ow;subst c0
           have:a= []:=by apply yY;omega
           subst this;simp[Builtin.firstCells,Go.loadCells,loadCellsFrom]
          ·subst C;have:=o4 w.drew (fq w);simpa [Builtin.firstCells]using this
         exact b2 _ n cap a cs (h.del id) (O.del id) rfl ow T bb ho o1 o2 I
       ·cases r
      ·cases r
     ·cases r
    ·cases r
  ·cases r
def Sim.trunc(a:Sim w0 G M ρ h w)(u:h.at' id=some (.row cs))(k:Nat):Sim w0 G M ρ (h.set id (.row (cs.take k))) w:=by
 refine { below:=a.below,imm:=a.imm,live:=λi z e=> ?_,apart:=λi j A B x y e1 e2 r1 r2 t=> ?_,gdef:=a.gdef,old:=a.old }
 ·simp only[Heap.set]at e;split at e
  ·rename_i hid;subst hid;cases e;obtain⟨l,r,s,hM,c,p,v,f,n,b⟩:=a.live _ _ u;refine⟨l,r,s,hM,c,p,v,f,by simp;omega,λj d C=> ?_⟩
   grind
  ·exact a.live i z e
 ·have g:∀q o,(h.set id (.row (cs.take k))).at' q=some o->∃m,h.at' q=some m:=λq o e=>by
   grind [Heap.set]
  obtain⟨o1,k1⟩:=g i A e1;obtain⟨o2,k2⟩:=g j B e2;exact a.apart i j o1 o2 x y k1 k2 r1 r2 t
def Sim.truncRs(a:Sim w0 G M ρ h w)(s x:D):Sim w0 G M ρ (tu s x h) w:=by
 unfold V.tu;split
 ·split
  ·exact a
  ·split
   ·rename_i cs b;split
    ·exact a.trunc b _
    ·exact a
   ·exact a
 ·exact a
def Ps(g:Sim w0 G M ρ h w)(f:ρ nid=none){mu:Bool}{t u ty:TypeId}{s x d:D}{e:TypeDesc}(i:P.underlying u=some e)(b:∀k,e≠ .int k)(a:rel M ρ s vy)(j:rel M ρ x vx)
  (c:mQ P mu nid t s x h=some (d,h')):YV P w0 G M ρ nid w (Builtin.append_ #[t,u] ty #[vy,vx]) d h':=by
 unfold mQ at c;split at c
 ·exact Vh (g.truncRs s x) f i b a j c
 ·grind [Vh]
end
end Go.V
