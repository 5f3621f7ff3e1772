/- A machine of abstract values for programs of the model, further rules, part 1. No condition. -/
import Derived.Test.YtalepjdbhjinhaaGreatDoorW00
set_option linter.all false
namespace Go.V
open Go.RowKit (Below)
structure Loc where
 blk:Nat
 endd:Nat
 size:Nat
abbrev Imm:=Nat→Nat→Option Value
abbrev Ren:=Nat→Option Loc
def fits (k:IntKind) (n:Int):Prop:=k.wrap n=n
def zQq (v:Value) (b p n cap:Nat):Prop:=∃sp,v= .slice (some ⟨b,p,sp⟩) n cap∧(sp=none∨cap=0)
theorem zQq.mk (b p n cap:Nat):zQq (.slice (some ⟨b,p,none⟩) n cap) b p n cap:=⟨none,rfl, .inl rfl⟩
mutual
def rel (M : Imm) (ρ : Ren) : D → Value → Prop
  | .bool b, v => v = .bool b
  | .int k n, v => v = .int k n ∧ fits k n
  | .str s, v => ∃ b : ByteArray, v = .string b ∧ b.data.toList = s ∧ s.length ≤ lim
  | .nilptr, v => v = .pointer none
  | .ptr id off, v => ∃ l, ρ id = some l ∧ v = .pointer (some ⟨l.blk, off, none⟩)
  | .iptr cs off, v => ∃ b p, v = .pointer (some ⟨b, p + off, none⟩) ∧ zBP M ρ cs b p
  | .nilsl, v => v = .slice none 0 0
  | .sl sz xs tk, v => 0 < sz ∧ xs.length ≤ lim ∧ ∃ b p cap, zQq v b p xs.length cap ∧ xs.length ≤ cap ∧ zB2 M ρ sz xs b p ∧
      (match tk with
       | .no => True
       | .full => cap = xs.length
       | .own t => ∃ l, ρ t = some l ∧ l.blk = b ∧ l.endd = p + xs.length * sz ∧ p + cap * sz ≤ l.size ∧ 0 < cap)
  | .rs id sz off len, v => 0 < sz ∧ len ≤ lim ∧ ∃ l cap o, ρ id = some l ∧ v = .slice (some ⟨l.blk, o, none⟩) len cap ∧ (len ≤ cap ∧ cap ≤ maxLen) ∧ off + cap * sz ≤ l.size ∧ (cap = 0 ∨ o = off)
  | .nilmap, v => v = .map none
  | .map id, v => ∃ l, ρ id = some l ∧ v = .map (some l.blk)
  | .fn f a c, v => (∃ g, f = .func g) ∧ ∃ va vc, v = .func f va vc ∧ zy M ρ a va.toList ∧ zy M ρ c vc.toList
  | .yld id, v => ∃ l, ρ id = some l ∧ v = .func (.yield l.blk) #[] #[]
  | .nilfn, v => v = .nilFunc
  | .agg cs, v => ∃ vs, v = .agg vs ∧ zy M ρ cs vs.toList ∧ cs.all D.flat = true
  | .tuple cs, v => ∃ vs, v = .tuple vs ∧ zy M ρ cs vs.toList
  | .iface t d, v => ∃ u, v = .iface t u ∧ rel M ρ d u
  | .niliface, v => v = .nilIface
def zy (M:Imm) (ρ:Ren):List D→List Value→Prop
 | [],vs=>vs= []
 |d::ds,vs=>∃v vs',vs=v::vs'∧rel M ρ d v∧zy M ρ ds vs'
def zBP (M:Imm) (ρ:Ren):List D→Nat→Nat→Prop
 | [],_,_=>True
 |d::ds,b,p=>(d.flat=true∧∃v,M b p=some v∧rel M ρ d v)∧zBP M ρ ds b (p+1)
def zB2 (M:Imm) (ρ:Ren) (sz:Nat):List (List D)→Nat→Nat→Prop
 | [],_,_=>True
 |x::xs,b,p=>x.length=sz∧zBP M ρ x b p∧zB2 M ρ sz xs b (p+sz)
end
def MLe (M M':Imm):Prop:=∀b o v,M b o=some v→M' b o=some v
def RLe (ρ ρ':Ren):Prop:=∀i l,ρ i=some l→ρ' i=some l
theorem MLe.refl (M:Imm):MLe M M:=fun _ _ _ h=>h
theorem RLe.refl (ρ:Ren):RLe ρ ρ:=fun _ _ h=>h
theorem MLe.trans {M M' M'':Imm} (h:MLe M M') (h':MLe M' M''):MLe M M'':=fun b o v e=>h' b o v (h b o v e)
theorem RLe.trans {M M' M'':Ren} (h:RLe M M') (h':RLe M' M''):RLe M M'':=fun i l e=>h' i l (h i l e)
section mono
variable {M M':Imm} {ρ ρ':Ren} (hM:MLe M M') (hr:RLe ρ ρ')
mutual
theorem qE (hM:MLe M M') (hr:RLe ρ ρ'):∀ (d:D) (v:Value),rel M ρ d v→rel M' ρ' d v
 | .bool _,_,h=>by simpa [rel] using h
 | .int _ _,_,h=>by simpa [rel] using h
 | .str _,_,h=>by simpa [rel] using h
 | .nilptr,_,h=>by simpa [rel] using h
 | .ptr _ _,_,h=>by
  simp only[rel] at h⊢;obtain⟨l,h1,h2⟩:=h;exact⟨l,hr _ _ h1,h2⟩
 | .iptr cs off,_,h=>by
  simp only[rel] at h⊢;obtain⟨b,p,h1,h2⟩:=h;exact⟨b,p,h1,zD6 hM hr cs b p h2⟩
 | .nilsl,_,h=>by simpa [rel] using h
 | .sl sz xs tk,_,h=>by
  simp only[rel] at h⊢;obtain⟨h0,hl,b,p,cap,h1,h2,h3,h4⟩:=h;refine⟨h0,hl,b,p,cap,h1,h2,zGq hM hr sz xs b p h3,?_⟩;cases tk with
  |no=>trivial
  |full=>exact h4
  |own t=>
   obtain⟨l,g1,g2⟩:=h4;exact⟨l,hr _ _ g1,g2⟩
 | .rs _ _ _ _,_,h=>by
  simp only[rel] at h⊢;obtain⟨h0,hl,l,cap,o,h1,h2⟩:=h;exact⟨h0,hl,l,cap,o,hr _ _ h1,h2⟩
 | .nilmap,_,h=>by simpa [rel] using h
 | .map _,_,h=>by
  simp only[rel] at h⊢;obtain⟨l,h1,h2⟩:=h;exact⟨l,hr _ _ h1,h2⟩
 | .fn f a c,_,h=>by
  simp only[rel] at h⊢;obtain⟨h0,va,vc,h1,h2,h3⟩:=h;exact⟨h0,va,vc,h1,wD hM hr a _ h2,wD hM hr c _ h3⟩
 | .yld _,_,h=>by
  simp only[rel] at h⊢;obtain⟨l,h1,h2⟩:=h;exact⟨l,hr _ _ h1,h2⟩
 | .nilfn,_,h=>by simpa [rel] using h
 | .agg cs,_,h=>by
  simp only[rel] at h⊢;obtain⟨vs,h1,h2,h3⟩:=h;exact⟨vs,h1,wD hM hr cs _ h2,h3⟩
 | .tuple cs,_,h=>by
  simp only[rel] at h⊢;obtain⟨vs,h1,h2⟩:=h;exact⟨vs,h1,wD hM hr cs _ h2⟩
 | .iface t d,_,h=>by
  simp only[rel] at h⊢;obtain⟨u,h1,h2⟩:=h;exact⟨u,h1,qE hM hr d u h2⟩
 | .niliface,_,h=>by simpa [rel] using h
theorem wD (hM:MLe M M') (hr:RLe ρ ρ'):∀ (ds:List D) (vs:List Value),zy M ρ ds vs→zy M' ρ' ds vs
 | [],_,h=>by simpa [zy] using h
 |d::ds,_,h=>by
  simp only[zy] at h⊢;obtain⟨v,vs',h1,h2,h3⟩:=h;exact⟨v,vs',h1,qE hM hr d v h2,wD hM hr ds vs' h3⟩
theorem zD6 (hM:MLe M M') (hr:RLe ρ ρ'):∀ (ds:List D) (b p:Nat),zBP M ρ ds b p→zBP M' ρ' ds b p
 | [],_,_,_=>by simp[zBP]
 |d::ds,b,p,h=>by
  simp only[zBP] at h⊢;obtain⟨⟨h0,v,h1,h2⟩,h3⟩:=h;exact⟨⟨h0,v,hM _ _ _ h1,qE hM hr d v h2⟩,zD6 hM hr ds b (p+1) h3⟩
theorem zGq (hM:MLe M M') (hr:RLe ρ ρ'):∀ (sz:Nat) (xs:List (List D)) (b p:Nat),zB2 M ρ sz xs b p→zB2 M' ρ' sz xs b p
 |_,[],_,_,_=>by simp[zB2]
 |sz,x::xs,b,p,h=>by
  simp only[zB2] at h⊢;exact⟨h.1,zD6 hM hr x b p h.2.1,zGq hM hr sz xs b (p+sz) h.2.2⟩
end
end mono
theorem zU {M:Imm} {ρ:Ren} :∀ {ds:List D} {vs:List Value},zy M ρ ds vs→vs.length=ds.length
 | [],_,h=>by simp only[zy] at h;simp[h]
 |d::ds,vs,h=>by
  simp only[zy] at h;obtain⟨v,vs',rfl,_,h3⟩:=h;simp[zU h3]
theorem yq {M:Imm} {ρ:Ren} :∀ {ds:List D} {vs:List Value},zy M ρ ds vs→∀ (i:Nat) (d:D),ds[i]? =some d→∃v,vs[i]? =some v∧rel M ρ d v
 | [],_,_,i,d,hi=>by simp at hi
 |e::ds,vs,h,i,d,hi=>by
  simp only[zy] at h;obtain⟨v,vs',rfl,h2,h3⟩:=h;cases i with
  |zero=>simp at hi;subst hi;exact⟨v,by simp,h2⟩
  |succ i=>simp at hi;simpa using yq h3 i d hi
theorem yD {M:Imm} {ρ:Ren} :∀ {ds:List D} {vs:List Value},vs.length=ds.length→(∀ (i:Nat) (d:D) (v:Value),ds[i]? =some d→vs[i]? =some v→rel M ρ d v)→zy M ρ ds vs
 | [],vs,hl,_=>by simp only[zy];simpa using hl
 |d::ds,[],hl,_=>by simp at hl
 |d::ds,v::vs,hl,h=>by
  simp only[zy];exact⟨v,vs,rfl,h 0 d v (by simp) (by simp),yD (by simpa using hl) fun i e u he hu=>h (i+1) e u (by simpa using he) (by simpa using hu)⟩
theorem zAp {M:Imm} {ρ:Ren} :∀ {ds:List D} {b p:Nat},zBP M ρ ds b p→∀ (i:Nat) (d:D),ds[i]? =some d→d.flat=true∧∃v,M b (p+i)=some v∧rel M ρ d v
 | [],_,_,_,i,d,hi=>by simp at hi
 |e::ds,b,p,h,i,d,hi=>by
  simp only[zBP] at h;obtain⟨⟨h0,v,h1,h2⟩,h3⟩:=h;cases i with
  |zero=>simp at hi;subst hi;exact⟨h0,v,h1,h2⟩
  |succ i=>
   simp at hi;obtain⟨hf,u,hu,hr⟩:=zAp h3 i d hi;exact⟨hf,u,by rw[←hu];congr 1;omega,hr⟩
theorem yi {M:Imm} {ρ:Ren} :∀ {ds:List D} {b p:Nat},(∀ (i:Nat) (d:D),ds[i]? =some d→d.flat=true∧∃v,M b (p+i)=some v∧rel M ρ d v)→zBP M ρ ds b p
 | [],_,_,_=>by simp[zBP]
 |d::ds,b,p,h=>by
  simp only[zBP];refine⟨by simpa using h 0 d (by simp),yi fun i e he=> ?_⟩;obtain⟨h0,v,h1,h2⟩:=h (i+1) e (by simpa using he);exact⟨h0,v,by rw[←h1];congr 1;omega,h2⟩
theorem zGN {M:Imm} {ρ:Ren} {sz:Nat} :∀ {xs:List (List D)} {b p:Nat},zB2 M ρ sz xs b p→∀ (i:Nat) (x:List D),xs[i]? =some x→x.length=sz∧zBP M ρ x b (p+i*sz)
 | [],_,_,_,i,x,hi=>by simp at hi
 |y::xs,b,p,h,i,x,hi=>by
  simp only[zB2] at h;cases i with
  |zero=>simp at hi;subst hi;simpa using⟨h.1,h.2.1⟩
  |succ i=>
   simp at hi;have:=zGN h.2.2 i x hi;rw[Nat.add_mul,Nat.one_mul,show p+(i*sz+sz)=p+sz+i*sz by omega];exact this
theorem zAD {M:Imm} {ρ:Ren} {sz:Nat} :∀ {xs:List (List D)} {b p:Nat},(∀ (i:Nat) (x:List D),xs[i]? =some x→x.length=sz∧zBP M ρ x b (p+i*sz))→zB2 M ρ sz xs b p
 | [],_,_,_=>by simp[zB2]
 |x::xs,b,p,h=>by
  simp only[zB2];have h0:=h 0 x (by simp);refine⟨h0.1,by simpa using h0.2,zAD fun i y hy=> ?_⟩;have:=h (i+1) y (by simpa using hy);rw[Nat.add_mul,Nat.one_mul,show p+(i*sz+sz)=p+sz+i*sz by omega] at this;exact this
def qU (M:Imm) (ρ:Ren):List (D×D)→List MapEntry→Prop
 | [],es=>es= []
 |(k,d)::ds,es=>∃e es',es=e::es'∧rel M ρ k e.key∧rel M ρ d e.val∧qU M ρ ds es'
def zIb (M:Imm) (ρ:Ren) (fr:Frm) (tmps:Array Value):Prop:=∀i,rel M ρ (fr i) (tmps.getD i undef)
def qJ (M:Imm) (ρ:Ren) (w:World) (l:Loc):Obj→Prop
 | .row cs=>(∀o,M l.blk o=none)∧∃c e,w.heap[l.blk]? =some (.cells c e (0,0))∧l.size=c.size∧cs.length≤c.size∧∀ (i:Nat) (d:D),cs[i]? =some d→d.flat=true∧∃v,c[i]? =some v∧rel M ρ d v
 | .tok=>(∀o,l.endd≤o→M l.blk o=none)∧l.endd≤l.size∧∃c e,w.heap[l.blk]? =some (.cells c e (0,0))∧l.size=c.size
 | .map es=>∃en clock,w.heap[l.blk]? =some (.map en clock)∧qU M ρ es en.toList
 | .loop r=>∃L:Go.Loop,w.heap[l.blk]? =some (.loop L)∧L.state=r.st∧L.pending=r.pending∧L.params=r.params∧L.assign=r.assign∧L.body=r.body∧L.tmps.size=r.n∧zIb M ρ r.fr L.tmps
 | .siter s pos=>∃b:ByteArray,w.heap[l.blk]? =some (.stringIter b pos)∧b.data.toList=s
 | .trow t full cs=>(∀o,M l.blk o=none)∧∃c e,w.heap[l.blk]? =some (.cells c e (0,0))∧l.size=c.size∧cs.length≤c.size∧(∀ (i:Nat) (d:D),cs[i]? =some d→d.flat=true∧∃v,c[i]? =some v∧rel M ρ d v)∧e=t∧(full=true→c.size=cs.length)
structure Base extends World where
 O:Imm
 keep:Nat→Prop
 kept:∀b,keep b→b<heap.size
structure Kept (w0:Base) (w:World):Prop where
 os:w.os=w0.os
 tape:w.tape=w0.tape
 output:w.output=w0.output
 size:w0.heap.size≤w.heap.size
 block:∀b,w0.keep b→w.heap[b]? =w0.heap[b]?
 drawn:w0.drawn≤w.drawn
structure Bel (n:Nat) (w w':World):Prop extends Below n w w' where
 drawn:w.drawn≤w'.drawn
theorem Bel.refl (n:Nat) (w:World):Bel n w w:=⟨Below.refl n w,Nat.le_refl _⟩
structure Sim (w0:Base) (G:List Nat) (M:Imm) (ρ:Ren) (h:Heap) (w:World):Prop where
 below:Kept w0 w
 imm:∀b o v,M b o=some v→w.cell? ⟨b,o,none⟩ =some v
 live:∀i ob,h.at' i=some ob→∃l,ρ i=some l∧¬w0.keep l.blk∧qJ M ρ w l ob
 apart:∀i j oi oj li lj,h.at' i=some oi→h.at' j=some oj→ρ i=some li→ρ j=some lj→li.blk=lj.blk→i=j
 gdef:∀b,b∈G→¬w0.keep b∧w.heap[b]? =some (.deferred (some []))
 old:∀b o v,w0.keep b→M b o=some v→w0.O b o=some v
theorem qh {M:Imm} {ρ:Ren} {w w':World} {l:Loc} (hb:w'.heap[l.blk]? =w.heap[l.blk]?):∀ {ob:Obj},qJ M ρ w l ob→qJ M ρ w' l ob
 | .row _,h=>by simpa only[qJ,hb] using h
 | .tok,h=>by simpa only[qJ,hb] using h
 | .map _,h=>by simpa only[qJ,hb] using h
 | .loop _,h=>by simpa only[qJ,hb] using h
 | .siter _ _,h=>by simpa only[qJ,hb] using h
 | .trow _ _ _,h=>by simpa only[qJ,hb] using h
theorem zA3 {M:Imm} {ρ:Ren} {w:World} {l:Loc} :∀ {ob:Obj},qJ M ρ w l ob→l.blk<w.heap.size
 | .row _,h=>by obtain⟨_,c,e,h,_⟩:=h;exact(Array.getElem?_eq_some_iff.1 h).1
 | .tok,h=>by obtain⟨_,_,c,e,h,_⟩:=h;exact(Array.getElem?_eq_some_iff.1 h).1
 | .map _,h=>by obtain⟨c,e,h,_⟩:=h;exact(Array.getElem?_eq_some_iff.1 h).1
 | .loop _,h=>by obtain⟨c,h,_⟩:=h;exact(Array.getElem?_eq_some_iff.1 h).1
 | .siter _ _,h=>by obtain⟨c,h,_⟩:=h;exact(Array.getElem?_eq_some_iff.1 h).1
 | .trow _ _ _,h=>by obtain⟨_,c,e,h,_⟩:=h;exact(Array.getElem?_eq_some_iff.1 h).1
theorem zIc {M M':Imm} {ρ ρ':Ren} (hM:MLe M M') (hr:RLe ρ ρ'):∀ (ds:List (D×D)) (es:List MapEntry),qU M ρ ds es→qU M' ρ' ds es
 | [],_,h=>by simpa [qU] using h
 |(k,d)::ds,_,h=>by
  simp only[qU] at h⊢;obtain⟨e,es',h1,h2,h3,h4⟩:=h;exact⟨e,es',h1,qE hM hr _ _ h2,qE hM hr _ _ h3,zIc hM hr ds es' h4⟩
theorem wE {M M':Imm} {ρ ρ':Ren} {w:World} {l:Loc} (hM:MLe M M') (hr:RLe ρ ρ') (hn:∀o,M l.blk o=none→M' l.blk o=none):∀ {ob:Obj},qJ M ρ w l ob→qJ M' ρ' w l ob
 | .row _,h=>by
  obtain⟨h0,c,e,h1,h2,h3,h4⟩:=h;refine⟨fun o=>hn o (h0 o),c,e,h1,h2,h3,fun i d hi=> ?_⟩;obtain⟨h5,v,a,b⟩:=h4 i d hi;exact⟨h5,v,a,qE hM hr _ _ b⟩
 | .tok,h=>⟨fun o ho=>hn o (h.1 o ho),h.2⟩
 | .map _,h=>by
  obtain⟨en,cl,h1,h2⟩:=h;exact⟨en,cl,h1,zIc hM hr _ _ h2⟩
 | .loop _,h=>by
  obtain⟨L,h1,h2,h3,h4,h5,h6,h7,h9⟩:=h;exact⟨L,h1,h2,h3,h4,h5,h6,h7,fun i=>qE hM hr _ _ (h9 i)⟩
 | .siter _ _,h=>h
 | .trow _ _ _,h=>by
  obtain⟨h0,c,e,h1,h2,h3,h4,g⟩:=h;refine⟨fun o=>hn o (h0 o),c,e,h1,h2,h3,fun i d hi=> ?_,g⟩;obtain⟨h5,v,a,b⟩:=h4 i d hi;exact⟨h5,v,a,qE hM hr _ _ b⟩
def zBg (M:Imm) (b p:Nat) (vs:List Value):Imm:=fun b' o=>if b'=b∧p≤o∧o<p+vs.length then vs[o-p]? else M b' o
def zAE (ρ:Ren) (i:Nat) (l:Loc):Ren:=fun j=>if j=i then some l else ρ j
theorem yw {ρ:Ren} {i:Nat} {l:Loc} (h:ρ i=none):RLe ρ (zAE ρ i l):=fun j m e=>by
 unfold zAE;by_cases hj:j=i
 ·subst hj;rw[h] at e;cases e
 ·simpa [hj] using e
theorem zB4 {M:Imm} {b p:Nat} {vs:List Value} (h:∀o,p≤o→M b o=none):MLe M (zBg M b p vs):=fun b' o v e=>by
 unfold zBg;split
 ·rename_i hc;rw[hc.1,h o hc.2.1] at e;cases e
 ·exact e
theorem zJc {M:Imm} {b p:Nat} {vs:List Value} {i:Nat} {v:Value} (h:vs[i]? =some v):zBg M b p vs b (p+i)=some v:=by
 have hi:i<vs.length:=(List.getElem?_eq_some_iff.1 h).1;unfold zBg;rw[if_pos ⟨rfl,by omega,by omega⟩,show p+i-p=i by omega];exact h
section sim
variable {w0:Base} {G:List Nat} {M:Imm} {ρ:Ren} {h:Heap} {w:World}
theorem Sim.lt (hs:Sim w0 G M ρ h w) {b o:Nat} {v:Value} (e:M b o=some v):b<w.heap.size:=by
 have:=World.block_lt_of_cell? _ _ (hs.imm b o v e);exact this
theorem Sim.none_at (hs:Sim w0 G M ρ h w) {b:Nat} (hb:w.heap.size≤b) (o:Nat):M b o=none:=by
 cases e:M b o with
 |none=>rfl
 |some v=>have:=hs.lt e;omega
theorem Sim.nokeep (hs:Sim w0 G M ρ h w) {b:Nat} (hb:w.heap.size≤b):¬w0.keep b:=fun hk=>by
 have:=w0.kept b hk;have:=hs.below.size;omega
theorem Kept.world {w':World} (hk:Kept w0 w) (hb:Bel w.heap.size w w'):Kept w0 w':=
 ⟨hb.os.trans hk.os,hb.tape.trans hk.tape,hb.output.trans hk.output,Nat.le_trans hk.size hb.size,fun b hq=>(hb.block b (Nat.lt_of_lt_of_le (w0.kept b hq) hk.size)).trans (hk.block b hq),Nat.le_trans hk.drawn hb.drawn⟩
theorem Sim.world (hs:Sim w0 G M ρ h w) {w':World} (hb:Bel w.heap.size w w'):Sim w0 G M ρ h w' where
 below:=hs.below.world hb
 imm b o v e:=by
  have hl:=hs.lt e;have:=hs.imm b o v e;rw[←this];exact World.cell?_of_block (w:=w) (hb.block b hl)
 live i ob e:=by
  obtain⟨l,h1,h2,h3⟩:=hs.live i ob e;exact⟨l,h1,h2,qh (hb.block _ (zA3 h3)) h3⟩
 apart:=hs.apart
 gdef b hb':=by
  obtain⟨h1,h2⟩:=hs.gdef b hb';exact⟨h1,by rw[hb.block b (Array.getElem?_eq_some_iff.1 h2).1];exact h2⟩
 old:=hs.old
theorem Sim.drew (hs:Sim w0 G M ρ h w):Sim w0 G M ρ h w.drew:=hs.world ⟨Below.drew (Below.refl _ _),Nat.le_succ _⟩
theorem Sim.alloc (hs:Sim w0 G M ρ h w) (o:Go.Obj):Sim w0 G M ρ h (w.alloc o):=hs.world ⟨(Below.refl _ _).alloc (Nat.le_refl _) o,Nat.le_refl _⟩
theorem zGr {O:Imm} {K:Nat→Prop} {b' p:Nat} {vs:List Value} (ho:∀b o v,K b→M b o=some v→O b o=some v) (hb:¬K b'):∀b o v,K b→zBg M b' p vs b o=some v→O b o=some v:=fun b o v hk e=>by
 unfold zBg at e;split at e
 ·rename_i hc;rw[hc.1] at hk;exact absurd hk hb
 ·exact ho b o v hk e
theorem Sim.allocImm (hs:Sim w0 G M ρ h w) (c:Array Value) (e:TypeId) (n:Nat):Sim w0 G (zBg M w.heap.size 0 (c.toList.take n)) ρ h (w.alloc (.cells c e)):=by
 have hle:MLe M (zBg M w.heap.size 0 (c.toList.take n)):=zB4 fun o _=>hs.none_at (Nat.le_refl _) o;have ha:=hs.alloc (.cells c e);refine { below:=ha.below,imm:=fun b o v e'=> ?_,live:=fun i ob e'=> ?_,apart:=hs.apart,gdef:=ha.gdef,old:=zGr hs.old (hs.nokeep (Nat.le_refl _)) }
 ·unfold zBg at e';split at e'
  ·rename_i hc;obtain⟨rfl,_,h2⟩:=hc;rw[World.cell?_alloc_new];simp only[Nat.sub_zero,List.getElem?_take] at e';split at e'
   ·simpa using e'
   ·cases e'
  ·exact ha.imm b o v e'
 ·obtain⟨l,h1,h2,h3⟩:=hs.live i ob e';have hl:=zA3 h3;refine⟨l,h1,h2,wE hle (RLe.refl _) (fun o ho=> ?_) (qh (w:=w) (Below.heap_alloc _ _ _ hl) h3)⟩;unfold zBg;rw[if_neg (by omega)];exact ho
theorem Sim.allocObj (hs:Sim w0 G M ρ h w) {nid:Nat} (hn:ρ nid=none) (o:Go.Obj) (ob:Obj) (l:Loc) (hl:l.blk=w.heap.size) (ho:qJ M (zAE ρ nid l) (w.alloc o) l ob):
  Sim w0 G M (zAE ρ nid l) (h.new nid ob) (w.alloc o):=by
 have ha:=hs.alloc o;have hle:=yw (l:=l) hn;refine { below:=ha.below,imm:=ha.imm,live:=fun i ob' e=> ?_,apart:=fun i j oi oj li lj ei ej ri rj hij=> ?_,gdef:=ha.gdef,old:=hs.old }
 ·simp only[Heap.new] at e;split at e
  ·rename_i hi;subst hi;cases e;exact⟨l,by simp[zAE],by rw[hl];exact hs.nokeep (Nat.le_refl _),ho⟩
  ·rename_i hi;obtain⟨l',h1,h2,h3⟩:=ha.live i ob' e;exact⟨l',hle _ _ h1,h2,wE (MLe.refl _) hle (fun _ h=>h) h3⟩
 ·simp only[Heap.new] at ei ej;have key:∀k ok lk,h.at' k=some ok→zAE ρ nid l k=some lk→k≠nid→lk.blk<w.heap.size∧ρ k=some lk:=by
   intro k ok lk ek rk hk;obtain⟨l',h1,_,h3⟩:=hs.live k ok ek;simp only[zAE,hk,if_false] at rk;rw[h1] at rk;cases rk;exact⟨zA3 h3,h1⟩
  by_cases hi:i=nid<;>by_cases hj:j=nid
  ·rw[hi,hj]
  ·exfalso;simp only[hj,if_false] at ej;have:=(key j oj lj ej rj hj).1;simp only[zAE,hi,if_true] at ri;cases ri;omega
  ·exfalso;simp only[hi,if_false] at ei;have:=(key i oi li ei ri hi).1;simp only[zAE,hj,if_true] at rj;cases rj;omega
  ·simp only[hi,if_false] at ei;simp only[hj,if_false] at ej;exact hs.apart i j oi oj li lj ei ej (key i oi li ei ri hi).2 (key j oj lj ej rj hj).2 hij
theorem Sim.del (hs:Sim w0 G M ρ h w) (i:Nat):Sim w0 G M ρ (h.del i) w where
 below:=hs.below
 imm:=hs.imm
 live j ob e:=by
  simp only[Heap.del] at e;split at e
  ·cases e
  ·exact hs.live j ob e
 apart j k oj ok lj lk ej ek:=by
  simp only[Heap.del] at ej ek;split at ej
  ·cases ej
  ·split at ek
   ·cases ek
   ·exact hs.apart j k oj ok lj lk ej ek
 gdef:=hs.gdef
 old:=hs.old
theorem Sim.less (hs:Sim w0 G M ρ h w) {h':Heap} (hl:∀i ob,h'.at' i=some ob→h.at' i=some ob):Sim w0 G M ρ h' w where
 below:=hs.below
 imm:=hs.imm
 live j ob e:=hs.live j ob (hl j ob e)
 apart j k oj ok lj lk ej ek:=hs.apart j k oj ok lj lk (hl _ _ ej) (hl _ _ ek)
 gdef:=hs.gdef
 old:=hs.old
theorem Sim.put (hs:Sim w0 G M ρ h w) {i:Nat} {ob ob':Obj} {l:Loc} (hi:h.at' i=some ob) (hl:ρ i=some l) {w':World} (hos:w'.os=w.os) (htp:w'.tape=w.tape) (hout:w'.output=w.output)
  (hsz:w'.heap.size=w.heap.size) (hk:∀b,b≠l.blk→w'.heap[b]? =w.heap[b]?) (him:∀o v,M l.blk o=some v→w'.cell? ⟨l.blk,o,none⟩ =some v) (hng:∃x,w.heap[l.blk]? =some x∧∀d,x≠ .deferred d)
  (ho:qJ M ρ w' l ob') (hdr:w.drawn≤w'.drawn:=by exact Nat.le_refl _):Sim w0 G M ρ (h.set i ob') w':=by
 obtain⟨l',h1,h2,h3⟩:=hs.live i ob hi;rw[hl] at h1;cases h1;refine { below:=⟨hos.trans hs.below.os,htp.trans hs.below.tape,hout.trans hs.below.output,by rw[hsz];exact hs.below.size,fun k hk'=>by rw[hk k (fun e=>h2 (e▸hk'))];exact hs.below.block k hk',Nat.le_trans hs.below.drawn hdr⟩,imm:=fun b o v e=> ?_,live:=fun j oj e=> ?_,apart:=fun j k oj ok lj lk ej ek rj rk hjk=> ?_,gdef:=fun b hb=> ?_,old:=hs.old }
 ·by_cases hb:b=l.blk
  ·subst hb;exact him o v e
  ·have:=hs.imm b o v e;rw[←this];exact World.cell?_of_block (w:=w) (hk b hb)
 ·simp only[Heap.set] at e;split at e
  ·rename_i hj;subst hj;cases e;exact⟨l,hl,h2,ho⟩
  ·rename_i hj;obtain⟨lj,g1,g2,g3⟩:=hs.live j oj e;refine⟨lj,g1,g2,qh (hk _ fun hb=>hj (hs.apart j i oj ob lj l e hi g1 hl hb)) g3⟩
 ·have key:∀k ok,(h.set i ob').at' k=some ok→∃o',h.at' k=some o':=by
   intro k ok e;simp only[Heap.set] at e;split at e
   ·rename_i hk;subst hk;exact⟨ob,hi⟩
   ·exact⟨ok,e⟩
  obtain⟨o1,e1⟩:=key j oj ej;obtain⟨o2,e2⟩:=key k ok ek;exact hs.apart j k o1 o2 lj lk e1 e2 rj rk hjk
 ·obtain⟨g1,g2⟩:=hs.gdef b hb;refine⟨g1,?_⟩;obtain⟨x,hx,hd⟩:=hng;rw[hk b fun e=>by subst e;rw[hx] at g2;cases g2;exact hd _ rfl];exact g2
end sim
end Go.V
