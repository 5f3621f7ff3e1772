/- A machine of abstract values for programs of the model, and its soundness, part 3. No condition. -/
import Derived.Test.YtkenagjlanhnmaaGreatDoorW02
set_option linter.all false
set_option maxHeartbeats 8000000
noncomputable section
namespace Go.V
open Go.RowKit (Below)
def Heap.emp:Heap:=⟨0,λ_=>none⟩
variable{M M':Imm}{ρ:Ren}{w w':World}{l:Loc}{h h' h0:Heap}{i j nid sz k n id:Nat}{ob:Obj}{P:Program}{f:FuncId}{args:List D}{Q K:D->Heap->Prop}{α:Type}{t:TypeId}{m b:Bool}{ev:Operand->D}{d x:D}{os:List Nat}{bk:Nat->Bool}
def VL(hM:MLe M M')(b:w'.heap[l.blk]? =w.heap[l.blk]?)(c:∀o,M l.blk o=none->M' l.blk o=none):∀{a:Obj},sZ M ρ w l a->sZ M' ρ w' l a:=λ{_} h=>
 rU hM (RLe.refl _) c (sM b h)
def Heap.plus(h:Heap)(h2:Nat->Option Obj):Heap:=⟨h.next,λi=>(h.at' i).or (h2 i)⟩
def mb{a:Nat->Option Obj}(b:h.at' i=some ob):(h.plus a).at' i=some ob:=by simp[Heap.plus,b]
def ZE{b:Nat->Option Obj}(a:(h.plus b).at' i=some ob):h.at' i=some ob\/(h.at' i=none/\b i=some ob):=by
 simp only[Heap.plus]at a;cases c:h.at' i with
 |some o=>rw[c]at a;left;simpa using a
 |none=>rw[c]at a;right;exact⟨rfl,by simpa using a⟩
def bh(h:sZ M ρ w l ob)(d:Option (List Deferred)):w.heap[l.blk]? ≠some (.deferred d):=λe=>by
 cases ob with
 |row _=>obtain⟨_,_,_,g,_⟩:=h;rw[e]at g;cases g
 |tok=>obtain⟨_,_,_,_,g,_⟩:=h;rw[e]at g;cases g
 |map _=>obtain⟨_,_,g,_⟩:=h;rw[e]at g;cases g
 |loop _=>obtain⟨_,g,_⟩:=h;rw[e]at g;cases g
 |siter _ _=>obtain⟨_,g,_⟩:=h;rw[e]at g;cases g
 |trow _ _ _=>obtain⟨_,_,_,g,_⟩:=h;rw[e]at g;cases g
theorem zD.plus{P : Program}{f : FuncId}{args : List D}{h1 : Heap}{Q : D -> Heap -> Prop}(t : Nat -> Option Obj)(hd : ∀ i a, t i = some a -> h1.at' i = none)(hv : zD P f args h1 Q) :
    zD P f args (h1.plus t) λd h' => ∃ m, Q d m /\ h' = m.plus t /\ ∀ i a, t i = some a -> m.at' i = none := by
  refine ⟨hv.1, λw0 G M ρ w va W k V hr => ?_⟩;have own : ∀ i a, t i = some a -> (h1.plus t).at' i = some a := λi a e => by simp [Heap.plus, hd i a e, e]
  let K : Nat -> Prop := λb => b < w.heap.size /\ ∀ i a l, h1.at' i = some a -> ρ i = some l -> l.blk ≠ b
  have Y : Sim ⟨w, M, K, λb c => c.1⟩ [] M ρ h1 w :=
    { below := ⟨rfl, rfl, rfl, zC _, λ_ _ => rfl, zC _⟩, imm := k.imm,
      live := λi a e => by
        obtain ⟨l, h, q, F⟩ := k.live i a (mb e);exact ⟨l, h, λR => R.2 i a l e h rfl, F⟩
      apart := λi j y z S I s n => k.apart i j y z S I (mb s) (mb n)
      gdef := λb c => (by cases c), old := λb o v _ e => e }
  have X : Tg P ⟨w, M, K, λb c => c.1⟩ := W.base k.below λb c => ⟨zl (w0.kept b c) k.below.size, λi a l e g r => by
    obtain ⟨H, h, q, _⟩ := k.live i a (mb e);rw [g]at h; cases h;exact q (r ▸ c)⟩
  refine (hv.2 ⟨w, M, K, λb c => c.1⟩ [] M ρ w va X Y V hr).mono λe w' hq => ?_;obtain ⟨v, M', ρ', d, m, rfl, k1, k2, k3, k4, k5, k6⟩ := hq;have U : ∀ b, K b -> w'.heap[b]? = w.heap[b]? := λb c => k3.below.block b c;have other : ∀ i a, t i = some a -> ∃ l, ρ i = some l /\ ¬ w0.keep l.blk /\ sZ M ρ w l a /\ K l.blk := λi a e => by
    obtain ⟨l, h, q, F⟩ := k.live i a (own i a e);refine ⟨l, h, q, F, mY F, λj z I n B c => ?_⟩;have := k.apart j i z a I l (mb n) (own i a e) B h c;subst this;rw [hd _ _ e]at n; cases n
  have T : ∀ i a, t i = some a -> m.at' i = none := λi a e => by
    obtain ⟨l, h, _, _, C⟩ := other i a e;cases hh : m.at' i with
    | none => rfl
    | some y =>
      obtain ⟨H, p, A, _⟩ := k3.live i y hh;rw [k2 _ _ h]at p; cases p;exact absurd C A
  have E : ∀ b, w0.keep b -> K b := λb c => ⟨zl (w0.kept b c) k.below.size, λi a l e g r => by
    obtain ⟨H, h, q, _⟩ := k.live i a (mb e);rw [g]at h; cases h;exact q (r ▸ c)⟩
  refine ⟨v, M', ρ', d, m.plus t, rfl, k1, k2, ?_, k4, k5, m, k6, rfl, T⟩;have O : ∀ l a, K l.blk -> sZ M ρ w l a -> sZ M' ρ' w' l a := λl a R ho =>
    rU k1 k2 (λo hz => by
      cases e : M' l.blk o with
      | none => rfl
      | some x => have : M l.blk o = some x := k3.old _ _ _ R e
                  rw [this]at hz; cases hz) (sM (U _ R) ho)
  refine { below := ⟨k3.below.os.trans k.below.os, k3.below.tape.trans k.below.tape, k3.below.output.trans k.below.output, zb k.below.size k3.below.size, λb c => ?_, zb k.below.drawn k3.below.drawn⟩, imm := k3.imm, live := λi a N => ?_, apart := λi j y z S I s n J B u => ?_, gdef := λb c => ?_, old := λb o x c e => ?_ }
  · rw [U b (E b c)]; exact k.below.block b c
  · rcases ZE N with N | ⟨_, N⟩
    · obtain ⟨l, p, A, Z⟩ := k3.live i a N
      exact ⟨l, p, λc => A (E _ c), Z⟩
    · obtain ⟨l, h, q, F, C⟩ := other i a N
      exact ⟨l, k2 _ _ h, q, O l a C F⟩
  · rcases ZE s with s | ⟨_, s⟩ <;> rcases ZE n with n | ⟨_, n⟩
    · exact k3.apart i j y z S I s n J B u
    · obtain ⟨l, h, _, _, C⟩ := other j z n
      rw [k2 _ _ h]at B; cases B;obtain ⟨H, p, A, _⟩ := k3.live i y s;rw [J]at p; cases p;rw [u]at A; exact absurd C A
    · obtain ⟨l, h, _, _, C⟩ := other i y s
      rw [k2 _ _ h]at J; cases J;obtain ⟨H, p, A, _⟩ := k3.live j z n;rw [B]at p; cases p;rw [<- u]at A; exact absurd C A
    · obtain ⟨l, h, _⟩ := other i y s
      obtain ⟨H, L, _⟩ := other j z n;rw [k2 _ _ h]at J; cases J;rw [k2 _ _ L]at B; cases B;exact k.apart i j y z S I (own _ _ s) (own _ _ n) h L u
  · obtain ⟨h, q⟩ := k.gdef b c
    refine ⟨h, ?_⟩;rw [U b ⟨k.gdef_lt c, λi a l e g r => ?_⟩]
    · exact q
    · obtain ⟨H, p, _, Z⟩ := k.live i a (mb e)
      rw [g]at p; cases p;exact bh Z _ (by rw [r]; exact q)
  · exact k.old b o x c (k3.old b o x (E b c) e)
def zD.frame{P : Program}{f : FuncId}{args : List D}{Q : D -> Prop}(a : qC 0 args)(A : zD P f args Heap.emp λd _ => below 0 d /\ Q d)(h : Heap) : zD P f args h λd h' => h' = h /\ Q d := by
  refine ⟨A.1, λw0 G M ρ w E r c q hr => ?_⟩
  let B : Base := ⟨w, M, λb => b < w.heap.size, λ_ a => a⟩
  have u : Sim B [] M (λ_ => none) Heap.emp w :=
    { below := ⟨rfl, rfl, rfl, zC _, λ_ _ => rfl, zC _⟩, imm := c.imm, live := λi C e => (by cases e), apart := λi j O R L N e => (by cases e), gdef := λb a => (by cases a), old := λb o v _ e => e }
  have t : wG M (λ_ => none) args E.toList := md 0 M ρ args _ a hr;have s : Tg P B := r.base c.below λb a => zl (w0.kept b a) c.below.size;refine (A.2 B [] M _ w E s u (λ_ _ => rfl) t).mono λe J I => ?_;obtain ⟨v, M', K, d, h', rfl, k1, k2, k3, k4, k5, k6, k7⟩ := I;have g : ∀ b, b < w.heap.size -> J.heap[b]? = w.heap[b]? := λb a => k3.below.block b a;have m : ∀ b, w0.keep b -> b < w.heap.size := λb a => zl (w0.kept b a) c.below.size;refine ⟨v, M', ρ, d, h, rfl, k1, RLe.refl _, ?_, q, u9 (MLe.refl _) (λi l e => by cases e) _ _ (pP 0 M' K d v k6 k5), rfl, k7⟩
  refine { below := ⟨k3.below.os.trans c.below.os, k3.below.tape.trans c.below.tape, k3.below.output.trans c.below.output, zb c.below.size k3.below.size, λb a => by rw [g b (m b a)]; exact c.below.block b a, zb c.below.drawn k3.below.drawn⟩, imm := k3.imm, live := λi C F => ?_, apart := c.apart, gdef := λb a => ?_, old := λb o v a e => ?_ }
  · obtain ⟨l, n, p, y⟩ := c.live i C F
    have k := mY y;refine ⟨l, n, p, VL k1 (g _ k) (λo z => ?_) y⟩;cases e : M' l.blk o with
    | none => rfl
    | some x => have H : M l.blk o = some x := k3.old _ _ _ k e
                rw [H]at z; cases z
  · obtain ⟨n, p⟩ := c.gdef b a
    exact ⟨n, by rw [g b (c.gdef_lt a)]; exact p⟩
  · exact c.old b o v a (k3.old b o v (m b a) e)
theorem zD.frameAt{P : Program}{f : FuncId}{args : List D}{Q : D -> Prop}{h1 : Heap}(m : qC h1.next args)(y : ∀ i k, h1.at' i = some k -> i < h1.next)(hc : ∀ i k, h1.at' i = some k -> ∃ cs, k =.row cs /\ qC 0 cs)
    (hv : zD P f args h1 λd h' => HLe h1 h' /\ below 0 d /\ Q d) (h : Heap) (q : HLe h1 h) : zD P f args h λd h' => h' = h /\ Q d := by
  refine ⟨hv.1, λw0 G M ρ w va T n S hr => ?_⟩;have closed : ∀{M : Imm}{ρ O : Ren}{w : World}{l : Loc}{k : Obj}{i : Nat}, h1.at' i = some k -> sZ M ρ w l k -> sZ M O w l k := λ{M ρ O w l k i} e J => by
    obtain ⟨cs, rfl, R⟩ := hc i k e;obtain ⟨a, c, t, p, r, C, g4⟩ := J;refine ⟨a, c, t, p, r, C, λj d E => ?_⟩;obtain ⟨z, v, q2, F⟩ := g4 j d E;refine ⟨z, v, q2, u9 (MLe.refl _) (λi l e => by cases e) _ _ (pP 0 M ρ d v ?_ F)⟩
    have : ∀(ds : List D)(j : Nat), qC 0 ds -> ds[j]? = some d -> below 0 d := λds => by
      induction ds with
      | nil => intro j _ h; simp at h
      | cons x xs ih =>
        intro j hx E;cases j with
        | zero => simp at E; subst E; exact hx.1
        | succ j => exact ih j hx.2 (by simpa using E)
    exact this cs j R E
  let K : Nat -> Prop := λb => b < w.heap.size /\ ∀ i k l, h1.at' i = some k -> ρ i = some l -> l.blk ≠ b
  let B : Base := ⟨w, M, K, λb m => m.1⟩
  have W : Sim B [] M (Hh h1.next ρ) h1 w :=
    { below := ⟨rfl, rfl, rfl, zC _, λ_ _ => rfl, zC _⟩, imm := n.imm,
      live := λi k e => by
        obtain ⟨l, p, r, C⟩ := n.live i k (q i k e);exact ⟨l, by rw [oU (y i k e)]; exact p, λV => V.2 i k l e p rfl, closed e C⟩
      apart := λi j oi L li Y ei A ri N => n.apart i j oi L li Y (q _ _ ei) (q _ _ A) (by rw [oU (y i oi ei)]at ri; exact ri) (by rw [oU (y j L A)]at N; exact N)
      gdef := λb m => (by cases m), old := λb o v _ e => e }
  have U : Tg P B := T.base n.below λb m => ⟨zl (w0.kept b m) n.below.size, λi k l e g s => by
    obtain ⟨X, p, r, _⟩ := n.live i k (q _ _ e);rw [g]at p; cases p;exact r (s ▸ m)⟩
  refine (hv.2 B [] M _ w va U W (λi I => iq ow) (md _ M ρ args _ m hr)).mono λe w' hq => ?_;obtain ⟨v, M', O, d, h', rfl, k1, k2, k3, k4, k5, k6, k7, k8⟩ := hq;have u : ∀ b, K b -> w'.heap[b]? = w.heap[b]? := λb m => k3.below.block b m;have H : ∀ b, w0.keep b -> K b := λb m => ⟨zl (w0.kept b m) n.below.size, λi k l e g s => by
    obtain ⟨X, p, r, _⟩ := n.live i k (q _ _ e);rw [g]at p; cases p;exact r (s ▸ m)⟩
  refine ⟨v, M', ρ, d, h, rfl, k1, RLe.refl _, ?_, S, u9 (MLe.refl _) (λi l e => by cases e) _ _ (pP 0 M' O d v k7 k5), rfl, k8⟩;refine { below := ⟨k3.below.os.trans n.below.os, k3.below.tape.trans n.below.tape, k3.below.output.trans n.below.output, zb n.below.size k3.below.size, λb m => by rw [u b (H b m)]; exact n.below.block b m, zb n.below.drawn k3.below.drawn⟩, imm := k3.imm, live := λi k I => ?_, apart := n.apart, gdef := λb m => ?_, old := λb o v m e => ?_ }
  · obtain ⟨l, p, r, C⟩ := n.live i k I
    cases hh : h1.at' i with
    | some Z =>
      have he := q i Z hh;rw [I]at he; cases he;obtain ⟨X, z, _, F⟩ := k3.live i k (k6 i k hh);rw [k2 i l (by rw [oU (y i k hh)]; exact p)]at z; cases z;exact ⟨l, p, r, closed hh F⟩
    | none =>
      have hK : K l.blk := ⟨mY C, λj L Y A N m => by
        have := n.apart j i L k Y l (q _ _ A) I N p m;subst this;rw [hh]at A; cases A⟩
      refine ⟨l, p, r, VL k1 (u _ hK) (λo J => ?_) C⟩;cases e : M' l.blk o with
      | none => rfl
      | some x => have V : M l.blk o = some x := k3.old _ _ _ hK e
                  rw [V]at J; cases J
  · obtain ⟨p, r⟩ := n.gdef b m
    refine ⟨p, ?_⟩;rw [u b ⟨n.gdef_lt m, λi k l e g s => ?_⟩]
    · exact r
    · obtain ⟨X, z, _, F⟩ := n.live i k (q _ _ e)
      rw [g]at z; cases z;exact bh F _ (by rw [s]; exact r)
  · exact n.old b o v m (k3.old b o v (H b m) e)
mutual
def frz(id:Nat)(cs:List D):D->D
 |.bool b=>.bool b
 |.int k n=>.int k n
 |.str s=>.str s
 |.nilptr=>.nilptr
 |.ptr i off=>if i=id then .iptr cs off else .ptr i off
 |.iptr es off=>.iptr (cq id cs es) off
 |.nilsl=>.nilsl
 |.sl sz xs tk=>.sl sz (Gy id cs xs) tk
 |.rs i sz off len=>if i=id/\off+len*sz<=cs.length then .sl sz (wK sz len ((cs.drop off).take (len*sz))) .no else .rs i sz off len
 |.nilmap=>.nilmap
 |.map i=>.map i
 |.fn f a c=>.fn f (cq id cs a) (cq id cs c)
 |.yld i=>.yld i
 |.nilfn=>.nilfn
 |.agg es=>.agg (cq id cs es)
 |.tuple es=>.tuple (cq id cs es)
 |.iface t d=>.iface t (frz id cs d)
 |.niliface=>.niliface
def cq(id:Nat)(cs:List D):List D->List D
 | []=>[]
 |d::ds=>frz id cs d::cq id cs ds
def Gy(id:Nat)(cs:List D):List (List D)->List (List D)
 | []=>[]
 |x::xs=>cq id cs x::Gy id cs xs
end
def Jh(id:Nat)(cs:List D):List (D×D)->List (D×D)
 | []=>[]
 |(k,v)::es=>(frz id cs k,frz id cs v)::Jh id cs es
def zJo(id:Nat)(cs:List D):Obj->Obj
 |.row es=>.row (cq id cs es)
 |.tok=>.tok
 |.map es=>.map (Jh id cs es)
 |.loop r=>.loop { r with fr:=λi=>frz id cs (r.fr i) }
 |.siter s p=>.siter s p
 |.trow t full es=>.trow t full (cq id cs es)
def Heap.frz(h:Heap)(id:Nat)(cs:List D):Heap:= { next:=h.next,at':=λi=>if i=id then none else(h.at' i).map (zJo id cs) }
def YJ(id:Nat)(cs:List D)(d:D):(frz id cs d).flat=d.flat:=by
 cases d<;>simp only[frz]<;>(try split)<;>rfl
theorem mU(id:Nat)(cs:List D):∀ds:List D,(cq id cs ds).length=ds.length
 | []=>rfl
 |_::ds=>by simp[cq,mU id cs ds]
theorem XL(id:Nat)(cs:List D):∀ds:List (List D),(Gy id cs ds).length=ds.length
 | []=>rfl
 |_::ds=>by simp[Gy,XL id cs ds]
theorem UY(id:Nat)(cs:List D):∀(ds:List D)(i:Nat),(cq id cs ds)[i]? =(ds[i]?).map (frz id cs)
 | [],_=>by simp[cq]
 |d::ds,0=>by simp[cq]
 |d::ds,i+1=>by simpa [cq]using UY id cs ds i
theorem Rc(id:Nat)(cs:List D):∀ds:List D,(cq id cs ds).all D.flat=ds.all D.flat
 | []=>rfl
 |d::ds=>by simp only[cq,uU,YJ,Rc id cs ds]
section
variable{M M':Imm}{ρ:Ren}{id:Nat}{cs:List D}{l:Loc}
mutual
theorem lm(hM:MLe M M')(k:ρ id=some l)(j:lM M' ρ cs l.blk 0):∀(d:D)(v:Value),rel M ρ d v->rel M' ρ (frz id cs d) v
 |.bool _,_,h=>by simpa [rel,frz]using h
 |.int _ _,_,h=>by simpa [rel,frz]using h
 |.str _,_,h=>by simpa [rel,frz]using h
 |.nilptr,_,h=>by simpa [rel,frz]using h
 |.ptr i off,v,h=>by
  simp only[frz];split
  .rename_i r;subst r
   simp only[rel]at h⊢;obtain⟨A,h1,e⟩:=h;rw[k]at h1;cases h1;exact⟨_,0,by rw[yH];exact e,j⟩
  .exact u9 hM (RLe.refl _) _ _ h
 |.iptr m off,_,h=>by
  simp only[rel,frz]at h⊢;obtain⟨b,p,h1,e⟩:=h;exact⟨b,p,h1,Uz hM k j m b p e⟩
 |.nilsl,_,h=>by simpa [rel,frz]using h
 |.sl sz xs tk,_,h=>by
  simp only[rel,frz,XL]at h⊢;obtain⟨h0,g,b,p,cap,h1,e,h3,s⟩:=h;exact⟨h0,g,b,p,cap,h1,e,MS hM k j sz xs b p h3,s⟩
 |.rs i sz off len,v,h=>by
  simp only[frz];split
  .rename_i r
   obtain⟨rfl,z⟩:=r;simp only[rel]at h⊢;obtain⟨h0,g,A,cap,o,h1,e,h3,s,h5⟩:=h;rw[k]at h1;cases h1;have q:((cs.drop off).take (len*sz)).length=len*sz:=jO;rw[tf];refine⟨h0,g,l.blk,o,cap,⟨none,e,.inl rfl⟩,h3.1,?_,trivial⟩;rcases h5 with h5|h5
   .have:len=0:=ow
    subst this;simp[wK,gg]
   .subst h5
    refine gh _ q (uJ λi d n=> ?_);rw[zu]at n;split at n
    .rw[yy]at n
     obtain⟨w,v,x,y⟩:=nv j _ d n;exact⟨w,v,by rw[<-x,yH],y⟩
    .cases n
  .exact u9 hM (RLe.refl _) _ _ h
 |.nilmap,_,h=>by simpa [rel,frz]using h
 |.map _,_,h=>by simpa [rel,frz]using h
 |.fn f a c,_,h=>by
  simp only[rel,frz]at h⊢;obtain⟨h0,B,C,h1,e,h3⟩:=h;exact⟨h0,B,C,h1,fx hM k j a _ e,fx hM k j c _ h3⟩
 |.yld _,_,h=>by simpa [rel,frz]using h
 |.nilfn,_,h=>by simpa [rel,frz]using h
 |.agg m,_,h=>by
  simp only[rel,frz]at h⊢;obtain⟨vs,h1,e,h3⟩:=h;exact⟨vs,h1,fx hM k j m _ e,by rw[Rc];exact h3⟩
 |.tuple m,_,h=>by
  simp only[rel,frz]at h⊢;obtain⟨vs,h1,e⟩:=h;exact⟨vs,h1,fx hM k j m _ e⟩
 |.iface t d,_,h=>by
  simp only[rel,frz]at h⊢;obtain⟨u,h1,e⟩:=h;exact⟨u,h1,lm hM k j d u e⟩
 |.niliface,_,h=>by simpa [rel,frz]using h
theorem fx(hM:MLe M M')(c:ρ id=some l)(b:lM M' ρ cs l.blk 0):∀(ds:List D)(vs:List Value),wG M ρ ds vs->wG M' ρ (cq id cs ds) vs
 | [],_,h=>by simpa [wG,cq]using h
 |d::ds,_,h=>by
  simp only[wG,cq]at h⊢;obtain⟨v,a,h1,e,h3⟩:=h;exact⟨v,a,h1,lm hM c b d v e,fx hM c b ds a h3⟩
theorem Uz(hM:MLe M M')(c:ρ id=some l)(a:lM M' ρ cs l.blk 0):∀(ds:List D)(b p:Nat),lM M ρ ds b p->lM M' ρ (cq id cs ds) b p
 | [],_,_,_=>by simp[lM,cq]
 |d::ds,b,p,h=>by
  simp only[lM,cq]at h⊢;obtain⟨⟨h0,v,h1,e⟩,h3⟩:=h;exact⟨⟨by rw[YJ];exact h0,v,hM _ _ _ h1,lm hM c a d v e⟩,Uz hM c a ds b (p+1) h3⟩
theorem MS(hM:MLe M M')(c:ρ id=some l)(a:lM M' ρ cs l.blk 0):∀(sz:Nat)(xs:List (List D))(b p:Nat),gg M ρ sz xs b p->gg M' ρ sz (Gy id cs xs) b p
 |_,[],_,_,_=>by simp[gg,Gy]
 |sz,x::xs,b,p,h=>by
  simp only[gg,Gy]at h⊢;exact⟨by rw[mU];exact h.1,Uz hM c a x b p h.2.1,MS hM c a sz xs b (p+sz) h.2.2⟩
end
theorem QK(hM:MLe M M')(c:ρ id=some l)(b:lM M' ρ cs l.blk 0):∀(ds:List (D×D))(f:List MapEntry),pJ M ρ ds f->pJ M' ρ (Jh id cs ds) f
 | [],_,h=>by simpa [pJ,Jh]using h
 |(k,d)::ds,_,h=>by
  simp only[pJ,Jh]at h⊢;obtain⟨e,a,h1,g,h3,i⟩:=h;exact⟨e,a,h1,lm hM c b _ _ g,lm hM c b _ _ h3,QK hM c b ds a i⟩
def VK{q:Loc}(hM:MLe M M')(p:ρ id=some l)(n:lM M' ρ cs l.blk 0)(u:∀o,M q.blk o=none->M' q.blk o=none):∀(z:Obj),sZ M ρ w q z->sZ M' ρ w q (zJo id cs z)
 |.row m,h=>by
  obtain⟨a,c,e,h1,g,h3,k⟩:=h;refine⟨λo=>u o (a o),c,e,h1,g,by rw[mU];exact h3,λi d f=> ?_⟩;rw[UY]at f;cases j:m[i]? with
  |none=>rw[j]at f;cases f
  |some s=>
   rw[j]at f;cases f;obtain⟨h5,v,x,y⟩:=k i s j;exact⟨by rw[YJ];exact h5,v,x,lm hM p n _ _ y⟩
 |.tok,h=>by
  obtain⟨a,b,c,e,h1,g⟩:=h;exact⟨λo H=>u o (a o H),b,c,e,h1,g⟩
 |.map m,h=>by
  obtain⟨B,A,h1,g⟩:=h;exact⟨B,A,h1,QK hM p n _ _ g⟩
 |.loop r,h=>by
  obtain⟨L,h1,g,h3,k,h5,E,F,G⟩:=h;exact⟨L,h1,g,h3,k,h5,E,F,λi=>lm hM p n _ _ (G i)⟩
 |.siter _ _,h=>h
 |.trow t full m,h=>by
  obtain⟨a,c,e,h1,g,h3,k,C,D⟩:=h;refine⟨λo=>u o (a o),c,e,h1,g,by rw[mU];exact h3,λi d f=> ?_,C,by rw[mU];exact D⟩;rw[UY]at f;cases j:m[i]? with
  |none=>rw[j]at f;cases f
  |some s=>
   rw[j]at f;cases f;obtain⟨h5,v,x,y⟩:=k i s j;exact⟨by rw[YJ];exact h5,v,x,lm hM p n _ _ y⟩
end
def zD.freeze(H:zD P f args h λd h'=>∃id cs,h'.at' id=some (.row cs)/\Q (frz id cs d) (h'.frz id cs)):zD P f args h Q:=by
 refine⟨H.1,λw0 G M ρ w Y z S y hr=> ?_⟩;refine(H.2 w0 G M ρ w Y z S y hr).mono λe w' R=> ?_;obtain⟨v,M',J,d,h',rfl,k1,k2,k3,k4,k5,id,cs,k6,k7⟩:=R;obtain⟨l,x,K,O,c,ty,L,Z,g5,N⟩:=k3.live id _ k6;have a:MLe M' (mC M' l.blk 0 (c.toList.take cs.length)):=lV λo _=>O o;have E:lM (mC M' l.blk 0 (c.toList.take cs.length)) J cs l.blk 0:=uJ λi d F=>by
  obtain⟨t,u,C,D⟩:=N i d F;have n:=(zK.1 F).1;refine⟨t,u,?_,u9 a (RLe.refl _) _ _ D⟩;unfold mC;rw[ip ⟨rfl,ow,jO⟩];simp only[yH,tD,zu,ip n];simpa using C
 refine⟨v,mC M' l.blk 0 (c.toList.take cs.length),J,frz id cs d,h'.frz id cs,rfl,k1.trans a,k2,?_,k4,lm a x E _ _ k5,k7⟩;refine { below:=k3.below,imm:=λb o u e=> ?_,live:=λi ob e=> ?_,apart:=λi j oi oj U V k m W X A=> ?_,gdef:=k3.gdef,old:=ZC k3.old K }
 .unfold mC at e
  split at e
  .rename_i g
   obtain⟨rfl,_,n⟩:=g;simp only[tD,zu]at e;split at e
   .simp[World.cell?,L];simpa using e
   .cases e
  .exact k3.imm b o u e
 .simp only[Heap.frz]at e
  split at e
  .cases e
  .rename_i B
   cases s:h'.at' i with
   |none=>rw[s]at e;cases e
   |some r=>
    rw[s]at e;cases e;obtain⟨I,t,C,D⟩:=k3.live i r s;refine⟨I,t,C,VK a x E (λo T=> ?_) _ D⟩;unfold mC;rw[iq λg=>B (k3.apart i id r _ I l s k6 t x g.1)];exact T
 .simp only[Heap.frz]at k m
  split at k
  .cases k
  .split at m
   .cases m
   .cases p:h'.at' i with
    |none=>rw[p]at k;cases k
    |some o1=>
     cases q:h'.at' j with
     |none=>rw[q]at m;cases m
     |some o2=>exact k3.apart i j o1 o2 U V p q W X A
def zD.freezeOr(C:zD P f args h λd h'=>Q d h'\/∃id cs,h'.at' id=some (.row cs)/\Q (frz id cs d) (h'.del id)):zD P f args h Q:=by
 refine⟨C.1,λw0 G M ρ w X r N q hr=> ?_⟩;refine(C.2 w0 G M ρ w X r N q hr).mono λe w' L=> ?_;obtain⟨v,M',z,d,h',rfl,k1,k2,k3,k4,k5,k0| ⟨id,cs,k6,k7⟩⟩:=L
 .exact⟨v,M',z,d,h',rfl,k1,k2,k3,k4,k5,k0⟩
 obtain⟨l,A,F,K,c,ty,H,Y,Z,I⟩:=k3.live id _ k6;have a:MLe M' (mC M' l.blk 0 (c.toList.take cs.length)):=lV λo _=>K o;have J:lM (mC M' l.blk 0 (c.toList.take cs.length)) z cs l.blk 0:=uJ λi d B=>by
  obtain⟨p,u,x,y⟩:=I i d B;have k:=(zK.1 B).1;refine⟨p,u,?_,u9 a (RLe.refl _) _ _ y⟩;unfold mC;rw[ip ⟨rfl,ow,jO⟩];simp only[yH,tD,zu,ip k];simpa using x
 refine⟨v,mC M' l.blk 0 (c.toList.take cs.length),z,frz id cs d,h'.del id,rfl,k1.trans a,k2,?_,k4,lm a A J _ _ k5,k7⟩;refine { below:=k3.below,imm:=λb o u e=> ?_,live:=λi E e=> ?_,apart:=λi j T U R S m n V W s=> ?_,gdef:=k3.gdef,old:=ZC k3.old F }
 .unfold mC at e
  split at e
  .rename_i g
   obtain⟨rfl,_,k⟩:=g;simp only[tD,zu]at e;split at e
   .simp[World.cell?,H];simpa using e
   .cases e
  .exact k3.imm b o u e
 .simp only[Heap.del]at e
  split at e
  .cases e
  .rename_i t
   obtain⟨D,p,x,y⟩:=k3.live i E e;refine⟨D,p,x,rU a (RLe.refl _) (λo O=> ?_) y⟩;unfold mC;rw[iq λg=>t (k3.apart i id E _ D l e k6 p A g.1)];exact O
 .simp only[Heap.del]at m n
  split at m
  .cases m
  .split at n
   .cases n
   .exact k3.apart i j T U R S m n V W s
def zD.freezeD(a:zD P f args h λd h'=>∃id cs,h'.at' id=some (.row cs)/\Q (frz id cs d) (h'.del id)):zD P f args h Q:=.freezeOr (a.mono λ_ _ h=>.inr h)
mutual
def qM:D->D
 |.bool b=>.bool b
 |.int k n=>.int k n
 |.str s=>.str s
 |.nilptr=>.nilptr
 |.ptr i off=>.ptr i off
 |.iptr es off=>.iptr (qU es) off
 |.nilsl=>.nilsl
 |.sl sz xs _=>.sl sz (oJ xs) .no
 |.rs i sz off len=>.rs i sz off len
 |.nilmap=>.nilmap
 |.map i=>.map i
 |.fn f a c=>.fn f (qU a) (qU c)
 |.yld i=>.yld i
 |.nilfn=>.nilfn
 |.agg es=>.agg (qU es)
 |.tuple es=>.tuple (qU es)
 |.iface t d=>.iface t (qM d)
 |.niliface=>.niliface
def qU:List D->List D
 | []=>[]
 |d::ds=>qM d::qU ds
def oJ:List (List D)->List (List D)
 | []=>[]
 |x::xs=>qU x::oJ xs
end
def Vo(d:D):(qM d).flat=d.flat:=by cases d<;>rfl
theorem aA:∀ds:List D,(qU ds).length=ds.length
 | []=>rfl
 |_::ds=>by simp[qU,aA ds]
theorem bz:∀ds:List (List D),(oJ ds).length=ds.length
 | []=>rfl
 |_::ds=>by simp[oJ,bz ds]
theorem WF:∀ds:List D,(qU ds).all D.flat=ds.all D.flat
 | []=>rfl
 |d::ds=>by simp only[qU,uU,Vo,WF ds]
section
variable{M:Imm}{ρ:Ren}
mutual
theorem bq(M:Imm)(ρ:Ren):∀(d:D)(v:Value),rel M ρ d v->rel M ρ (qM d) v
 |.bool _,_,h=>h
 |.int _ _,_,h=>h
 |.str _,_,h=>h
 |.nilptr,_,h=>h
 |.ptr _ _,_,h=>h
 |.iptr g off,_,h=>by
  simp only[rel,qM]at h⊢;obtain⟨b,p,h1,e⟩:=h;exact⟨b,p,h1,ZH M ρ g b p e⟩
 |.nilsl,_,h=>h
 |.sl sz xs tk,_,h=>by
  simp only[rel,qM,bz]at h⊢;obtain⟨h0,i,b,p,cap,h1,e,h3,l⟩:=h;exact⟨h0,i,b,p,cap,h1,e,VW M ρ sz xs b p h3,trivial⟩
 |.rs _ _ _ _,_,h=>h
 |.nilmap,_,h=>h
 |.map _,_,h=>h
 |.fn f a c,_,h=>by
  simp only[rel,qM]at h⊢;obtain⟨h0,j,k,h1,e,h3⟩:=h;exact⟨h0,j,k,h1,mF M ρ a _ e,mF M ρ c _ h3⟩
 |.yld _,_,h=>h
 |.nilfn,_,h=>h
 |.agg g,_,h=>by
  simp only[rel,qM]at h⊢;obtain⟨vs,h1,e,h3⟩:=h;exact⟨vs,h1,mF M ρ g _ e,by rw[WF];exact h3⟩
 |.tuple g,_,h=>by
  simp only[rel,qM]at h⊢;obtain⟨vs,h1,e⟩:=h;exact⟨vs,h1,mF M ρ g _ e⟩
 |.iface t d,_,h=>by
  simp only[rel,qM]at h⊢;obtain⟨u,h1,e⟩:=h;exact⟨u,h1,bq M ρ d u e⟩
 |.niliface,_,h=>h
theorem mF(M:Imm)(ρ:Ren):∀(ds:List D)(vs:List Value),wG M ρ ds vs->wG M ρ (qU ds) vs
 | [],_,h=>h
 |d::ds,_,h=>by
  simp only[wG,qU]at h⊢;obtain⟨v,a,h1,b,h3⟩:=h;exact⟨v,a,h1,bq M ρ d v b,mF M ρ ds a h3⟩
theorem ZH(M:Imm)(ρ:Ren):∀(ds:List D)(b p:Nat),lM M ρ ds b p->lM M ρ (qU ds) b p
 | [],_,_,h=>h
 |d::ds,b,p,h=>by
  simp only[lM,qU]at h⊢;obtain⟨⟨h0,v,h1,a⟩,h3⟩:=h;exact⟨⟨by rw[Vo];exact h0,v,h1,bq M ρ d v a⟩,ZH M ρ ds b (p+1) h3⟩
theorem VW(M:Imm)(ρ:Ren):∀(sz:Nat)(xs:List (List D))(b p:Nat),gg M ρ sz xs b p->gg M ρ sz (oJ xs) b p
 |_,[],_,_,h=>h
 |sz,x::xs,b,p,h=>by
  simp only[gg,oJ]at h⊢;exact⟨by rw[aA];exact h.1,ZH M ρ x b p h.2.1,VW M ρ sz xs b (p+sz) h.2.2⟩
end
end
def xS(c:zD P f args h λd h'=>Q (qM d) h'):zD P f args h Q:=by
 refine⟨c.1,λw0 G M ρ w j b i a hr=> ?_⟩;refine(c.2 w0 G M ρ w j b i a hr).mono λe l g=> ?_;obtain⟨v,M',k,d,h',rfl,k1,k2,k3,k4,k5,k6⟩:=g;exact⟨v,M',k,V.qM d,h',rfl,k1,k2,k3,k4,bq _ _ _ _ k5,k6⟩
abbrev Env:=List (Nat×Cfg)
mutual
def gG:D->Bool
 |.ptr _ _=>false
 |.iptr cs _=>p5 cs
 |.sl _ xs tk=>UE xs&&(match tk with|.own _=>false|_=>true)
 |.rs _ _ _ _=>false
 |.map _=>false
 |.fn _ a c=>p5 a&&p5 c
 |.yld _=>false
 |.agg cs=>p5 cs
 |.tuple cs=>p5 cs
 |.iface _ d=>gG d
 |_=>true
def p5:List D->Bool
 | []=>true
 |d::ds=>gG d&&p5 ds
def UE:List (List D)->Bool
 | []=>true
 |x::xs=>p5 x&&UE xs
end
mutual
theorem oR:∀d,gG d=true->below 0 d
 |.bool _,_=>trivial
 |.int _ _,_=>trivial
 |.str _,_=>trivial
 |.nilptr,_=>trivial
 |.ptr _ _,h=>by cases h
 |.iptr cs _,h=>tE cs h
 |.nilsl,_=>trivial
 |.sl _ xs tk,h=>by
  simp only[gG,zF]at h;simp only[below];refine⟨Zb xs h.1,?_⟩;cases tk with
  |own t=>exact absurd h.2 jS
  |_=>trivial
 |.rs _ _ _ _,h=>by cases h
 |.nilmap,_=>trivial
 |.map _,h=>by cases h
 |.fn _ a c,h=>by
  simp only[gG,zF]at h;exact⟨tE a h.1,tE c h.2⟩
 |.yld _,h=>by cases h
 |.nilfn,_=>trivial
 |.agg cs,h=>tE cs h
 |.tuple cs,h=>tE cs h
 |.iface _ d,h=>oR d h
 |.niliface,_=>trivial
theorem tE:∀ds,p5 ds=true->qC 0 ds
 | [],_=>trivial
 |d::ds,h=>by
  simp only[p5,zF]at h;exact⟨oR d h.1,tE ds h.2⟩
theorem Zb:∀ds,UE ds=true->oG 0 ds
 | [],_=>trivial
 |d::ds,h=>by
  simp only[UE,zF]at h;exact⟨tE d h.1,Zb ds h.2⟩
end
inductive Tr(α:Type) where
 |lf
 |nd (l:Tr α) (x:Option α) (r:Tr α)
def Tr.full{α:Type} :Nat->Tr α
 |0=>.lf
 |k+1=>.nd (Tr.full k) none (Tr.full k)
def Tr.get{α:Type}(t:Tr α):Nat->Option α:=
 Tr.rec (motive:=λ_=>Nat->Option α) (λ_=>none) (λ_ x _ gl gr n=>Nat.casesOn n x λm=>cond (Nat.beq (Nat.mod m 2) 0) (gl (Nat.div m 2)) (gr (Nat.div m 2))) t
def Tr.put{α:Type}(d:α)(t:Tr α):Nat->Option (Tr α):=
 Tr.rec (motive:=λ_=>Nat->Option (Tr α)) (λ_=>none) (λl x r pl pr n=>Nat.casesOn n (some (.nd l (some d) r)) λm=>
  cond (Nat.beq (Nat.mod m 2) 0) (Option.casesOn (pl (Nat.div m 2)) none λl'=>some (.nd l' x r)) (Option.casesOn (pr (Nat.div m 2)) none λr'=>some (.nd l x r'))) t
def Tr.get_nd(l:Tr α)(x:Option α)(r:Tr α)(n:Nat):(Tr.nd l x r).get n=(match n with
  |0=>x
  |m+1=>match m%2 with
   |0=>l.get (m/2)
   |_=>r.get (m/2)):=by
 cases n with
 |zero=>rfl
 |succ m=>
  show cond (Nat.beq (m%2) 0) (l.get (m/2)) (r.get (m/2))=_;rcases tQ m with h|h
  .simp only[h];rfl
  .simp only[h];rfl
def Tr.put_nd(d:α)(l:Tr α)(x:Option α)(r:Tr α)(n:Nat):(Tr.nd l x r).put d n=(match n with
  |0=>some (.nd l (some d) r)
  |m+1=>match m%2 with
   |0=>match l.put d (m/2)with
    |some a=>some (.nd a x r)
    |none=>none
   |_=>match r.put d (m/2)with
    |some b=>some (.nd l x b)
    |none=>none):=by
 cases n with
 |zero=>rfl
 |succ m=>
  have e:(Tr.nd l x r).put d (m+1)=cond (Nat.beq (Nat.mod m 2) 0) (@Option.casesOn (Tr α) (λ_=>Option (Tr α)) (l.put d (Nat.div m 2)) none λa=>some (.nd a x r)) (@Option.casesOn (Tr α) (λ_=>Option (Tr α)) (r.put d (Nat.div m 2)) none λb=>some (.nd l x b)):=rfl;rw[e];change cond (Nat.beq (m%2) 0) (@Option.casesOn (Tr α) (λ_=>Option (Tr α)) (l.put d (m/2)) none λa=>some (.nd a x r)) (@Option.casesOn (Tr α) (λ_=>Option (Tr α)) (r.put d (m/2)) none λb=>some (.nd l x b))=_;rcases tQ m with h|h
  .simp only[h]
   cases l.put d (m/2)<;>rfl
  .simp only[h]
   cases r.put d (m/2)<;>rfl
theorem Tr.put_none{d:α} :∀(t:Tr α)(i:Nat),t.put d i=none->t.get i=none
 |.lf,i,_=>rfl
 |.nd l x r,0,h=>by simp[Tr.put_nd]at h
 |.nd l x r,m+1,h=>by
  simp only[Tr.put_nd]at h;simp only[Tr.get_nd];split at h
  .split at h
   .cases h
   .rename_i a;exact Tr.put_none l _ a
  .split at h
   .cases h
   .rename_i hr;exact Tr.put_none r _ hr
theorem Tr.put_get{d:α} :∀(t c:Tr α)(i j:Nat),t.put d i=some c->c.get j=if j=i then some d else t.get j
 |.lf,c,i,j,h=>by cases h
 |.nd l x r,c,0,j,h=>by
  simp only[Tr.put_nd]at h;cases h;cases j<;>simp[Tr.get_nd]
 |.nd l x r,c,m+1,j,h=>by
  have inj:∀q,q%2=m%2->q/2=m/2->q=m:=λq h1 s=>by omega
  simp only[Tr.put_nd]at h;split at h
  .rename_i f
   split at h
   .rename_i o g
    cases h;cases j with
    |zero=>simp[Tr.get_nd]
    |succ q=>
     simp only[Tr.get_nd];have:=Tr.put_get l o (m/2) (q/2) g;split
     .rename_i b
      rw[this];by_cases a:q=m
      .subst a;simp
      .rw[iq λe=>a (inj q ow e),iq (by omega:¬q+1=m+1)]
     .rename_i b
      rw[iq λe=>b (by rw[<-f];congr 1;omega)]
   .cases h
  .rename_i f
   split at h
   .rename_i p hr
    cases h;cases j with
    |zero=>simp[Tr.get_nd]
    |succ q=>
     simp only[Tr.get_nd];have:=Tr.put_get r p (m/2) (q/2) hr;have k:m%2=1:=by
      rcases tQ m with h0|h0
      .exact absurd h0 f
      .exact h0
     split
     .rename_i b
      rw[iq ow]
     .rename_i b
      have n:q%2=1:=by
       rcases tQ q with h0|h0
       .exact absurd h0 b
       .exact h0
      rw[this];by_cases a:q=m
      .subst a;simp
      .rw[iq λe=>a (inj q ow e),iq (by omega:¬q+1=m+1)]
   .cases h
structure TF where
 base:Frm
 t:Tr D
def TF.fr(F:TF):Frm:=λi=>match F.t.get i with
 |some d=>d
 |none=>F.base i
def TF.put(F:TF)(i:Nat)(d:D):TF:=
 match F.t.put d i with
 |some t=>⟨F.base,t⟩
 |none=>⟨λj=>if j=i then d else F.base j,F.t⟩
def TF.putO(F:TF)(dst:Option Tmp)(d:D):TF:=
 match dst with
 |some i=>F.put i d
 |none=>F
def TF.puts(F:TF):List Tmp->List D->TF
 |t::ts,d::ds=>TF.puts (F.put t d) ts ds
 |_,_=>F
def TF.fr_put(F:TF)(i:Nat)(d:D):(F.put i d).fr=pv F.fr (some i) d:=by
 funext j
 unfold TF.put pv;split
 .rename_i t b
  simp only[TF.fr,Tr.put_get _ _ _ j b];by_cases a:j=i<;>simp[a]
 .rename_i b
  simp only[TF.fr];by_cases a:j=i
  .subst a;simp[Tr.put_none _ _ b]
  .simp[a]
def TF.fr_putO(F:TF)(dst:Option Tmp)(d:D):(F.putO dst d).fr=pv F.fr dst d:=by
 cases dst with
 |none=>rfl
 |some i=>exact F.fr_put i d
theorem TF.fr_puts:∀(a:List Tmp)(ds:List D)(F:TF),(F.puts a ds).fr=ZL F.fr a ds
 | [],_,_=>by simp[TF.puts,ZL]
 |_::_,[],_=>by simp[TF.puts,ZL]
 |t::a,d::ds,F=>by
  simp only[TF.puts,ZL,TF.fr_puts a ds,TF.fr_put]
def TF.of(fr:Frm)(k:Nat):TF:=⟨fr,Tr.full k⟩
theorem Ua:∀(k i:Nat),(Tr.full k:Tr α).get i=none
 |0,_=>rfl
 |k+1,0=>rfl
 |k+1,m+1=>by
  simp only[Tr.full,Tr.get_nd];split<;>exact Ua k _
def TF.of_fr(fr:Frm)(k:Nat):(TF.of fr k).fr=fr:=by
 funext i
 simp[TF.fr,TF.of,Ua]
structure HT where
 next:Nat
 base:Nat->Option Obj
 t:Tr (Option Obj)
def HT.at'(h:HT)(i:Nat):Option Obj:=match h.t.get i with
 |some o=>o
 |none=>h.base i
def HT.heap(h:HT):Heap:=⟨h.next,h.at'⟩
def HT.put(h:HT)(i:Nat)(o:Option Obj):HT:=
 match h.t.put o i with
 |some t=>⟨h.next,h.base,t⟩
 |none=>⟨h.next,λj=>if j=i then o else h.base j,h.t⟩
def HT.put_at(h:HT)(i:Nat)(o:Option Obj)(j:Nat):(h.put i o).at' j=if j=i then o else h.at' j:=by
 unfold HT.put;split
 .rename_i t b
  simp only[HT.at',Tr.put_get _ _ _ j b];by_cases a:j=i<;>simp[a]
 .rename_i b
  simp only[HT.at'];by_cases a:j=i
  .subst a;simp[Tr.put_none _ _ b]
  .simp[a]
def HT.put_next(h:HT)(i:Nat)(o:Option Obj):(h.put i o).next=h.next:=by
 unfold HT.put;split<;>rfl
def HT.puts(h:HT)(h':Heap):List Nat->HT
 | []=>h
 |i::is=>(HT.puts h h' is).put i (h'.at' i)
theorem HT.puts_at(h:HT)(h':Heap)(j:Nat):∀a:List Nat,(h.puts h' a).at' j=if j∈a then h'.at' j else h.at' j
 | []=>by simp[HT.puts]
 |i::a=>by
  simp only[HT.puts,HT.put_at,HT.puts_at h h' j a,z7];by_cases b:j=i
  .subst b;simp
  .simp[b]
def HT.upd(h:HT)(h':Heap)(is:List Nat):HT:=⟨h'.next,(h.puts h' is).base,(h.puts h' is).t⟩
def HT.upd_heap(h:HT)(h':Heap)(b:List Nat)(d:∀j,j∉b->h'.at' j=h.at' j):(h.upd h' b).heap=h':=by
 unfold HT.heap;cases h' with
 |mk n a=>
  congr 1
  funext j
  show(h.puts _ b).at' j=a j;rw[HT.puts_at];split
  .rfl
  .rename_i c;exact(d j c).symm
def HT.emp:HT:=⟨0,λ_=>none,Tr.full 12⟩
def HT.emp_heap:HT.emp.heap=Heap.emp:=by
 unfold HT.heap Heap.emp;congr 1
 funext i
 simp[HT.at',HT.emp,Ua]
def Z7:D->List Nat
 |.ptr i _=>[i]
 |.rs i _ _ _=>[i]
 |.map i=>[i]
 |.sl _ _ tk=>match tk with
  |.own i=>[i]
  |_=>[]
 |_=>[]
def tz(o:Op)(ev:Operand->D)(nid:Nat):List Nat:=
 match o with
 |.alloc _=>[nid]
 |.box _ _=>[nid]
 |.buildSlice _ _ _=>[nid]
 |.makeMap _ _=>[nid]
 |.makeSlice _ _ _=>[nid]
 |.store _ a _=>Z7 (ev a)
 |.mapUpdate _ m _ _=>Z7 (ev m)
 |.insert _ m _ _=>Z7 (ev m)
 |.range _ _=>[nid]
 |.next x _=>Z7 (ev x)
 |.call c=>match c.args.toList with
  |a::_=>nid::Z7 (ev a)
  | []=>[nid]
 |_=>[]
theorem zf{o:Obj}(a:j≠i):(h.new i o).at' j=h.at' j:=by simp[Heap.new,a]
theorem zX{o:Obj}(a:j≠i):(h.set i o).at' j=h.at' j:=by simp[Heap.set,a]
def wM(a:j≠i):(h.del i).at' j=h.at' j:=by simp[Heap.del,a]
def fD{m k v:D}(a:wv P t m k v h=some h')(b:j∉Z7 m):h'.at' j=h.at' j:=by
 unfold wv at a;split at a
 .cases a
 .split at a
  .split at a
   .rename_i id
    split at a
    .split at a
     .split at a
      .cases a
       exact zX (by simpa [Z7]using b)
      .cases a
     .cases a
    .cases a
   .cases a
  .cases a
def TN{e:TypeId}{s d:D}{ys:List D}(a:tB P m nid e sz k s ys h=some (d,h'))(c:j∉nid::Z7 s):h'.at' j=h.at' j:=by
 have h1:j≠nid:=λe=>c (by simp[e]);have b:j∉Z7 s:=λe=>c (by simp[e]);unfold tB at a;split at a
 .split at a
  .cases a;rfl
  .split at a
   .split at a
    .cases a;exact zf h1
    .cases a;exact zf h1
   .cases a
 .split at a
  .split at a
   .cases a
   .split at a
    .cases a;rfl
    .split at a
     .cases a;exact zf h1
     .cases a;exact zf h1
   .split at a
    .split at a
     .cases a
     .cases a
      rw[zf h1,wM (by simpa [Z7]using b)]
    .cases a
  .cases a
 .split at a
  .split at a
   .split at a
    .cases a
     rw[zf h1,wM (by simpa [Z7]using b)]
    .cases a
   .split at a
    .cases a
    .split at a
     .cases a
      rw[zf h1,wM (by simpa [Z7]using b)]
     .cases a
   .cases a
  .cases a
 .cases a
def Zy{s x d:D}(a:qS P m nid t s x h=some (d,h'))(b:j∉nid::Z7 s):h'.at' j=h.at' j:=by
 unfold qS at a;split at a
 .cases a
 .split at a
  .split at a
   .cases a
   .exact TN a b
  .cases a
def QZ{s x:D}(a:j∉Z7 s):(tT s x h).at' j=h.at' j:=by
 unfold tT;split
 .split
  .rfl
  .split
   .split
    .exact zX (by simpa [Z7]using a)
    .rfl
   .rfl
 .rfl
theorem TX{o:Op}(f:vop P m nid o ev h=some (d,h'))(k:j∉tz o ev nid):h'.at' j=h.at' j:=by
 cases o<;>simp only[vop]at f<;>(try (cases f;done))<;>(try (obtain⟨_,_,f⟩:=ze.1 f;cases f;rfl;done))
 case move=>cases f;rfl
 case assign=>cases f;rfl
 case pick=>split at f<;>cases f<;>rfl
 case alloc t=>
  split at f
  .split at f
   .cases f;exact zf (by simpa [tz]using k)
   .cases f
  .cases f
 case box t x=>
  split at f
  .split at f
   .cases f;exact zf (by simpa [tz]using k)
   .cases f;rfl
  .cases f
 case buildSlice t n ps=>
  unfold yD at f;split at f
  .cases f
  .split at f
   .cases f
   .dsimp only at f
    split at f
    .split at f
     .cases f
     .split at f
      .cases f;exact zf (by simpa [tz]using k)
      .cases f;rfl
    .cases f
 case store t a x=>
  obtain⟨w,p,f⟩:=ze.1 f;cases f;unfold yW at p;split at p
  .rename_i id off i
   split at p
   .split at p
    .cases p;exact zX (by simpa [tz,i,Z7]using k)
    .cases p
   .split at p
    .cases p;exact zX (by simpa [tz,i,Z7]using k)
    .cases p
   .cases p
  .cases p
 case makeFunc g a c=>split at f<;>cases f;rfl
 case range t x=>obtain⟨o,rfl⟩:=Qd f;exact zf (by simpa [tz]using k)
 case next x b=>
  rcases Mm f with rfl| ⟨id,off,o,B,rfl⟩
  .rfl
  .exact zX (by simpa [tz,B,Z7]using k)
 case makeMap t r=>
  split at f
  .cases f;exact zf (by simpa [tz]using k)
  .cases f
 case makeSlice t l c=>
  unfold tG at f;split at f
  .split at f
   .dsimp only at f
    split at f
    .split at f
     .cases f;exact zf (by simpa [tz]using k)
     .cases f;rfl
    .cases f
   .cases f
  .cases f
 case mapUpdate t x y z=>
  obtain⟨w,p,f⟩:=ze.1 f;cases f;exact fD p (by simpa [tz]using k)
 case insert t x y z=>
  obtain⟨w,p,f⟩:=ze.1 f;cases f;exact fD p (by simpa [tz]using k)
 case makeInterface t x=>split at f<;>cases f;rfl
 case call c=>
  split at f
  .rename_i b C
   unfold n7 at f;split at f
   .split at f
    .split at f
     .obtain⟨_,_,f⟩:=ze.1 f;cases f;rfl
     .cases f
    .cases f
   .split at f
    .split at f
     .rename_i s x i
      split at f
      .have v:j∉nid::Z7 s:=λv=>k (by
        unfold tz;simp only;cases q:c.args.toList with
        |nil=>rw[q]at i;cases i
        |cons y ys=>
         rw[q]at i;simp only[qe,rL]at i;rw[<-i.1]at v;exact v)
       unfold ny at f;split at f
       .rw[Zy f v,QZ λe=>v (z8 _ e)]
       .exact Zy f v
      .obtain⟨o,rfl⟩:=WI f
       refine zf λu=>k ?_;unfold tz;simp only;cases q:c.args.toList with
       |nil=>rw[u];simp
       |cons y ys=>rw[u];simp
     .cases f
    .cases f
   .split at f
    .obtain⟨_,_,f⟩:=ze.1 f;cases f;rfl
    .cases f
   .split at f
    .obtain⟨_,_,f⟩:=ze.1 f;cases f;rfl
    .cases f
   .split at f
    .split at f
     .split at f
      .split at f
       .cases f;rfl
       .cases f
      .cases f
     .cases f
    .cases f
   .split at f
    .split at f
     .split at f
      .split at f
       .cases f
       .cases f;rfl
       .cases f
      .cases f;rfl
      .cases f
     .cases f
    .cases f
   .split at f
    .split at f
     .rename_i x y i
      rcases aP f with⟨id,rfl,rfl⟩ | ⟨rfl,rfl⟩
      rotate_left
      .rfl
      refine wM λu=>k ?_;unfold tz;simp only;cases q:c.args.toList with
      |nil=>rw[q]at i;cases i
      |cons y ys=>
       rw[q]at i;simp only[qe,rL]at i;show j∈nid::Z7 (ev y);rw[i.1];simp[Z7,u]
     .cases f
    .cases f
   .split at f
    .split at f
     .rename_i x i
      obtain⟨w,A,f⟩:=ze.1 f;cases f;rcases Qb A with rfl| ⟨id,sz,off,n,cs,rfl,rfl⟩ | ⟨id,rfl,rfl⟩
      .rfl
      .refine zX λu=>k ?_
       unfold tz;simp only;cases q:c.args.toList with
       |nil=>rw[q]at i;cases i
       |cons y ys=>
        rw[q]at i;simp only[qe,rL]at i;show j∈nid::Z7 (ev y);rw[i.1];simp[Z7,u]
      .refine zX λu=>k ?_
       unfold tz;simp only;cases q:c.args.toList with
       |nil=>rw[q]at i;cases i
       |cons y ys=>
        rw[q]at i;simp only[qe,rL]at i;show j∈nid::Z7 (ev y);rw[i.1];simp[Z7,u]
     .cases f
    .cases f
   .cases f
  .cases f
def HT.setO(h:HT)(i:Nat)(o:Obj):HT:=h.put i (some o)
def HT.delO(h:HT)(i:Nat):HT:=h.put i none
def HT.newO(h:HT)(i:Nat)(o:Obj):HT:=⟨max h.next (i+1),(h.put i (some o)).base,(h.put i (some o)).t⟩
def HT.setO_heap(h:HT)(i:Nat)(o:Obj):(h.setO i o).heap=h.heap.set i o:=by
 unfold HT.setO HT.heap Heap.set;rw[HT.put_next];congr 1
 funext j
 exact HT.put_at h i _ j
def HT.delO_heap(h:HT)(i:Nat):(h.delO i).heap=h.heap.del i:=by
 unfold HT.delO HT.heap Heap.del;rw[HT.put_next];congr 1
 funext j
 exact HT.put_at h i _ j
def HT.newO_heap(h:HT)(i:Nat)(o:Obj):(h.newO i o).heap=h.heap.new i o:=by
 unfold HT.newO HT.heap Heap.new;congr 1
 funext j
 exact HT.put_at h i _ j
abbrev VT:=Option (D×HT)
abbrev Inv:=Env->D->List D->HT->VT
abbrev XR:=Option (Exit×TF×HT)
def ar(o:Option D)(h:HT):VT:=match o with
 |some d=>some (d,h)
 |none=>none
def zEs(c a b:D)(h:HT):VT:=match c with
 |.bool t=>match t with
  |true=>some (a,h)
  |false=>some (b,h)
 |_=>none
def N4(P:Program)(mu:Bool)(o:Op)(ev:Operand->D)(h:HT):VT:=
 match vop P mu h.next o ev h.heap with
 |some (d,h')=>some (d,h.upd h' (tz o ev h.next))
 |none=>none
def zEr(P:Program)(mu:Bool)(o:Op)(c:Call)(ev:Operand->D)(h:HT):VT:=match c.callee with
 |.builtin .len=>match c.argTypes.toList,c.args.toList with
  | [t],[x]=>ar (o9 P t (ev x) h.heap) h
  |_,_=>none
 |_=>N4 P mu o ev h
def zLv(P:Program)(mu:Bool)(o:Op)(ev:Operand->D)(h:HT):VT:=
 match o with
 |.move x=>some (ev x,h)
 |.assign x=>some (ev x,h)
 |.load t a=>ar (kT P t (ev a) h.heap) h
 |.binOp op t x y _=>ar (kW P op t (isC x||isC y) (ev x) (ev y)) h
 |.unOp op _ x=>ar (vun op (ev x)) h
 |.pick c a b=>zEs (ev c) (ev a) (ev b) h
 |.indexAddr t x i=>ar (yc P t (ev x) (ev i)) h
 |.index t x i=>ar (nS P t (ev x) (ev i)) h
 |.fieldAddr t x f=>ar (pk P t (ev x) f) h
 |.extract x i=>ar (lO (ev x) i) h
 |.convert s d x=>ar (aK P s d (ev x) h.heap) h
 |.build t parts=>ar (qW P t (parts.toList.map λp=>(p.1,ev p.2))) h
 |.slice t x lo hi mx=>ar (uN P t (ev x) (lo.map ev) (hi.map ev) (mx.map ev) h.heap) h
 |.call c=>zEr P mu o c ev h
 |o=>N4 P mu o ev h
def XV{mu:Bool}{o:Op}{h h':HT}(a:N4 P mu o ev h=some (d,h')):vop P mu h.next o ev h.heap=some (d,h'.heap):=by
 unfold N4 at a;split at a
 .rename_i e h1 b
  cases a;rw[h.upd_heap h1 _ λj c=>TX b c];exact b
 .cases a
def VD{o:Option D}{h h':HT}(a:ar o h=some (d,h')):o.map (·,h.heap)=some (d,h'.heap):=by
 unfold ar at a;split at a
 .cases a;rfl
 .cases a
def HK{mu:Bool}{o:Op}{h h':HT}(e:zLv P mu o ev h=some (d,h')):vop P mu h.next o ev h.heap=some (d,h'.heap):=by
 cases o<;>simp only[zLv]at e<;>(try (exact XV e;done))<;>(try (exact VD e;done))<;>(try (cases e;rfl;done))
 case pick c a b=>
  unfold zEs at e;simp only[vop];split at e
  .rename_i t i
   rw[i];cases t<;>(cases e;rfl)
  .cases e
 case call c=>
  unfold zEr at e;split at e
  .rename_i g
   split at e
   .rename_i t x j f
    have:=VD e;simp only[vop,g,n7,j,f,qe,nF];exact this
   .cases e
  .exact XV e
def zIr(P:Program)(inv:D->List D->HT->VT)(mu:Bool)(o:Op)(ev:Operand->D)(h:HT):VT:=
 match uZ o with
 |some (f,args)=>inv (ev f) (args.map ev) h
 |none=>zLv P mu o ev h
mutual
def UU:D->Option Nat
 |.ptr id _=>some id
 |.iptr cs _=>jH cs
 |.sl _ xs _=>Nr xs
 |.rs id _ _ _=>some id
 |.fn _ a c=>(jH a).or (jH c)
 |.agg cs=>jH cs
 |.tuple cs=>jH cs
 |.iface _ d=>UU d
 |_=>none
def jH:List D->Option Nat
 | []=>none
 |d::ds=>(UU d).or (jH ds)
def Nr:List (List D)->Option Nat
 | []=>none
 |x::xs=>(jH x).or (Nr xs)
end
def BG:Nat->D->Heap->D
 |0,d,_=>d
 |k+1,d,h=>match UU d with
  |none=>d
  |some id=>match h.at' id with
   |some (.row cs)=>BG k (frz id cs d) (h.frz id cs)
   |_=>d
theorem zD.settle:∀(k:Nat)(d:D)(h':Heap),zD P f args h (λa b=>a=d/\b=h')->zD P f args h λa _=>a=V.BG k d h'
 |0,d,h',e=>e.mono λa b c=>c.1
 |k+1,d,h',e=>by
  unfold V.BG;split
  .exact e.mono λa b c=>c.1
  .rename_i id _
   split
   .rename_i cs g
    refine zD.settle k _ _ (zD.freeze (e.mono λa b c=> ?_));obtain⟨rfl,rfl⟩:=c;exact⟨id,cs,g,rfl,rfl⟩
   .exact e.mono λa b c=>c.1
def gp(d:D)(h:Heap):D:=qM (BG 16 d h)
def zD.settled_of(e:zD P f args h λa b=>a=d/\b=h'):zD P f args h λa _=>a=V.gp d h':=
 xS ((zD.settle 16 d h' e).mono λa b c=>by rw[c];rfl)
def zNX:Tk->Tk->Bool
 |.no,.no=>true
 |.full,.full=>true
 |_,_=>false
mutual
def eqD:D->D->Bool
 |.bool a,y=>match y with
  |.bool b=>a==b
  |_=>false
 |.int k a,y=>match y with
  |.int k' b=>decide (k=k')&&decide (a=b)
  |_=>false
 |.str a,y=>match y with
  |.str b=>a==b
  |_=>false
 |.nilsl,y=>match y with
  |.nilsl=>true
  |_=>false
 |.sl s xs tk,y=>match y with
  |.sl s' ys tk'=>Nat.beq s s'&&(zNX tk tk'&&zEZ xs ys)
  |_=>false
 |.agg xs,y=>match y with
  |.agg ys=>Gr xs ys
  |_=>false
 |.tuple xs,y=>match y with
  |.tuple ys=>Gr xs ys
  |_=>false
 |_,_=>false
def Gr:List D->List D->Bool
 | [],y=>match y with
  | []=>true
  |_=>false
 |x::xs,y=>match y with
  |y::ys=>eqD x y&&Gr xs ys
  |_=>false
def zEZ:List (List D)->List (List D)->Bool
 | [],y=>match y with
  | []=>true
  |_=>false
 |x::xs,y=>match y with
  |y::ys=>Gr x y&&zEZ xs ys
  |_=>false
end
def AT:∀{a b:Tk},zNX a b=true->a=b
 |.no,.no,_=>rfl
 |.full,.full,_=>rfl
 |.no,.full,h=>by cases h
 |.no,.own _,h=>by cases h
 |.full,.no,h=>by cases h
 |.full,.own _,h=>by cases h
 |.own _,.no,h=>by cases h
 |.own _,.full,h=>by cases h
 |.own _,.own _,h=>by cases h
mutual
theorem zEa:∀(a b:D),eqD a b=true->a=b
 |.bool a,b,h=>by
  simp only[eqD]at h;split at h
  .simpa using h
  .cases h
 |.int k a,b,h=>by
  simp only[eqD]at h;split at h
  .simp only[zF,zO]at h
   rw[h.1,h.2]
  .cases h
 |.str a,b,h=>by
  simp only[eqD]at h;split at h
  .simpa using h
  .cases h
 |.nilsl,b,h=>by
  simp only[eqD]at h;split at h
  .rfl
  .cases h
 |.sl s xs tk,b,h=>by
  simp only[eqD]at h;split at h
  .simp only[zF]at h
   rw[z6 h.1,AT h.2.1,JX _ _ h.2.2]
  .cases h
 |.agg xs,b,h=>by
  simp only[eqD]at h;split at h
  .rw[af _ _ h]
  .cases h
 |.tuple xs,b,h=>by
  simp only[eqD]at h;split at h
  .rw[af _ _ h]
  .cases h
 |.nilptr,_,h=>by simp[eqD]at h
 |.ptr _ _,_,h=>by simp[eqD]at h
 |.iptr _ _,_,h=>by simp[eqD]at h
 |.rs _ _ _ _,_,h=>by simp[eqD]at h
 |.nilmap,_,h=>by simp[eqD]at h
 |.map _,_,h=>by simp[eqD]at h
 |.fn _ _ _,_,h=>by simp[eqD]at h
 |.yld _,_,h=>by simp[eqD]at h
 |.nilfn,_,h=>by simp[eqD]at h
 |.iface _ _,_,h=>by simp[eqD]at h
 |.niliface,_,h=>by simp[eqD]at h
theorem af:∀(a b:List D),Gr a b=true->a=b
 | [],b,h=>by
  simp only[Gr]at h;split at h
  .rfl
  .cases h
 |x::xs,b,h=>by
  simp only[Gr]at h;split at h
  .simp only[zF]at h
   rw[zEa _ _ h.1,af _ _ h.2]
  .cases h
theorem JX:∀(a b:List (List D)),zEZ a b=true->a=b
 | [],b,h=>by
  simp only[zEZ]at h;split at h
  .rfl
  .cases h
 |x::xs,b,h=>by
  simp only[zEZ]at h;split at h
  .simp only[zF]at h
   rw[af _ _ h.1,JX _ _ h.2]
  .cases h
end
def YA(S:List Nat)(h:Heap):Heap:=⟨h.next,λi=>if S.contains i then h.at' i else none⟩
def dn:List D->List Nat
 | []=>[]
 |d::ds=>match d with
  |.rs i _ _ _=>i::dn ds
  |_=>dn ds
def H8(n:Nat):List D->Bool
 | []=>true
 |d::ds=>(match d with
  |.rs i _ _ _=>Nat.blt i n
  |d=>gG d)&&H8 n ds
def BF(h:Heap)(ids:List Nat):Bool:=ids.all λi=>Nat.blt i h.next&&match h.at' i with
 |some (.row cs)=>p5 cs
 |_=>false
def MU(h:Heap)(h':Nat->Option Obj)(ids:List Nat):Bool:=ids.all λi=>match h.at' i with
 |some (.row cs)=>match h' i with
  |some (.row cs')=>Gr cs cs'
  |_=>false
 |_=>false
def Fs(P:Program)(inv:D->List D->HT->VT)(o:Op)(ev:Operand->D)(h:Heap):Option D:=
 match uZ o with
 |some (f,args)=>match ev f with
  |.fn (.func g) a c=>if p5 (a++args.map ev++c)then(match inv (ev f) (args.map ev) HT.emp with
   |some (d,h')=>if gG (gp d h'.heap)then some (gp d h'.heap)else none
   |none=>none)else
   if H8 h.next (a++args.map ev++c)&&BF h (dn (a++args.map ev++c))then(match inv (ev f) (args.map ev) (HT.emp.upd (YA (dn (a++args.map ev++c)) h) (dn (a++args.map ev++c)))with
   |some (d,h')=>if gG d&&MU h h'.at' (dn (a++args.map ev++c))then some d else none
   |none=>none)else none
  |_=>none
 |none=>if sy P false o||ng P o then(vop P false h.next o ev h).map (·.1)else none
def zHk(P:Program)(inv:D->List D->HT->VT)(mu:Tmp->Bool)(ops:Array Oper):List Oper->TF->HT->XR
 | [],fr,h=>some (.normal,fr,h)
 |o::rest,fr,h=>
  match uS ops fr.fr o.guard with
  |true=>match zIr P inv (aS mu o.dst) o.op (qy fr.fr) h with
   |some (d,h')=>zHk P inv mu ops rest (fr.putO o.dst d) h'
   |none=>none
  |false=>zHk P inv mu ops rest (fr.putO o.dst si) h
def HT.dels(h:HT):List Nat->HT
 | []=>h
 |i::is=>(HT.dels h is).delO i
def bd(h:HT)(S:List Nat):List Nat:=S.filter λi=>(h.at' i).isSome
def HR(inv:D->List D->HT->VT)(f:D)(args:List D)(h:HT)(S:List Nat):VT:=
 match f with
 |.fn (.func g) a c=>match inv (.fn (.func g) a c) args (h.dels (bd h S))with
  |some (d,h1)=>some (d,h1.puts h.heap (bd h S))
  |none=>none
 |_=>none
def Wp(P:Program)(inv:D->List D->HT->VT)(mu:Tmp->Bool)(S:List Nat)(h0:Heap)(bk:Nat->Bool)(ops:Array Oper):Bool->List (Nat×Fl)->TF->HT->XR
 |_,[],fr,h=>some (.normal,fr,h)
 |fl,(i,st)::rest,fr,h=>
  match ops[i]? with
  |none=>none
  |some o=>match uS ops fr.fr o.guard with
   |false=>Wp P inv mu S h0 bk ops (fl&& !bk i) rest (fr.putO o.dst si) h
   |true=>match st with
    |.st=>match Fs P inv o.op (qy fr.fr) h0 with
     |some d=>Wp P inv mu S h0 bk ops (fl&& !bk i) rest (fr.putO o.dst d) h
     |none=>none
    |.sq=>none
    |.qu=>if(uZ o.op).isSome then(match Fs P inv o.op (qy fr.fr) h.heap with
     |some d=>Wp P inv mu S h0 bk ops (fl&& !bk i) rest (fr.putO o.dst d) h
     |none=>none)else none
    |.al _=>none
    |.no=>match fl&& !bk i with
     |true=>match uZ o.op with
      |none=>if sy P (aS mu o.dst) o.op||(tz o.op (qy fr.fr) h.next).all (λi=> !S.contains i)then(match vop P (aS mu o.dst) h.next o.op (qy fr.fr) h.heap with
       |some (d,h')=>Wp P inv mu S h0 bk ops true rest (fr.putO o.dst d) (h.upd h' (tz o.op (qy fr.fr) h.next))
       |none=>none)else none
      |some (f,args)=>match HR inv (qy fr.fr f) (args.map (qy fr.fr)) h S with
       |some (d,h')=>Wp P inv mu S h0 bk ops true rest (fr.putO o.dst d) h'
       |none=>none
     |false=>match zIr P inv (aS mu o.dst) o.op (qy fr.fr) h with
      |some (d,h')=>Wp P inv mu S h0 bk ops false rest (fr.putO o.dst d) h'
      |none=>none
mutual
def zNY:D->List Nat
 |.ptr i _=>[i]
 |.rs i _ _ _=>[i]
 |.map i=>[i]
 |.iptr cs _=>zBV cs
 |.sl _ xs _=>zNZ xs
 |.agg cs=>zBV cs
 |.tuple cs=>zBV cs
 |_=>[]
def zBV:List D->List Nat
 | []=>[]
 |d::ds=>zNY d++zBV ds
def zNZ:List (List D)->List Nat
 | []=>[]
 |x::xs=>zBV x++zNZ xs
end
def zEl(h:HT)(S:List Nat):List Nat:=S++S.flatMap λi=>match h.at' i with
 |some (.row cs)=>zBV cs
 |_=>[]
def A8:Op->List Operand
 |.load _ a=>[a]
 |.fieldAddr _ a _=>[a]
 |.indexAddr _ a _=>[a]
 |.lookup _ a _ _=>[a]
 |_=>[]
def zOO(t:Tmp):Operand->Bool
 |.tmp u=>Nat.beq t u
 |_=>false
def IP:List Oper->Tmp->Option Op
 | [],_=>none
 |o::os,t=>match o.dst with
  |some u=>match Nat.beq u t with
   |true=>some o.op
   |false=>IP os t
  |none=>IP os t
def lY(ops:List Oper):Nat->Operand->Nat×Operand
 |0,a=>(0,a)
 |n+1,a=>match a with
  |.tmp t=>match IP ops t with
   |none=>(0,a)
   |some op=>match op with
    |.load _ b=>match lY ops n b with
     |(k,c)=>(k+1,c)
    |.lookup _ b _ _=>match lY ops n b with
     |(k,c)=>(k+1,c)
    |.fieldAddr _ b _=>lY ops n b
    |.indexAddr _ b _=>lY ops n b
    |.nilCheck b=>lY ops n b
    |.move b=>lY ops n b
    |.extract b _=>lY ops n b
    |.field _ b _=>lY ops n b
    |_=>(0,.const (.bool true))
  |_=>(0,a)
def zEm(h:HT):Nat->List Nat->List Nat
 |0,l=>l
 |k+1,l=>zEm h k (zEl h l)
def Jl(ops:Array Oper)(l:List (Nat×Fl))(fr:Frm)(h:HT):List Nat:=l.flatMap λj=>match j.2 with
 |.st=>match ops[j.1]? with
  |some o=>match uZ o.op with
   |some (_,args)=>args.flatMap λa=>match lY ops.toList 8 a with
    |(k,b)=>match k with
     |0=>dn [qy fr b]
     |_+1=>[]
   |none=>(A8 o.op).flatMap λa=>match lY ops.toList 8 a with
    |(k,b)=>zEm h k (zNY (qy fr b))
  |none=>[]
 |_=>[]
def NL(P:Program)(inv:D->List D->HT->VT)(mu:Tmp->Bool)(ops:Array Oper)(l:List (Nat×Fl))(fr:TF)(h:HT):XR:=
 match alN l with
 |_+1=>none
 |0=>match l.any (·.2.isSt)with
 |false=>Wp P inv mu [] (YA [] h.heap) (λ_=>false) ops false l fr h
 |true=>Wp P inv mu (Jl ops l fr.fr h) (YA (Jl ops l fr.fr h) h.heap) (Hf P mu ops l (Z9 ops.toList 0 [])) ops true l fr h
def zEq(b:TF->HT->XR):Nat->TF->HT->XR
 |0,_,_=>none
 |n+1,fr,h=>match b fr h with
  |none=>none
  |some (e,fr',h')=>match e with
   |.normal=>zEq b n fr' h'
   |e=>some (e,fr',h')
def roB(ro:Option Nat)(h:HT):Bool:=
 match ro with
 |none=>true
 |some id=>match h.at' id with
  |some (.loop _)=>true
  |_=>false
def jx(P:Program)(inv:Inv)(g:Cfg)(n fuel:Nat)(ro:Option Nat)(env:Env):Code->TF->HT->XR
 |.skip,fr,h=>some (.normal,fr,h)
 |.region id ops draw,fr,h=>match draw with
  |false=>zHk P (inv env) g.mu ops ops.toList fr h
  |true=>NL P (inv env) g.mu ops (g.dr id) fr h
 |.seq a b,fr,h=>match jx P inv g n fuel ro env a fr h with
  |none=>none
  |some (e,fr',h')=>match e with
   |.normal=>jx P inv g n fuel ro env b fr' h'
   |e=>some (e,fr',h')
 |.cond c a b,fr,h=>match qy fr.fr c with
  |.bool b'=>match b' with
   |true=>jx P inv g n fuel ro env a fr h
   |false=>jx P inv g n fuel ro env b fr h
  |_=>none
 |.block id c,fr,h=>match jx P inv g n fuel ro env c fr h with
  |none=>none
  |some (e,fr',h')=>match e with
   |.exit i=>if i=id then some (.normal,fr',h')else some (.exit i,fr',h')
   |e=>some (e,fr',h')
 |.exit id,fr,h=>some (.exit id,fr,h)
 |.ret,fr,h=>some (.ret,fr,h)
 |.label _,fr,h=>some (.normal,fr,h)
 |.scope c,fr,h=>match jx P inv g n fuel ro env c fr h with
  |none=>none
  |some (e,fr',h')=>match e with
   |.goto _=>none
   |e=>some (e,fr',h')
 |.loop c,fr,h=>zEq (jx P inv g n fuel ro env c) fuel fr h
 |.rangeFunc f ps as body,fr,h=>
  if roB ro h then
   match qy fr.fr f with
   |.fn (.func g') first cap=>match inv ((h.next,g)::env) (.fn (.func g') first cap) [.yld h.next] (h.newO h.next (.loop ⟨.ready,none,fr.fr,ps,as,body,n⟩))with
    |none=>none
    |some (_,h')=>match h'.at' h.next with
     |some (.loop r)=>if r.st=.busy then none else match r.pending with
      |none=>some (.normal,fr,h'.delO h.next)
      |some c=>match c with
       |.ret=>some (.ret,fr,h'.delO h.next)
       |.exit i=>some (.exit i,fr,h'.delO h.next)
       |_=>none
     |_=>none
   |_=>none
  else none
 |_,_,_=>none
def zEY:Env->Nat->Option Cfg
 | [],_=>none
 |(i,g)::env,id=>if i=id then some g else zEY env id
def HS(P:Program)(inv:Inv)(g:Cfg)(fuel:Nat)(env:Env)(id:Nat)(args:List D)(h:HT):VT:=
 match h.at' id with
 |some (.loop ⟨_,_,fr,ps,as,body,n⟩)=>
  if args.length=ps.size&&ps.toList.all (λt=>decide (t<n))&&tO P g n as&&tO P g n body then
   match jx P inv g n fuel (some id) env as ((TF.of fr 8).puts ps.toList args) h with
   |some (e1,fr1,h1)=>match e1 with
    |.normal=>match h1.at' id with
     |some (.loop L1)=>if L1.st=.ready then
       match jx P inv g n fuel (some id) env body fr1 (h1.setO id (.loop { L1 with st:=.busy }))with
       |some (e,_,h2)=>match h2.at' id with
        |some (.loop L2)=>match e with
         |.normal=>some (.bool true,h2.setO id (.loop { L2 with st:=.ready,pending:=none }))
         |.ret=>some (.bool false,h2.setO id (.loop { L2 with st:=.done,pending:=some .ret }))
         |.exit i=>some (.bool false,h2.setO id (.loop { L2 with st:=.done,pending:=some (.exit i) }))
         |_=>none
        |_=>none
       |none=>none
      else none
     |_=>none
    |_=>none
   |none=>none
  else none
 |_=>none
def zL3(P:Program)(inv:Inv)(g:Cfg)(fuel:Nat)(env:Env)(fn:Func)(args:List D)(h:HT):VT:=
 match fn.body with
 |none=>none
 |some co=>if decide (args.length<=fn.ntmps)then
   match jx P inv g fn.ntmps fuel none env co (TF.of (UX args) 8) h with
   |some (e,fr',h')=>match e with
    |.normal=>(n8 P fr'.fr h'.heap fn.results.toList).map λds=>(bi ds,h')
    |.ret=>(n8 P fr'.fr h'.heap fn.results.toList).map λds=>(bi ds,h')
    |_=>none
   |none=>none
  else none
def Pu:Nat->D->HT->D×HT
 |0,d,h=>(d,h)
 |k+1,d,h=>match UU d with
  |none=>(d,h)
  |some id=>match h.at' id with
   |some (.row cs)=>Pu k (frz id cs d) (h.delO id)
   |_=>(d,h)
theorem zD.settleT:∀(k:Nat)(d:D)(h':HT),zD P f args h (λa b=>a=d/\b=h'.heap)->zD P f args h λa b=>a=(V.Pu k d h').1/\b=(V.Pu k d h').2.heap
 |0,d,h',c=>c
 |k+1,d,h',c=>by
  unfold V.Pu;split
  .exact c
  .rename_i id _
   split
   .rename_i cs g
    refine zD.settleT k _ _ (zD.freezeD (c.mono λa b e=> ?_));obtain⟨rfl,rfl⟩:=e;exact⟨id,cs,g,rfl,by rw[HT.delO_heap]⟩
   .exact c
def zAh(b:Bool)(r:VT):VT:=
 match b with
 |false=>r
 |true=>match r with
  |some (d,h)=>some (qM (Pu 64 d h).1,(Pu 64 d h).2)
  |none=>none
def zD.settleR{r:VT}{h':HT}(hr:V.zAh b r=some (d,h'))(g:∀d h',r=some (d,h')->zD P f args h λa b=>a=d/\b=h'.heap):zD P f args h λa b=>a=d/\b=h'.heap:=by
 cases b with
 |false=>exact g d h' hr
 |true=>
  simp only[V.zAh]at hr;cases r with
  |none=>cases hr
  |some x=>
   obtain⟨e,h1⟩:=x;cases hr;exact xS ((zD.settleT 64 e h1 (g e h1 rfl)).mono λa b c=>by rw[c.1,c.2];exact⟨rfl,rfl⟩)
def VI{α:Type} :List (Nat×α)->Nat->Option α
 | [],_=>none
 |(k,x)::l,n=>match Nat.beq k n with
  |true=>some x
  |false=>VI l n
def Pb(P:Program)(g:Cfg)(fn:Func):Bool:=(match fn.body with
 |some co=>tO P g fn.ntmps co
 |none=>true)&& !(fn.name== "runtime.NumGoroutine")
def aU(P:Program):List (Nat× (Func×Cfg))->Prop
 | []=>True
 |(k,x)::l=>(P.funcs[k]? =some x.1/\Pb P x.2 x.1=true)/\aU P l
def Fo(P:Program)(i:Nat)(f:Func)(g:Cfg):Prop:=P.funcs[i]? =some f/\Pb P g f=true
theorem Ry:∀{l:List (Nat× (Func×Cfg))},aU P l->∀g x,VI l g=some x->P.funcs[g]? =some x.1/\Pb P x.2 x.1=true
 | [],_,_,_,h=>by cases h
 |(k,x)::l,a,g,y,h=>by
  simp only[VI]at h;split at h
  .rename_i b
   cases h;rw[<-z6 b];exact a.1
  .exact Ry a.2 g y h
def BJ(b:Bool)(as:List D):List D:=match b with
 |true=>qU as
 |false=>as
def zD.stripA(d:zD P f (V.BJ b args) h Q):zD P f args h Q:=by
 cases b with
 |false=>exact d
 |true=>exact⟨d.1,λw0 G M ρ w g c e a hr=>d.2 w0 G M ρ w g c e a (mF _ _ _ _ hr)⟩
abbrev He:=Option (D×Option (Nat×Obj))
def zIX(u:Option (Nat×Obj))(h:Heap):Heap:=
 match u with
 |none=>h
 |some x=>h.set x.1 x.2
def HT.updO(h:HT)(u:Option (Nat×Obj)):HT:=
 match u with
 |none=>h
 |some x=>h.setO x.1 x.2
def HT.updO_heap(h:HT)(u:Option (Nat×Obj)):(h.updO u).heap=V.zIX u h.heap:=by
 cases u with
 |none=>rfl
 |some x=>exact h.setO_heap x.1 x.2
def Uy(o:Option D):He:=
 match o with
 |some d=>some (d,none)
 |none=>none
def Fq(P:Program)(tab:List (Nat× (Func×Cfg)))(sett:FuncId->Bool)(ext:FuncId->List D->(Nat->Option Obj)->He)(fuel:Nat):Nat->Inv
 |0,_,_,_,_=>none
 |k+1,env,f,args,h=>match f with
  |.fn (.func g) first cap=>match ext g (BJ (sett g) (first++args++cap)) h.at' with
   |some r=>some (r.1,h.updO r.2)
   |none=>match VI tab g with
    |some x=>zAh (sett g) (zL3 P (Fq P tab sett ext fuel k) x.2 fuel env x.1 (BJ (sett g) (first++args++cap)) h)
    |none=>none
  |.yld id=>match zEY env id with
   |some g=>HS P (Fq P tab sett ext fuel k) g fuel env id args h
   |none=>none
  |_=>none
section
variable{P:Program}{inv:Inv}{g:Cfg}{n fuel:Nat}{env:Env}
def WU(P:Program)(inv:Inv):Prop:=∀env f args h d h',inv env f args h=some (d,h')->ZY P f args h.heap λa b=>a=d/\b=h'.heap
def Ml{a d:D}(c:HLe h h')(b:kT P t a h=some d):kT P t a h'=some d:=by
 unfold kT at b⊢;split at b
 .cases b
 .split at b
  .exact b
  .rename_i id off
   cases e:h.at' id with
   |none=>rw[e]at b;cases b
   |some f=>
    rw[e]at b;rw[c id f e];exact b
  .cases b
def Vw{m k d:D}{ok:Bool}(g:HLe h h')(a:uM P t m k ok h=some d):uM P t m k ok h'=some d:=by
 have key:∀c,Wc m h=some c->Wc m h'=some c:=λc b=>by
  unfold Wc at b⊢;split at b
  .exact b
  .rename_i id
   cases i:h.at' id with
   |none=>rw[i]at b;cases b
   |some l=>
    rw[i]at b;rw[g id l i];exact b
  .cases b
 unfold uM at a⊢;cases h1:MA P t with
 |none=>rw[h1]at a;cases a
 |some x=>
  rw[h1]at a;obtain⟨kt,e⟩:=x;simp only at a⊢;cases j:N5 P kt with
  |none=>rw[j]at a;cases a
  |some y=>
   rw[j]at a;obtain⟨ag,ks⟩:=y;simp only at a⊢;cases h3:uo P e with
   |none=>rw[h3]at a;cases a
   |some z=>
    rw[h3]at a;simp only at a⊢;cases f:Wc m h with
    |none=>rw[f]at a;cases a
    |some c=>
     rw[f]at a;rw[key _ f];exact a
def KI{f e mx:Option D}(b:HLe h h')(a:uN P t x f e mx h=some d):uN P t x f e mx h'=some d:=by
 unfold uN at a⊢;split at a
 .split at a
  .unfold TY at a⊢
   split at a
   .rename_i g
    rw[ip g];split at a
    .cases a
    .split at a
     .rename_i id off
      cases c:h.at' id with
      |none=>rw[c]at a;cases a
      |some i=>
       rw[c]at a;simp only[b id i c];exact a
     .exact a
     .cases a
   .cases a
  .cases a
 .exact a
def aM{o:Op}{f:Operand}{args:List Operand}(a:uZ o=some (f,args)):su P m nid o ev h K=ZY P (ev f) (args.map ev) h K:=by
 unfold su;rw[a]
def dD{o:Op}(a:uZ o=none)(b:vop P m nid o ev h=some (d,h')):su P m nid o ev h K=K d h':=by
 unfold su;rw[a];simp only;rw[b]
def V4{o:Op}{h h':HT}(j:WU P inv)(c:zIr P (inv env) m o ev h=some (d,h'))(i:K d h'.heap):su P m h.heap.next o ev h.heap K:=by
 unfold zIr at c;cases g:uZ o with
 |some r=>
  obtain⟨f,args⟩:=r;rw[g]at c;rw[aM g];exact ZY.mono (λa b e=>by rw[e.1,e.2];exact i) (j _ _ _ _ _ _ c)
 |none=>
  rw[g]at c;simp only at c;rw[dD (nid:=h.heap.next) g (HK c)];exact i
def Lo{S:List Nat}(a:j∉S):(YA S h).at' j=HT.emp.at' j:=by
 have h1:HT.emp.at' j=none:=by
  have:=congrArg (λx=>Heap.at' x j) HT.emp_heap;exact this
 rw[h1];simp[YA,a]
mutual
theorem qQ{j k:Nat}(b:j<=k):∀d:D,below j d->below k d
 |.bool _,_=>trivial
 |.int _ _,_=>trivial
 |.str _,_=>trivial
 |.nilptr,_=>trivial
 |.ptr _ _,h=>zl h b
 |.iptr cs _,h=>tI b cs h
 |.nilsl,_=>trivial
 |.sl _ xs tk,h=>by
  simp only[below]at h⊢;refine⟨Ym b xs h.1,?_⟩;have e:=h.2;cases tk with
  |own t=>exact zl e b
  |_=>trivial
 |.rs _ _ _ _,h=>zl h b
 |.nilmap,_=>trivial
 |.map _,h=>zl h b
 |.fn _ a c,h=>⟨tI b a h.1,tI b c h.2⟩
 |.yld _,h=>zl h b
 |.nilfn,_=>trivial
 |.agg cs,h=>tI b cs h
 |.tuple cs,h=>tI b cs h
 |.iface _ d,h=>qQ b d h
 |.niliface,_=>trivial
theorem tI{j k:Nat}(a:j<=k):∀ds:List D,qC j ds->qC k ds
 | [],_=>trivial
 |d::ds,h=>⟨qQ a d h.1,tI a ds h.2⟩
theorem Ym{j k:Nat}(a:j<=k):∀xs:List (List D),oG j xs->oG k xs
 | [],_=>trivial
 |x::xs,h=>⟨tI a x h.1,Ym a xs h.2⟩
end
variable{n:Nat}
theorem Wt:∀(ds:List D),H8 n ds=true->qC n ds
 | [],_=>trivial
 |d::ds,h=>by
  simp only[H8,zF]at h;refine⟨?_,Wt ds h.2⟩;have h1:=h.1;split at h1
  .simp only[below]
   rw[l8]at h1;exact h1
  .exact qQ (yM _) _ (oR _ h1)
def X3(hr:BF h os=true)(c:i∈os)(d:h.at' i=some ob):i<h.next/\∃cs,ob=.row cs/\qC 0 cs:=by
 have:=zT.1 hr i c;simp only[zF]at this;refine⟨by have h1:=this.1;rw[l8]at h1;exact h1,?_⟩;have a:=this.2;rw[d]at a;split at a
 .rename_i cs b;cases b;exact⟨cs,rfl,tE _ a⟩
 .cases a
def U6{h':Nat->Option Obj}(hr:MU h h' os=true)(c:i∈os)(d:h.at' i=some ob):h' i=some ob:=by
 have:=zT.1 hr i c;rw[d]at this;split at this
 .rename_i cs b
  cases b;split at this
  .rename_i cs' a
   rw[a,af _ _ this]
  .cases this
 .cases this
def WP{o:Op}(B:WU P inv)(n:Fs P (inv env) o ev h=some d):Hv P h o ev d:=by
 intro h' v;unfold Fs at n;cases u:uZ o with
 |some r=>
  obtain⟨f,args⟩:=r;rw[u]at n;rw[aM u];simp only at n;split at n
  .rename_i g a c hf
   split at n
   .rename_i w
    split at n
    .rename_i C h0 hr
     split at n
     .rename_i A
      cases n;have:=B _ _ _ _ _ _ hr;rw[hf,HT.emp_heap]at this;rw[hf];exact(zD.frame (Q:=λx=>x=gp C h0.heap) (tE _ w) (zD.mono (zD.settled_of this) λx y p=>by rw[p];exact⟨oR _ A,rfl⟩) h').mono λx y p=>⟨p.2,p.1⟩
     .cases n
    .cases n
   .split at n
    .rename_i w
     simp only[zF]at w;split at n
     .rename_i C h0 hr
      split at n
      .rename_i A
       simp only[zF]at A;cases n;have:=B _ _ _ _ _ _ hr;rw[HT.upd_heap _ _ _ λj D=>Lo D]at this;rw[hf]at this⊢;have l:∀i q,(YA (dn (a++args.map ev++c)) h).at' i=some q->i∈dn (a++args.map ev++c)/\h.at' i=some q:=λi q e=>by
        simp only[YA]at e;split at e
        .rename_i u;exact⟨by simpa using u,e⟩
        .cases e
       refine(zD.frameAt (Q:=λx=>x=d) (h1:=YA (dn (a++args.map ev++c)) h) (Wt _ w.1) (λi q e=> ?_) (λi q e=> ?_) (zD.mono this λx y p=> ?_) h' λi q e=>v i q (l i q e).2).mono λx y p=>⟨p.2,p.1⟩
       .exact(X3 w.2 (l i q e).1 (l i q e).2).1
       .exact(X3 w.2 (l i q e).1 (l i q e).2).2
       .obtain⟨rfl,rfl⟩:=p
        exact⟨λi q e=>U6 A.2 (l i q e).1 (l i q e).2,oR _ A.1,rfl⟩
      .cases n
     .cases n
    .cases n
  .cases n
 |none=>
  rw[u]at n;simp only at n;split at n
  .rename_i z
   cases b:vop P false h.next o ev h with
   |none=>rw[b]at n;cases n
   |some r=>
    rw[b]at n;cases n;rcases yn _ _▸z with z|z
    .obtain⟨F,hr⟩:=mG (P:=P) (ev:=ev) z
     rw[hr]at b;cases F with
     |none=>cases b
     |some x=>
      cases b;rw[dD u (hr h'.next h')];exact⟨rfl,rfl⟩
    .cases o<;>simp only[ng]at z<;>(try (cases z;done))<;>simp only[vop]at b
     .rename_i t a _
      cases s:kT P t (ev a) h with
      |none=>rw[s]at b;cases b
      |some x=>
       rw[s]at b;cases b;rw[dD (d:=x) (h':=h') u (by simp only[vop,Ml v s,qZ])];exact⟨rfl,rfl⟩
     .rename_i t x E B mx _
      cases s:uN P t (ev x) (E.map ev) (B.map ev) (mx.map ev) h with
      |none=>rw[s]at b;cases b
      |some y=>
       rw[s]at b;cases b;rw[dD (d:=y) (h':=h') u (by simp only[vop,KI v s,qZ])];exact⟨rfl,rfl⟩
     .rename_i t m k ok _
      cases s:uM P t (ev m) (ev k) ok h with
      |none=>rw[s]at b;cases b
      |some x=>
       rw[s]at b;cases b;rw[dD (d:=x) (h':=h') u (by simp only[vop,Vw v s,qZ])];exact⟨rfl,rfl⟩
  .cases n
def Iu{o:Op}(b:(uZ o).isSome=true)(c:Hv P h o ev d):su P m nid o ev h λa h'=>a=d/\h'=h:=by
 obtain⟨r,hr⟩:=uf.1 b;obtain⟨f,args⟩:=r;have:=c h λ_ _ e=>e;rw[aM hr]at this⊢;exact this
theorem ZU{mu:Tmp->Bool}{ops:Array Oper}(d:WU P inv){K:Frm->Heap->Prop}{Q:Exit->Frm->Heap->Prop}(f:Q .normal=K):∀(l:List Oper)(fr:TF)(h:HT)(e:Exit)(a:TF)(h':HT),zHk P (inv env) mu ops l fr h=some (e,a,h')->Q e a.fr h'.heap->
  WT P mu ops l K fr.fr h.heap
 | [],fr,h,e,a,h',b,c=>by
  cases b;rw[f]at c;exact c
 |o::rest,fr,h,e,a,h',b,c=>by
  simp only[zHk]at b;simp only[WT];cases i:uS ops fr.fr o.guard with
  |true=>
   rw[i]at b;simp only at b⊢;split at b
   .rename_i g
    refine V4 d g ?_;rw[<-TF.fr_putO];exact ZU d f rest _ _ e a h' b c
   .cases b
  |false=>
   rw[i]at b;simp only at b⊢;rw[<-TF.fr_putO];exact ZU d f rest _ _ e a h' b c
theorem HT.dels_at(h:HT)(j:Nat):∀a:List Nat,(h.dels a).at' j=if j∈a then none else h.at' j
 | []=>by simp[HT.dels]
 |i::a=>by
  simp only[HT.dels,HT.delO,HT.put_at,HT.dels_at h j a,z7];by_cases b:j=i
  .subst b;simp
  .simp[b]
theorem HT.dels_next(h:HT):∀a:List Nat,(h.dels a).next=h.next
 | []=>rfl
 |i::a=>by simp only[HT.dels,HT.delO,HT.put_next,HT.dels_next h a]
theorem HT.puts_next(h:HT)(h':Heap):∀a:List Nat,(h.puts h' a).next=h.next
 | []=>rfl
 |i::a=>by simp only[HT.puts,HT.put_next,HT.puts_next h h' a]
def Z1{f d:D}{h h':HT}{S:List Nat}(v:WU P inv)(m:HR (inv env) f args h S=some (d,h'))(r:K d h'.heap):ZY P f args h.heap K/\∀i∈S,∀n,h.at' i=some n->h'.at' i=some n:=by
 unfold HR at m;split at m
 .rename_i g a c
  split at m
  .rename_i x h1 hr
   cases m;refine⟨?_,λi q n o=> ?_⟩
   .have s:=v _ _ _ _ _ _ hr
    simp only[ZY]at s⊢
    let k:Nat->Option Obj:=λi=>if i∈bd h S then h.at' i else none
    have u:h.heap=(h.dels (bd h S)).heap.plus k:=by
     unfold Heap.plus HT.heap;simp only[HT.dels_next];congr 1
     funext i
     simp only[HT.dels_at,k];by_cases j:i∈bd h S<;>simp[j]
    rw[u];refine(zD.plus k (λi n e=> ?_) s).mono λa b p=> ?_
    .simp only[k]at e
     split at e
     .rename_i j
      show(h.dels _).at' i=none;rw[HT.dels_at,ip j]
     .cases e
    .obtain⟨t,⟨rfl,rfl⟩,rfl,w⟩:=p
     have:(h1.puts h.heap (bd h S)).heap=h1.heap.plus k:=by
      unfold Heap.plus HT.heap;simp only[HT.puts_next];congr 1
      funext i
      rw[HT.puts_at];simp only[k];by_cases j:i∈bd h S
      .simp only[ip j]
       have l:(h.at' i).isSome=true:=by
        unfold bd at j;exact(rM.1 j).2
       obtain⟨n,o⟩:=uf.1 l;have:=w i n (by simp only[k];rw[ip j];exact o);have this:h1.at' i=none:=this;rw[this];rfl
      .simp[j]
     rw[this]at r;exact r
   .rw[HT.puts_at,ip]
    .exact o
    .unfold bd
     exact rM.2 ⟨q,by simp[o]⟩
  .cases m
 .cases m
theorem rg{mu:Tmp->Bool}{S:List Nat}(c:∀i s,h0.at' i=some s->i∈S){ops:Array Oper}(p:WU P inv){K:Frm->Heap->Prop}{Q:Exit->Frm->Heap->Prop}(w:Q .normal=K):∀(l:List (Nat×Fl))(fl:Bool)(fr:TF)(h:HT)(e:Exit)(b:TF)(h':HT),(fl=true->HLe h0 h.heap)->
  Wp P (inv env) mu S h0 bk ops fl l fr h=some (e,b,h')->Q e b.fr h'.heap->nR P mu h0 bk ops fl l K fr.fr h.heap
 | [],fl,fr,h,e,b,h',hf,a,q=>by
  cases a;rw[w]at q;exact q
 |(i,st)::rest,fl,fr,h,e,b,h',hf,a,q=>by
  simp only[Wp]at a;simp only[nR];have m:(fl&& !bk i)=true->HLe h0 h.heap:=λz=>hf (by simp only[zF]at z;exact z.1);cases F:ops[i]? with
  |none=>rw[F]at a;cases a
  |some o=>
   rw[F]at a;simp only at a⊢;unfold ux;cases E:uS ops fr.fr o.guard with
   |false=>
    rw[E]at a;simp only at a⊢;rw[<-TF.fr_putO];exact⟨m,rg c p w rest _ _ _ e b h' m a q⟩
   |true=>
    rw[E]at a;simp only at a⊢;cases st with
    |al k=>simp only at a;cases a
    |qu=>
     simp only at a⊢;split at a
     .rename_i x
      split at a
      .rename_i d C
       refine fF ?_ (Iu x (WP p C));rintro G h' ⟨rfl,rfl⟩;refine⟨rfl,m,?_⟩;rw[<-TF.fr_putO];exact rg c p w rest _ _ _ e b _ m a q
      .cases a
     .cases a
    |sq=>cases a
    |st=>
     simp only at a⊢;split at a
     .rename_i d C
      refine⟨d,WP p C,m,?_⟩;rw[<-TF.fr_putO];exact rg c p w rest _ _ _ e b h' m a q
     .cases a
    |no=>
     simp only at a⊢;cases t:(fl&& !bk i)with
     |true=>
      rw[t]at a;simp only at a;have v:=m t;cases x:uZ o.op with
      |none=>
       rw[x]at a;simp only at a;split at a
       .rename_i n
        split at a
        .rename_i d h1 y
         rw[dD (nid:=h.heap.next) x y];have A:=h.upd_heap h1 (tz o.op (qy fr.fr) h.next) λj B=>TX y B;have g:HLe h0 h1:=by
          rcases yn _ _▸n with n|n
          .obtain⟨r,hr⟩:=mG (P:=P) (ev:=qy fr.fr) n
           rw[hr]at y;cases r with
           |none=>cases y
           |some r=>cases y;exact v
          .simp only[zT,qI,rx,wY]at n
           intro i s e;rw[TX y λB=>n i B (c i s e)];exact v i s e
         refine⟨λ_=>g,?_⟩;rw[<-TF.fr_putO,<-A];exact rg c p w rest _ _ _ e b h' (λ_=>by rw[A];exact g) a q
        .cases a
       .cases a
      |some r=>
       obtain⟨f,args⟩:=r;rw[x]at a;simp only at a;split at a
       .rename_i d h1 z
        rw[aM x];have g:HLe h0 h1.heap:=λi s e=>(Z1 (K:=λ_ _=>True) p z trivial).2 i (c i s e) s (v i s e);refine(Z1 p z ?_).1;refine⟨λ_=>g,?_⟩;rw[<-TF.fr_putO];exact rg c p w rest _ _ _ e b h' (λ_=>g) a q
       .cases a
     |false=>
      rw[t]at a;simp only at a;split at a
      .rename_i d h1 D
       refine V4 p D ⟨λu=>(by cases u),?_⟩;rw[<-TF.fr_putO];exact rg c p w rest _ _ _ e b h' (λu=>by cases u) a q
      .cases a
theorem Vu{mu:Tmp->Bool}{ops:Array Oper}{K:Frm->Heap->Prop} :∀(l:List (Nat×Fl))(fr:Frm)(h:Heap),nR P mu h0 (λ_=>false) ops false l K fr h->nR P mu h0 bk ops false l K fr h
 | [],_,_,a=>a
 |(i,st)::rest,fr,h,a=>by
  simp only[nR,wi]at a⊢;split
  .rename_i b;rw[b]at a;exact a
  .rename_i o b
   rw[b]at a;exact ox (λd h' c=>⟨c.1,Vu rest _ _ c.2⟩) a
def Tb{mu:Tmp->Bool}{ops:Array Oper}{l:List (Nat×Fl)}(g:WU P inv){K:Frm->Heap->Prop}{Q:Exit->Frm->Heap->Prop}(k:Q .normal=K){fr:TF}{h:HT}{e:Exit}{d:TF}{h':HT}(b:NL P (inv env) mu ops l fr h=some (e,d,h'))(j:Q e d.fr h'.heap):
  ∃h0,HLe h0 h.heap/\dw P mu h0 (Hf P mu ops l (Z9 ops.toList 0 [])) ops (l.any (·.2.isSt)) l K fr.fr h.heap:=by
 have hr:∀S,HLe (YA S h.heap) h.heap:=λS i f e=>by
  simp only[YA]at e;split at e
  .exact e
  .cases e
 have n:∀S i f,(YA S h.heap).at' i=some f->i∈S:=λS i f e=>by
  simp only[YA]at e;split at e
  .rename_i o;simpa using o
  .cases e
 unfold NL at b;cases c:alN l with
 |succ m=>rw[c]at b;cases b
 |zero=>
 rw[c]at b;simp only[aL c];simp only at b;split at b
 .rename_i a
  rw[a];exact⟨_,hr [],Vu _ _ _ (rg (n []) g k _ _ _ _ _ _ _ (λe=>by cases e) b j)⟩
 .rename_i a
  rw[a];exact⟨_,hr _,rg (n _) g k _ _ _ _ _ _ _ (λ_=>hr _) b j⟩
def La{ro:Option Nat}{c:Code}{b:TF->HT->XR}{Q:Exit->Frm->Heap->Prop}(m:∀fr h e a h' Q,b fr h=some (e,a,h')->Q e a.fr h'.heap->vwp P g n ro c Q fr.fr h.heap){fr:TF}{h:HT}{e:Exit}{a:TF}{h':HT}(p:zEq b k fr h=some (e,a,h'))(o:Q e a.fr h'.heap):
  vwp P g n ro (.loop c) Q fr.fr h.heap:=by
 simp only[vwp];refine⟨λk l h0=>∃fr h,fr.fr=l/\h.heap=h0/\zEq b k fr h=some (e,a,h'),⟨k,fr,h,rfl,rfl,p⟩,λk l h0 d=> ?_⟩;obtain⟨fr,h,rfl,rfl,d⟩:=d;cases k with
 |zero=>cases d
 |succ k=>
  simp only[zEq]at d;split at d
  .cases d
  .rename_i e1 f h1 i
   refine m _ _ _ _ _ _ i ?_;split at d
   .exact⟨k,ow,f,h1,rfl,rfl,d⟩
   .rename_i j
    cases d;cases e with
    |normal=>exact absurd rfl j
    |_=>exact o
theorem t6(p:WU P inv):∀(co:Code)(ro:Option Nat)(Q:Exit->Frm->Heap->Prop)(fr:TF)(h:HT)(e:Exit)(j:TF)(h':HT),jx P inv g n fuel ro env co fr h=some (e,j,h')->Q e j.fr h'.heap->vwp P g n ro co Q fr.fr h.heap
 |.skip,ro,Q,fr,h,e,j,h',d,k=>by cases d;exact k
 |.exit id,ro,Q,fr,h,e,j,h',d,k=>by cases d;exact k
 |.ret,ro,Q,fr,h,e,j,h',d,k=>by cases d;exact k
 |.region id ops x,ro,Q,fr,h,e,j,h',d,k=>by
  simp only[jx]at d;simp only[vwp];split at d
  .exact ZU p rfl _ _ _ _ _ _ d k
  .exact Tb p rfl d k
 |.seq a b,ro,Q,fr,h,e,j,h',d,k=>by
  simp only[jx]at d;simp only[vwp];split at d
  .cases d
  .rename_i e1 s h1 o
   refine t6 p a ro _ _ _ _ _ _ o ?_;split at d
   .exact t6 p b ro Q _ _ _ _ _ d k
   .rename_i m
    cases d;cases e with
    |normal=>exact absurd rfl m
    |_=>exact k
 |.cond c a b,ro,Q,fr,h,e,j,h',d,k=>by
  simp only[jx]at d;simp only[vwp];split at d
  .rename_i y
   rw[y];split at d
   .exact t6 p a ro Q _ _ _ _ _ d k
   .exact t6 p b ro Q _ _ _ _ _ d k
  .cases d
 |.block id c,ro,Q,fr,h,e,j,h',d,k=>by
  simp only[jx]at d;simp only[vwp];split at d
  .cases d
  .rename_i e1 s h1 o
   refine t6 p c ro _ _ _ _ _ _ o ?_;split at d
   .split at d
    .rename_i hid
     cases d;simp only[jk,ip hid];exact k
    .rename_i hid
     cases d;simp only[jk,iq hid];exact k
   .rename_i m
    cases d;cases e with
    |exit i=>exact absurd rfl (m i)
    |_=>exact k
 |.loop c,ro,Q,fr,h,e,j,h',d,k=>by
  simp only[jx]at d;exact La (λfr h e j h' Q d k=>t6 p c ro Q fr h e j h' d k) d k
 |.rangeFunc f B as body,ro,Q,fr,h,e,j,h',d,k=>by
  simp only[jx]at d;simp only[vwp];split at d
  .rename_i q
   refine⟨?_,?_⟩
   .cases ro with
    |none=>trivial
    |some id=>
     simp only[roB]at q⊢;split at q
     .rename_i r hr;exact⟨r,hr⟩
     .cases q
   .split at d
    .rename_i A first cap hf
     rw[hf];split at d
     .cases d
     .rename_i z h1 t
      have:=p _ _ _ _ _ _ t;rw[HT.newO_heap]at this;refine zD.mono this λa b u=> ?_;obtain⟨_,rfl⟩:=u;split at d
      .rename_i r hr
       refine⟨r,hr,?_⟩;split at d
       .cases d
       .rename_i w
        refine⟨w,?_⟩;show Wd r.pending Q fr.fr (h1.heap.del h.next);rw[<-HT.delO_heap];split at d
        .rename_i v
         cases d;rw[v];exact k
        .rename_i c v
         rw[v];split at d
         .cases d;exact k
         .cases d;exact k
         .cases d
      .cases d
    .cases d
  .cases d
 |.label _,ro,Q,fr,h,e,j,h',d,k=>by cases d;exact k
 |.goto _,_,_,_,_,_,_,_,d,_=>by cases d
 |.scope c,ro,Q,fr,h,e,j,h',d,k=>by
  simp only[jx]at d;simp only[vwp];split at d
  .cases d
  .rename_i e1 s h1 o
   refine t6 p c ro _ _ _ _ _ _ o ?_;split at d
   .cases d
   .rename_i m
    cases d;cases e with
    |goto l=>exact absurd rfl (m l)
    |_=>exact k
 |.refuse ..,_,_,_,_,_,_,_,d,_=>by cases d
variable{id:Nat}
def Qj(f:P.follows .mixedOrders=true)(p:WU P inv){h h':HT}(c:HS P inv g fuel env id args h=some (d,h')):wo P id args h.heap λa b=>a=d/\b=h'.heap:=by
 unfold HS at c;split at c
 .rename_i st A fr B as body n y
  split at c
  .rename_i o
   simp only[zF,zO]at o;obtain⟨⟨⟨s,t⟩,u⟩,v⟩:=o;refine wo.of_round (h:=h.heap) f y s t u v ?_;split at c
   .rename_i e1 w h1 l
    rw[<-TF.of_fr fr 8,<-TF.fr_puts];refine t6 p as (some id) _ _ _ _ _ _ l ?_;split at c
    .split at c
     .rename_i q i
      split at c
      .rename_i k
       refine⟨q,i,k,?_⟩;rw[<-HT.setO_heap];split at c
       .rename_i e x z m
        refine t6 p body (some id) _ _ _ _ _ _ m ?_;split at c
        .rename_i r j
         refine⟨r,j,?_⟩;unfold U5;split at c
         .cases c;exact⟨rfl,by rw[HT.setO_heap]⟩
         .cases c;exact⟨rfl,by rw[HT.setO_heap]⟩
         .cases c;exact⟨rfl,by rw[HT.setO_heap]⟩
         .cases c
        .cases c
       .cases c
      .cases c
     .cases c
    .cases c
   .cases c
  .cases c
 .cases c
def KL(k:P.follows .mixedOrders=true)(o:WU P inv){fn:Func}(hf:P.funcs[f]? =some fn)(i:Pb P g fn=true){h h':HT}(c:zL3 P inv g fuel env fn args h=some (d,h')):zD P f args h.heap λa b=>a=d/\b=h'.heap:=by
 unfold zL3 at c;unfold Pb at i;split at c
 .cases c
 .rename_i co m
  rw[m]at i;simp only[zF,qI]at i;split at c
  .rename_i n
   simp only[zO]at n;refine zD.of_body k hf m i.2 i.1 n ?_;split at c
   .rename_i e j h1 l
    rw[<-TF.of_fr (UX args) 8];refine t6 o co none _ _ _ _ _ _ l ?_;unfold Hi;split at c
    .refine⟨trivial,?_⟩
     cases hr:n8 P j.fr h1.heap fn.results.toList with
     |none=>rw[hr]at c;cases c
     |some ds=>rw[hr]at c;cases c;exact⟨rfl,rfl⟩
    .refine⟨trivial,?_⟩
     cases hr:n8 P j.fr h1.heap fn.results.toList with
     |none=>rw[hr]at c;cases c
     |some ds=>rw[hr]at c;cases c;exact⟨rfl,rfl⟩
    .cases c
   .cases c
  .cases c
end
variable{P:Program}{M M':Imm}{l:Loc}{n id:Nat}
theorem ZT(e:P.follows .mixedOrders=true){tab:List (Nat× (Func×Cfg))}(j:aU P tab){l:FuncId->Bool}{ext:FuncId->List D->(Nat->Option Obj)->He}
  (i:∀g args (h:Heap) r,ext g args h.at'=some r->zD P g args h λa b=>a=r.1/\b=zIX r.2 h) {fuel:Nat} :∀k,WU P (Fq P tab l ext fuel k)
 |0=>λenv f args h d h' c=>by cases c
 |k+1=>λenv f args h d h' c=>by
  simp only[Fq]at c;split at c
  .rename_i g first cap
   simp only[ZY];split at c
   .rename_i p o
    cases c;rw[HT.updO_heap];exact zD.stripA (i _ _ h.heap _ o)
   .split at c
    .rename_i x hf
     obtain⟨m,n⟩:=Ry j _ _ hf;exact zD.stripA<|zD.settleR c λd h' c=>KL e (ZT e j i k) m n c
    .cases c
  .rename_i id
   simp only[ZY];split at c
   .exact Qj e (ZT e j i k) c
   .cases c
  .cases c
def zD.of_run(i:P.follows .mixedOrders=true){tab:List (Nat× (Func×Cfg))}(j:aU P tab){c:FuncId->Bool}{ext:FuncId->List D->(Nat->Option Obj)->He}
  (e:∀g args (h:Heap) r,ext g args h.at'=some r->zD P g args h λa b=>a=r.1/\b=zIX r.2 h) {fuel k:Nat} (p:p5 args=true) (q:gG d=true)
  (l:(Fq P tab c ext fuel k [] (.fn (.func f) [] []) args HT.emp).map (λr=>gp r.1 r.2.heap)=some d) (h:Heap):zD P f args h λa b=>b=h/\a=d:=by
 cases hr:Fq P tab c ext fuel k [] (.fn (.func f) [] []) args HT.emp with
 |none=>rw[hr]at l;cases l
 |some r=>
  obtain⟨o,h'⟩:=r;rw[hr]at l;have n:gp o h'.heap=d:=by simpa using l
  have:=ZT i j e k _ _ _ _ _ _ hr;simp only[ZY,yU,yK]at this;rw[HT.emp_heap]at this;exact zD.frame (Q:=λa=>a=d) (tE _ p) ((zD.settled_of this).mono λa b m=>by rw[m,n];exact⟨oR _ q,rfl⟩) h
def zi(m:List Nat)(d:List (Nat×List (Nat×Fl))):Cfg:=⟨λt=>List.contains (α:=Nat) m t,λi=>(VI (α:=List (Nat×Fl)) d i).getD []⟩
def nr(a:Nat):Nat->List (Nat×Fl)
 |0=>[]
 |n+1=>(a,.no)::nr (a+1) n
end Go.V
end
