/- A machine of abstract values for programs of the model, and its soundness, part 4. No condition. -/
import Derived.Test.YtalepjdbhjinhaaGreatDoorW03
set_option linter.all false
noncomputable section
namespace Go.V
open Go.RowKit (Below)
def Heap.emp:Heap:=⟨0,fun _=>none⟩
theorem zIq {M M':Imm} {ρ:Ren} {w w':World} {l:Loc} (hM:MLe M M') (hb:w'.heap[l.blk]? =w.heap[l.blk]?) (hn:∀o,M l.blk o=none→M' l.blk o=none):∀ {ob:Obj},qJ M ρ w l ob→qJ M' ρ w' l ob:=fun {_} h=>
 wE hM (RLe.refl _) hn (qh hb h)
def Heap.plus (h:Heap) (h2:Nat→Option Obj):Heap:=⟨h.next,fun i=>(h.at' i).or (h2 i)⟩
theorem zBB {h:Heap} {h2:Nat→Option Obj} {i:Nat} {ob:Obj} (hi:h.at' i=some ob):(h.plus h2).at' i=some ob:=by simp[Heap.plus,hi]
theorem zE6 {h:Heap} {h2:Nat→Option Obj} {i:Nat} {ob:Obj} (hi:(h.plus h2).at' i=some ob):h.at' i=some ob∨(h.at' i=none∧h2 i=some ob):=by
 simp only[Heap.plus] at hi;cases hh:h.at' i with
 |some o=>rw[hh] at hi;left;simpa using hi
 |none=>rw[hh] at hi;right;exact⟨rfl,by simpa using hi⟩
theorem zEH {M:Imm} {ρ:Ren} {w:World} {l:Loc} {ob:Obj} (h:qJ M ρ w l ob) (d:Option (List Deferred)):w.heap[l.blk]? ≠some (.deferred d):=fun e=>by
 cases ob with
 |row _=>obtain⟨_,_,_,g,_⟩:=h;rw[e] at g;cases g
 |tok=>obtain⟨_,_,_,_,g,_⟩:=h;rw[e] at g;cases g
 |map _=>obtain⟨_,_,g,_⟩:=h;rw[e] at g;cases g
 |loop _=>obtain⟨_,g,_⟩:=h;rw[e] at g;cases g
 |siter _ _=>obtain⟨_,g,_⟩:=h;rw[e] at g;cases g
 |trow _ _ _=>obtain⟨_,_,_,g,_⟩:=h;rw[e] at g;cases g
theorem zA.plus {P : Program} {f : FuncId} {args : List D} {h1 : Heap} {Q : D → Heap → Prop} (h2 : Nat → Option Obj) (hd : ∀ i ob, h2 i = some ob → h1.at' i = none) (hv : zA P f args h1 Q) :
    zA P f args (h1.plus h2) fun d h' => ∃ h1', Q d h1' ∧ h' = h1'.plus h2 ∧ ∀ i ob, h2 i = some ob → h1'.at' i = none := by
  refine ⟨hv.1, fun w0 G M ρ w va hg0 hs hfr hr => ?_⟩;have own : ∀ i ob, h2 i = some ob → (h1.plus h2).at' i = some ob := fun i ob e => by simp [Heap.plus, hd i ob e, e]
  let K : Nat → Prop := fun b => b < w.heap.size ∧ ∀ i ob l, h1.at' i = some ob → ρ i = some l → l.blk ≠ b
  have hs' : Sim ⟨w, M, K, fun b hb => hb.1⟩ [] M ρ h1 w :=
    { below := ⟨rfl, rfl, rfl, Nat.le_refl _, fun _ _ => rfl, Nat.le_refl _⟩, imm := hs.imm,
      live := fun i ob e => by
        obtain ⟨l, g1, g2, g3⟩ := hs.live i ob (zBB e);exact ⟨l, g1, fun hk => hk.2 i ob l e g1 rfl, g3⟩
      apart := fun i j oi oj li lj ei ej => hs.apart i j oi oj li lj (zBB ei) (zBB ej)
      gdef := fun b hb => (by cases hb), old := fun b o v _ e => e }
  have hgB : zJn P ⟨w, M, K, fun b hb => hb.1⟩ := hg0.base hs.below fun b hb => ⟨Nat.lt_of_lt_of_le (w0.kept b hb) hs.below.size, fun i ob l e g hbl => by
    obtain ⟨l', g1, g2, _⟩ := hs.live i ob (zBB e);rw [g] at g1; cases g1;exact g2 (hbl ▸ hb)⟩
  refine (hv.2 ⟨w, M, K, fun b hb => hb.1⟩ [] M ρ w va hgB hs' hfr hr).mono fun e w' hq => ?_;obtain ⟨v, M', ρ', d, h1', rfl, k1, k2, k3, k4, k5, k6⟩ := hq;have hK : ∀ b, K b → w'.heap[b]? = w.heap[b]? := fun b hb => k3.below.block b hb;have other : ∀ i ob, h2 i = some ob → ∃ l, ρ i = some l ∧ ¬ w0.keep l.blk ∧ qJ M ρ w l ob ∧ K l.blk := fun i ob e => by
    obtain ⟨l, g1, g2, g3⟩ := hs.live i ob (own i ob e);refine ⟨l, g1, g2, g3, zA3 g3, fun j oj lj ej rj hb => ?_⟩;have := hs.apart j i oj ob lj l (zBB ej) (own i ob e) rj g1 hb;subst this;rw [hd _ _ e] at ej; cases ej
  have dis : ∀ i ob, h2 i = some ob → h1'.at' i = none := fun i ob e => by
    obtain ⟨l, g1, _, _, g4⟩ := other i ob e;cases hh : h1'.at' i with
    | none => rfl
    | some oi =>
      obtain ⟨l', q1, q2, _⟩ := k3.live i oi hh;rw [k2 _ _ g1] at q1; cases q1;exact absurd g4 q2
  have w0K : ∀ b, w0.keep b → K b := fun b hb => ⟨Nat.lt_of_lt_of_le (w0.kept b hb) hs.below.size, fun i ob l e g hbl => by
    obtain ⟨l', g1, g2, _⟩ := hs.live i ob (zBB e);rw [g] at g1; cases g1;exact g2 (hbl ▸ hb)⟩
  refine ⟨v, M', ρ', d, h1'.plus h2, rfl, k1, k2, ?_, k4, k5, h1', k6, rfl, dis⟩;have objK : ∀ l ob, K l.blk → qJ M ρ w l ob → qJ M' ρ' w' l ob := fun l ob hk ho =>
    wE k1 k2 (fun o hz => by
      cases e : M' l.blk o with
      | none => rfl
      | some x => have : M l.blk o = some x := k3.old _ _ _ hk e
                  rw [this] at hz; cases hz) (qh (hK _ hk) ho)
  refine { below := ⟨k3.below.os.trans hs.below.os, k3.below.tape.trans hs.below.tape, k3.below.output.trans hs.below.output, Nat.le_trans hs.below.size k3.below.size, fun b hb => ?_, Nat.le_trans hs.below.drawn k3.below.drawn⟩, imm := k3.imm, live := fun i ob hi => ?_, apart := fun i j oi oj li lj ei ej ri rj hij => ?_, gdef := fun b hb => ?_, old := fun b o x hb e => ?_ }
  · rw [hK b (w0K b hb)]; exact hs.below.block b hb
  · rcases zE6 hi with hi | ⟨_, hi⟩
    · obtain ⟨l, q1, q2, q3⟩ := k3.live i ob hi
      exact ⟨l, q1, fun hb => q2 (w0K _ hb), q3⟩
    · obtain ⟨l, g1, g2, g3, g4⟩ := other i ob hi
      exact ⟨l, k2 _ _ g1, g2, objK l ob g4 g3⟩
  · rcases zE6 ei with ei | ⟨_, ei⟩ <;> rcases zE6 ej with ej | ⟨_, ej⟩
    · exact k3.apart i j oi oj li lj ei ej ri rj hij
    · obtain ⟨l, g1, _, _, g4⟩ := other j oj ej
      rw [k2 _ _ g1] at rj; cases rj;obtain ⟨l', q1, q2, _⟩ := k3.live i oi ei;rw [ri] at q1; cases q1;rw [hij] at q2; exact absurd g4 q2
    · obtain ⟨l, g1, _, _, g4⟩ := other i oi ei
      rw [k2 _ _ g1] at ri; cases ri;obtain ⟨l', q1, q2, _⟩ := k3.live j oj ej;rw [rj] at q1; cases q1;rw [← hij] at q2; exact absurd g4 q2
    · obtain ⟨l, g1, _⟩ := other i oi ei
      obtain ⟨l', g1', _⟩ := other j oj ej;rw [k2 _ _ g1] at ri; cases ri;rw [k2 _ _ g1'] at rj; cases rj;exact hs.apart i j oi oj li lj (own _ _ ei) (own _ _ ej) g1 g1' hij
  · obtain ⟨g1, g2⟩ := hs.gdef b hb
    refine ⟨g1, ?_⟩;rw [hK b ⟨hs.gdef_lt hb, fun i ob l e g hbl => ?_⟩]
    · exact g2
    · obtain ⟨l', q1, _, q3⟩ := hs.live i ob (zBB e)
      rw [g] at q1; cases q1;exact zEH q3 _ (by rw [hbl]; exact g2)
  · exact hs.old b o x hb (k3.old b o x (w0K b hb) e)
theorem zA.frame {P : Program} {f : FuncId} {args : List D} {Q : D → Prop} (hb : yB 0 args) (hv : zA P f args Heap.emp fun d _ => below 0 d ∧ Q d) (h : Heap) : zA P f args h fun d h' => h' = h ∧ Q d := by
  refine ⟨hv.1, fun w0 G M ρ w va hg0 hs hfr hr => ?_⟩
  let B : Base := ⟨w, M, fun b => b < w.heap.size, fun _ hb => hb⟩
  have hs' : Sim B [] M (fun _ => none) Heap.emp w :=
    { below := ⟨rfl, rfl, rfl, Nat.le_refl _, fun _ _ => rfl, Nat.le_refl _⟩, imm := hs.imm, live := fun i ob e => (by cases e), apart := fun i j oi oj li lj e => (by cases e), gdef := fun b hb => (by cases hb), old := fun b o v _ e => e }
  have hr' : zy M (fun _ => none) args va.toList := zBA 0 M ρ args _ hb hr;have hgB : zJn P B := hg0.base hs.below fun b hb => Nat.lt_of_lt_of_le (w0.kept b hb) hs.below.size;refine (hv.2 B [] M _ w va hgB hs' (fun _ _ => rfl) hr').mono fun e w' hq => ?_;obtain ⟨v, M', ρ', d, h', rfl, k1, k2, k3, k4, k5, k6, k7⟩ := hq;have hblk : ∀ b, b < w.heap.size → w'.heap[b]? = w.heap[b]? := fun b hb => k3.below.block b hb;have w0K : ∀ b, w0.keep b → b < w.heap.size := fun b hb => Nat.lt_of_lt_of_le (w0.kept b hb) hs.below.size
  refine ⟨v, M', ρ, d, h, rfl, k1, RLe.refl _, ?_, hfr, qE (MLe.refl _) (fun i l e => by cases e) _ _ (wZ 0 M' ρ' d v k6 k5), rfl, k7⟩;refine { below := ⟨k3.below.os.trans hs.below.os, k3.below.tape.trans hs.below.tape, k3.below.output.trans hs.below.output, Nat.le_trans hs.below.size k3.below.size, fun b hb => by rw [hblk b (w0K b hb)]; exact hs.below.block b hb, Nat.le_trans hs.below.drawn k3.below.drawn⟩, imm := k3.imm, live := fun i ob hi => ?_, apart := hs.apart, gdef := fun b hb => ?_, old := fun b o v hb e => ?_ }
  · obtain ⟨l, g1, g2, g3⟩ := hs.live i ob hi
    have hlt := zA3 g3;refine ⟨l, g1, g2, zIq k1 (hblk _ hlt) (fun o ho => ?_) g3⟩;cases e : M' l.blk o with
    | none => rfl
    | some x => have hk : M l.blk o = some x := k3.old _ _ _ hlt e
                rw [hk] at ho; cases ho
  · obtain ⟨g1, g2⟩ := hs.gdef b hb
    exact ⟨g1, by rw [hblk b (hs.gdef_lt hb)]; exact g2⟩
  · exact hs.old b o v hb (k3.old b o v (w0K b hb) e)
theorem zA.frameAt {P : Program} {f : FuncId} {args : List D} {Q : D → Prop} {h1 : Heap} (hb : yB h1.next args) (hlt : ∀ i ob, h1.at' i = some ob → i < h1.next) (hc : ∀ i ob, h1.at' i = some ob → ∃ cs, ob = .row cs ∧ yB 0 cs)
    (hv : zA P f args h1 fun d h' => HLe h1 h' ∧ below 0 d ∧ Q d) (h : Heap) (hle : HLe h1 h) : zA P f args h fun d h' => h' = h ∧ Q d := by
  refine ⟨hv.1, fun w0 G M ρ w va hg0 hs hfr hr => ?_⟩;have closed : ∀ {M : Imm} {ρ ρ' : Ren} {w : World} {l : Loc} {ob : Obj} {i : Nat}, h1.at' i = some ob → qJ M ρ w l ob → qJ M ρ' w l ob := fun {M ρ ρ' w l ob i} e ho => by
    obtain ⟨cs, rfl, hcs⟩ := hc i ob e;obtain ⟨a, c, t, g1, g2, g3, g4⟩ := ho;refine ⟨a, c, t, g1, g2, g3, fun j d hj => ?_⟩;obtain ⟨q1, v, q2, q3⟩ := g4 j d hj;refine ⟨q1, v, q2, qE (MLe.refl _) (fun i l e => by cases e) _ _ (wZ 0 M ρ d v ?_ q3)⟩
    have : ∀ (ds : List D) (j : Nat), yB 0 ds → ds[j]? = some d → below 0 d := fun ds => by
      induction ds with
      | nil => intro j _ h; simp at h
      | cons x xs ih =>
        intro j hx hj;cases j with
        | zero => simp at hj; subst hj; exact hx.1
        | succ j => exact ih j hx.2 (by simpa using hj)
    exact this cs j hcs hj
  let K : Nat → Prop := fun b => b < w.heap.size ∧ ∀ i ob l, h1.at' i = some ob → ρ i = some l → l.blk ≠ b
  let B : Base := ⟨w, M, K, fun b hb => hb.1⟩
  have hs' : Sim B [] M (zUD h1.next ρ) h1 w :=
    { below := ⟨rfl, rfl, rfl, Nat.le_refl _, fun _ _ => rfl, Nat.le_refl _⟩, imm := hs.imm,
      live := fun i ob e => by
        obtain ⟨l, g1, g2, g3⟩ := hs.live i ob (hle i ob e);exact ⟨l, by rw [zAI (hlt i ob e)]; exact g1, fun hk => hk.2 i ob l e g1 rfl, closed e g3⟩
      apart := fun i j oi oj li lj ei ej ri rj => hs.apart i j oi oj li lj (hle _ _ ei) (hle _ _ ej) (by rw [zAI (hlt i oi ei)] at ri; exact ri) (by rw [zAI (hlt j oj ej)] at rj; exact rj)
      gdef := fun b hb => (by cases hb), old := fun b o v _ e => e }
  have hgB : zJn P B := hg0.base hs.below fun b hb => ⟨Nat.lt_of_lt_of_le (w0.kept b hb) hs.below.size, fun i ob l e g hbl => by
    obtain ⟨l', g1, g2, _⟩ := hs.live i ob (hle _ _ e);rw [g] at g1; cases g1;exact g2 (hbl ▸ hb)⟩
  refine (hv.2 B [] M _ w va hgB hs' (fun i hi => if_neg (by omega)) (zBA _ M ρ args _ hb hr)).mono fun e w' hq => ?_;obtain ⟨v, M', ρ', d, h', rfl, k1, k2, k3, k4, k5, k6, k7, k8⟩ := hq;have hblk : ∀ b, K b → w'.heap[b]? = w.heap[b]? := fun b hb => k3.below.block b hb;have w0K : ∀ b, w0.keep b → K b := fun b hb => ⟨Nat.lt_of_lt_of_le (w0.kept b hb) hs.below.size, fun i ob l e g hbl => by
    obtain ⟨l', g1, g2, _⟩ := hs.live i ob (hle _ _ e);rw [g] at g1; cases g1;exact g2 (hbl ▸ hb)⟩
  refine ⟨v, M', ρ, d, h, rfl, k1, RLe.refl _, ?_, hfr, qE (MLe.refl _) (fun i l e => by cases e) _ _ (wZ 0 M' ρ' d v k7 k5), rfl, k8⟩;refine { below := ⟨k3.below.os.trans hs.below.os, k3.below.tape.trans hs.below.tape, k3.below.output.trans hs.below.output, Nat.le_trans hs.below.size k3.below.size, fun b hb => by rw [hblk b (w0K b hb)]; exact hs.below.block b hb, Nat.le_trans hs.below.drawn k3.below.drawn⟩, imm := k3.imm, live := fun i ob hi => ?_, apart := hs.apart, gdef := fun b hb => ?_, old := fun b o v hb e => ?_ }
  · obtain ⟨l, g1, g2, g3⟩ := hs.live i ob hi
    cases hh : h1.at' i with
    | some ob1 =>
      have he := hle i ob1 hh;rw [hi] at he; cases he;obtain ⟨l', q1, _, q3⟩ := k3.live i ob (k6 i ob hh);rw [k2 i l (by rw [zAI (hlt i ob hh)]; exact g1)] at q1; cases q1;exact ⟨l, g1, g2, closed hh q3⟩
    | none =>
      have hK : K l.blk := ⟨zA3 g3, fun j oj lj ej rj hb => by
        have := hs.apart j i oj ob lj l (hle _ _ ej) hi rj g1 hb;subst this;rw [hh] at ej; cases ej⟩
      refine ⟨l, g1, g2, zIq k1 (hblk _ hK) (fun o ho => ?_) g3⟩;cases e : M' l.blk o with
      | none => rfl
      | some x => have hk : M l.blk o = some x := k3.old _ _ _ hK e
                  rw [hk] at ho; cases ho
  · obtain ⟨g1, g2⟩ := hs.gdef b hb
    refine ⟨g1, ?_⟩;rw [hblk b ⟨hs.gdef_lt hb, fun i ob l e g hbl => ?_⟩]
    · exact g2
    · obtain ⟨l', q1, _, q3⟩ := hs.live i ob (hle _ _ e)
      rw [g] at q1; cases q1;exact zEH q3 _ (by rw [hbl]; exact g2)
  · exact hs.old b o v hb (k3.old b o v (w0K b hb) e)
mutual
def frz (id:Nat) (cs:List D):D→D
 | .bool b=> .bool b
 | .int k n=> .int k n
 | .str s=> .str s
 | .nilptr=> .nilptr
 | .ptr i off=>if i=id then .iptr cs off else .ptr i off
 | .iptr es off=> .iptr (zG9 id cs es) off
 | .nilsl=> .nilsl
 | .sl sz xs tk=> .sl sz (zXz id cs xs) tk
 | .rs i sz off len=>if i=id∧off+len*sz≤cs.length then .sl sz (yT sz len ((cs.drop off).take (len*sz))) .no else .rs i sz off len
 | .nilmap=> .nilmap
 | .map i=> .map i
 | .fn f a c=> .fn f (zG9 id cs a) (zG9 id cs c)
 | .yld i=> .yld i
 | .nilfn=> .nilfn
 | .agg es=> .agg (zG9 id cs es)
 | .tuple es=> .tuple (zG9 id cs es)
 | .iface t d=> .iface t (frz id cs d)
 | .niliface=> .niliface
def zG9 (id:Nat) (cs:List D):List D→List D
 | []=>[]
 |d::ds=>frz id cs d::zG9 id cs ds
def zXz (id:Nat) (cs:List D):List (List D)→List (List D)
 | []=>[]
 |x::xs=>zG9 id cs x::zXz id cs xs
end
def zRG (id:Nat) (cs:List D):List (D×D)→List (D×D)
 | []=>[]
 |(k,v)::es=>(frz id cs k,frz id cs v)::zRG id cs es
def zhe (id:Nat) (cs:List D):Obj→Obj
 | .row es=> .row (zG9 id cs es)
 | .tok=> .tok
 | .map es=> .map (zRG id cs es)
 | .loop r=> .loop { r with fr:=fun i=>frz id cs (r.fr i) }
 | .siter s p=> .siter s p
 | .trow t full es=> .trow t full (zG9 id cs es)
def Heap.frz (h:Heap) (id:Nat) (cs:List D):Heap:= { next:=h.next,at':=fun i=>if i=id then none else(h.at' i).map (zhe id cs) }
theorem zGT (id:Nat) (cs:List D) (d:D):(frz id cs d).flat=d.flat:=by
 cases d<;>simp only[frz]<;>(try split)<;>rfl
theorem zBC (id:Nat) (cs:List D):∀ds:List D,(zG9 id cs ds).length=ds.length
 | []=>rfl
 |_::ds=>by simp[zG9,zBC id cs ds]
theorem zHA (id:Nat) (cs:List D):∀ds:List (List D),(zXz id cs ds).length=ds.length
 | []=>rfl
 |_::ds=>by simp[zXz,zHA id cs ds]
theorem zJy (id:Nat) (cs:List D):∀ (ds:List D) (i:Nat),(zG9 id cs ds)[i]? =(ds[i]?).map (frz id cs)
 | [],_=>by simp[zG9]
 |d::ds,0=>by simp[zG9]
 |d::ds,i+1=>by simpa [zG9] using zJy id cs ds i
theorem zLN (id:Nat) (cs:List D):∀ds:List D,(zG9 id cs ds).all D.flat=ds.all D.flat
 | []=>rfl
 |d::ds=>by simp only[zG9,List.all_cons,zGT,zLN id cs ds]
section
variable {M M':Imm} {ρ:Ren} {id:Nat} {cs:List D} {l:Loc}
mutual
theorem zBY (hM:MLe M M') (hl:ρ id=some l) (hc:zBP M' ρ cs l.blk 0):∀ (d:D) (v:Value),rel M ρ d v→rel M' ρ (frz id cs d) v
 | .bool _,_,h=>by simpa [rel,frz] using h
 | .int _ _,_,h=>by simpa [rel,frz] using h
 | .str _,_,h=>by simpa [rel,frz] using h
 | .nilptr,_,h=>by simpa [rel,frz] using h
 | .ptr i off,v,h=>by
  simp only[frz];split
  ·rename_i hi;subst hi;simp only[rel] at h⊢;obtain⟨l',h1,h2⟩:=h;rw[hl] at h1;cases h1;exact⟨_,0,by rw[Nat.zero_add];exact h2,hc⟩
  ·exact qE hM (RLe.refl _) _ _ h
 | .iptr es off,_,h=>by
  simp only[rel,frz] at h⊢;obtain⟨b,p,h1,h2⟩:=h;exact⟨b,p,h1,zJz hM hl hc es b p h2⟩
 | .nilsl,_,h=>by simpa [rel,frz] using h
 | .sl sz xs tk,_,h=>by
  simp only[rel,frz,zHA] at h⊢;obtain⟨h0,hlim,b,p,cap,h1,h2,h3,h4⟩:=h;exact⟨h0,hlim,b,p,cap,h1,h2,zOG hM hl hc sz xs b p h3,h4⟩
 | .rs i sz off len,v,h=>by
  simp only[frz];split
  ·rename_i hi;obtain⟨rfl,hle⟩:=hi;simp only[rel] at h⊢;obtain⟨h0,hlim,l',cap,o,h1,h2,h3,h4,h5⟩:=h;rw[hl] at h1;cases h1;have hlen:((cs.drop off).take (len*sz)).length=len*sz:=by simp;omega
   rw[qO];refine⟨h0,hlim,l.blk,o,cap,⟨none,h2, .inl rfl⟩,h3.1,?_,trivial⟩;rcases h5 with h5|h5
   ·have:len=0:=by omega
    subst this;simp[yT,zB2]
   ·subst h5;refine zCa _ hlen (yi fun i d hd=> ?_);rw[List.getElem?_take] at hd;split at hd
    ·rw[List.getElem?_drop] at hd;obtain⟨g1,v,g2,g3⟩:=zAp hc _ d hd;exact⟨g1,v,by rw[←g2,Nat.zero_add],g3⟩
    ·cases hd
  ·exact qE hM (RLe.refl _) _ _ h
 | .nilmap,_,h=>by simpa [rel,frz] using h
 | .map _,_,h=>by simpa [rel,frz] using h
 | .fn f a c,_,h=>by
  simp only[rel,frz] at h⊢;obtain⟨h0,va,vc,h1,h2,h3⟩:=h;exact⟨h0,va,vc,h1,zEI hM hl hc a _ h2,zEI hM hl hc c _ h3⟩
 | .yld _,_,h=>by simpa [rel,frz] using h
 | .nilfn,_,h=>by simpa [rel,frz] using h
 | .agg es,_,h=>by
  simp only[rel,frz] at h⊢;obtain⟨vs,h1,h2,h3⟩:=h;exact⟨vs,h1,zEI hM hl hc es _ h2,by rw[zLN];exact h3⟩
 | .tuple es,_,h=>by
  simp only[rel,frz] at h⊢;obtain⟨vs,h1,h2⟩:=h;exact⟨vs,h1,zEI hM hl hc es _ h2⟩
 | .iface t d,_,h=>by
  simp only[rel,frz] at h⊢;obtain⟨u,h1,h2⟩:=h;exact⟨u,h1,zBY hM hl hc d u h2⟩
 | .niliface,_,h=>by simpa [rel,frz] using h
theorem zEI (hM:MLe M M') (hl:ρ id=some l) (hc:zBP M' ρ cs l.blk 0):∀ (ds:List D) (vs:List Value),zy M ρ ds vs→zy M' ρ (zG9 id cs ds) vs
 | [],_,h=>by simpa [zy,zG9] using h
 |d::ds,_,h=>by
  simp only[zy,zG9] at h⊢;obtain⟨v,vs',h1,h2,h3⟩:=h;exact⟨v,vs',h1,zBY hM hl hc d v h2,zEI hM hl hc ds vs' h3⟩
theorem zJz (hM:MLe M M') (hl:ρ id=some l) (hc:zBP M' ρ cs l.blk 0):∀ (ds:List D) (b p:Nat),zBP M ρ ds b p→zBP M' ρ (zG9 id cs ds) b p
 | [],_,_,_=>by simp[zBP,zG9]
 |d::ds,b,p,h=>by
  simp only[zBP,zG9] at h⊢;obtain⟨⟨h0,v,h1,h2⟩,h3⟩:=h;exact⟨⟨by rw[zGT];exact h0,v,hM _ _ _ h1,zBY hM hl hc d v h2⟩,zJz hM hl hc ds b (p+1) h3⟩
theorem zOG (hM:MLe M M') (hl:ρ id=some l) (hc:zBP M' ρ cs l.blk 0):∀ (sz:Nat) (xs:List (List D)) (b p:Nat),zB2 M ρ sz xs b p→zB2 M' ρ sz (zXz id cs xs) b p
 |_,[],_,_,_=>by simp[zB2,zXz]
 |sz,x::xs,b,p,h=>by
  simp only[zB2,zXz] at h⊢;exact⟨by rw[zBC];exact h.1,zJz hM hl hc x b p h.2.1,zOG hM hl hc sz xs b (p+sz) h.2.2⟩
end
theorem zLO (hM:MLe M M') (hl:ρ id=some l) (hc:zBP M' ρ cs l.blk 0):∀ (ds:List (D×D)) (es:List MapEntry),qU M ρ ds es→qU M' ρ (zRG id cs ds) es
 | [],_,h=>by simpa [qU,zRG] using h
 |(k,d)::ds,_,h=>by
  simp only[qU,zRG] at h⊢;obtain⟨e,es',h1,h2,h3,h4⟩:=h;exact⟨e,es',h1,zBY hM hl hc _ _ h2,zBY hM hl hc _ _ h3,zLO hM hl hc ds es' h4⟩
theorem zPq {w:World} {l':Loc} (hM:MLe M M') (hl:ρ id=some l) (hc:zBP M' ρ cs l.blk 0) (hn:∀o,M l'.blk o=none→M' l'.blk o=none):∀ (ob:Obj),qJ M ρ w l' ob→qJ M' ρ w l' (zhe id cs ob)
 | .row es,h=>by
  obtain⟨a,c,e,h1,h2,h3,h4⟩:=h;refine⟨fun o=>hn o (a o),c,e,h1,h2,by rw[zBC];exact h3,fun i d hi=> ?_⟩;rw[zJy] at hi;cases hd:es[i]? with
  |none=>rw[hd] at hi;cases hi
  |some d0=>
   rw[hd] at hi;cases hi;obtain⟨h5,v,x,y⟩:=h4 i d0 hd;exact⟨by rw[zGT];exact h5,v,x,zBY hM hl hc _ _ y⟩
 | .tok,h=>by
  obtain⟨a,b,c,e,h1,h2⟩:=h;exact⟨fun o ho=>hn o (a o ho),b,c,e,h1,h2⟩
 | .map es,h=>by
  obtain⟨en,cl,h1,h2⟩:=h;exact⟨en,cl,h1,zLO hM hl hc _ _ h2⟩
 | .loop r,h=>by
  obtain⟨L,h1,h2,h3,h4,h5,h6,h7,h8⟩:=h;exact⟨L,h1,h2,h3,h4,h5,h6,h7,fun i=>zBY hM hl hc _ _ (h8 i)⟩
 | .siter _ _,h=>h
 | .trow t full es,h=>by
  obtain⟨a,c,e,h1,h2,h3,h4,g1,g2⟩:=h;refine⟨fun o=>hn o (a o),c,e,h1,h2,by rw[zBC];exact h3,fun i d hi=> ?_,g1,by rw[zBC];exact g2⟩;rw[zJy] at hi;cases hd:es[i]? with
  |none=>rw[hd] at hi;cases hi
  |some d0=>
   rw[hd] at hi;cases hi;obtain⟨h5,v,x,y⟩:=h4 i d0 hd;exact⟨by rw[zGT];exact h5,v,x,zBY hM hl hc _ _ y⟩
end
theorem zA.freeze {P:Program} {f:FuncId} {args:List D} {h:Heap} {Q:D→Heap→Prop} (hv:zA P f args h fun d h'=>∃id cs,h'.at' id=some (.row cs)∧Q (frz id cs d) (h'.frz id cs)):zA P f args h Q:=by
 refine⟨hv.1,fun w0 G M ρ w va hg0 hs hfr hr=> ?_⟩;refine(hv.2 w0 G M ρ w va hg0 hs hfr hr).mono fun e w' hq=> ?_;obtain⟨v,M',ρ',d,h',rfl,k1,k2,k3,k4,k5,id,cs,k6,k7⟩:=hq;obtain⟨l,g1,g2,hm,c,ty,g3,g4,g5,g6⟩:=k3.live id _ k6;have hle:MLe M' (zBg M' l.blk 0 (c.toList.take cs.length)):=zB4 fun o _=>hm o;have hc:zBP (zBg M' l.blk 0 (c.toList.take cs.length)) ρ' cs l.blk 0:=yi fun i d hi=>by
  obtain⟨q1,u,q2,q3⟩:=g6 i d hi;have hlt:=(List.getElem?_eq_some_iff.1 hi).1;refine⟨q1,u,?_,qE hle (RLe.refl _) _ _ q3⟩;unfold zBg;rw[if_pos ⟨rfl,by omega,by simp;omega⟩];simp only[Nat.zero_add,Nat.sub_zero,List.getElem?_take,if_pos hlt];simpa using q2
 refine⟨v,zBg M' l.blk 0 (c.toList.take cs.length),ρ',frz id cs d,h'.frz id cs,rfl,k1.trans hle,k2,?_,k4,zBY hle g1 hc _ _ k5,k7⟩;refine { below:=k3.below,imm:=fun b o u e=> ?_,live:=fun i ob e=> ?_,apart:=fun i j oi oj li lj ei ej ri rj hij=> ?_,gdef:=k3.gdef,old:=zGr k3.old g2 }
 ·unfold zBg at e;split at e
  ·rename_i hcc;obtain⟨rfl,_,hlt⟩:=hcc;simp only[Nat.sub_zero,List.getElem?_take] at e;split at e
   ·simp[World.cell?,g3];simpa using e
   ·cases e
  ·exact k3.imm b o u e
 ·simp only[Heap.frz] at e;split at e
  ·cases e
  ·rename_i hne;cases ho:h'.at' i with
   |none=>rw[ho] at e;cases e
   |some ob0=>
    rw[ho] at e;cases e;obtain⟨l',q1,q2,q3⟩:=k3.live i ob0 ho;refine⟨l',q1,q2,zPq hle g1 hc (fun o hz=> ?_) _ q3⟩;unfold zBg;rw[if_neg fun hcc=>hne (k3.apart i id ob0 _ l' l ho k6 q1 g1 hcc.1)];exact hz
 ·simp only[Heap.frz] at ei ej;split at ei
  ·cases ei
  ·split at ej
   ·cases ej
   ·cases hoi:h'.at' i with
    |none=>rw[hoi] at ei;cases ei
    |some o1=>
     cases hoj:h'.at' j with
     |none=>rw[hoj] at ej;cases ej
     |some o2=>exact k3.apart i j o1 o2 li lj hoi hoj ri rj hij
theorem zA.freezeD {P:Program} {f:FuncId} {args:List D} {h:Heap} {Q:D→Heap→Prop} (hv:zA P f args h fun d h'=>∃id cs,h'.at' id=some (.row cs)∧Q (frz id cs d) (h'.del id)):zA P f args h Q:=by
 refine⟨hv.1,fun w0 G M ρ w va hg0 hs hfr hr=> ?_⟩;refine(hv.2 w0 G M ρ w va hg0 hs hfr hr).mono fun e w' hq=> ?_;obtain⟨v,M',ρ',d,h',rfl,k1,k2,k3,k4,k5,id,cs,k6,k7⟩:=hq;obtain⟨l,g1,g2,hm,c,ty,g3,g4,g5,g6⟩:=k3.live id _ k6;have hle:MLe M' (zBg M' l.blk 0 (c.toList.take cs.length)):=zB4 fun o _=>hm o;have hc:zBP (zBg M' l.blk 0 (c.toList.take cs.length)) ρ' cs l.blk 0:=yi fun i d hi=>by
  obtain⟨q1,u,q2,q3⟩:=g6 i d hi;have hlt:=(List.getElem?_eq_some_iff.1 hi).1;refine⟨q1,u,?_,qE hle (RLe.refl _) _ _ q3⟩;unfold zBg;rw[if_pos ⟨rfl,by omega,by simp;omega⟩];simp only[Nat.zero_add,Nat.sub_zero,List.getElem?_take,if_pos hlt];simpa using q2
 refine⟨v,zBg M' l.blk 0 (c.toList.take cs.length),ρ',frz id cs d,h'.del id,rfl,k1.trans hle,k2,?_,k4,zBY hle g1 hc _ _ k5,k7⟩;refine { below:=k3.below,imm:=fun b o u e=> ?_,live:=fun i ob e=> ?_,apart:=fun i j oi oj li lj ei ej ri rj hij=> ?_,gdef:=k3.gdef,old:=zGr k3.old g2 }
 ·unfold zBg at e;split at e
  ·rename_i hcc;obtain⟨rfl,_,hlt⟩:=hcc;simp only[Nat.sub_zero,List.getElem?_take] at e;split at e
   ·simp[World.cell?,g3];simpa using e
   ·cases e
  ·exact k3.imm b o u e
 ·simp only[Heap.del] at e;split at e
  ·cases e
  ·rename_i hne;obtain⟨l',q1,q2,q3⟩:=k3.live i ob e;refine⟨l',q1,q2,wE hle (RLe.refl _) (fun o hz=> ?_) q3⟩;unfold zBg;rw[if_neg fun hcc=>hne (k3.apart i id ob _ l' l e k6 q1 g1 hcc.1)];exact hz
 ·simp only[Heap.del] at ei ej;split at ei
  ·cases ei
  ·split at ej
   ·cases ej
   ·exact k3.apart i j oi oj li lj ei ej ri rj hij
mutual
def yC:D→D
 | .bool b=> .bool b
 | .int k n=> .int k n
 | .str s=> .str s
 | .nilptr=> .nilptr
 | .ptr i off=> .ptr i off
 | .iptr es off=> .iptr (yh es) off
 | .nilsl=> .nilsl
 | .sl sz xs _=> .sl sz (zCP xs) .no
 | .rs i sz off len=> .rs i sz off len
 | .nilmap=> .nilmap
 | .map i=> .map i
 | .fn f a c=> .fn f (yh a) (yh c)
 | .yld i=> .yld i
 | .nilfn=> .nilfn
 | .agg es=> .agg (yh es)
 | .tuple es=> .tuple (yh es)
 | .iface t d=> .iface t (yC d)
 | .niliface=> .niliface
def yh:List D→List D
 | []=>[]
 |d::ds=>yC d::yh ds
def zCP:List (List D)→List (List D)
 | []=>[]
 |x::xs=>yh x::zCP xs
end
theorem zIr (d:D):(yC d).flat=d.flat:=by cases d<;>rfl
theorem zEJ:∀ds:List D,(yh ds).length=ds.length
 | []=>rfl
 |_::ds=>by simp[yh,zEJ ds]
theorem zEK:∀ds:List (List D),(zCP ds).length=ds.length
 | []=>rfl
 |_::ds=>by simp[zCP,zEK ds]
theorem zHB:∀ds:List D,(yh ds).all D.flat=ds.all D.flat
 | []=>rfl
 |d::ds=>by simp only[yh,List.all_cons,zIr,zHB ds]
section
variable {M:Imm} {ρ:Ren}
mutual
theorem zEL (M:Imm) (ρ:Ren):∀ (d:D) (v:Value),rel M ρ d v→rel M ρ (yC d) v
 | .bool _,_,h=>h
 | .int _ _,_,h=>h
 | .str _,_,h=>h
 | .nilptr,_,h=>h
 | .ptr _ _,_,h=>h
 | .iptr es off,_,h=>by
  simp only[rel,yC] at h⊢;obtain⟨b,p,h1,h2⟩:=h;exact⟨b,p,h1,zE7 M ρ es b p h2⟩
 | .nilsl,_,h=>h
 | .sl sz xs tk,_,h=>by
  simp only[rel,yC,zEK] at h⊢;obtain⟨h0,hlim,b,p,cap,h1,h2,h3,h4⟩:=h;exact⟨h0,hlim,b,p,cap,h1,h2,zIs M ρ sz xs b p h3,trivial⟩
 | .rs _ _ _ _,_,h=>h
 | .nilmap,_,h=>h
 | .map _,_,h=>h
 | .fn f a c,_,h=>by
  simp only[rel,yC] at h⊢;obtain⟨h0,va,vc,h1,h2,h3⟩:=h;exact⟨h0,va,vc,h1,zAx M ρ a _ h2,zAx M ρ c _ h3⟩
 | .yld _,_,h=>h
 | .nilfn,_,h=>h
 | .agg es,_,h=>by
  simp only[rel,yC] at h⊢;obtain⟨vs,h1,h2,h3⟩:=h;exact⟨vs,h1,zAx M ρ es _ h2,by rw[zHB];exact h3⟩
 | .tuple es,_,h=>by
  simp only[rel,yC] at h⊢;obtain⟨vs,h1,h2⟩:=h;exact⟨vs,h1,zAx M ρ es _ h2⟩
 | .iface t d,_,h=>by
  simp only[rel,yC] at h⊢;obtain⟨u,h1,h2⟩:=h;exact⟨u,h1,zEL M ρ d u h2⟩
 | .niliface,_,h=>h
theorem zAx (M:Imm) (ρ:Ren):∀ (ds:List D) (vs:List Value),zy M ρ ds vs→zy M ρ (yh ds) vs
 | [],_,h=>h
 |d::ds,_,h=>by
  simp only[zy,yh] at h⊢;obtain⟨v,vs',h1,h2,h3⟩:=h;exact⟨v,vs',h1,zEL M ρ d v h2,zAx M ρ ds vs' h3⟩
theorem zE7 (M:Imm) (ρ:Ren):∀ (ds:List D) (b p:Nat),zBP M ρ ds b p→zBP M ρ (yh ds) b p
 | [],_,_,h=>h
 |d::ds,b,p,h=>by
  simp only[zBP,yh] at h⊢;obtain⟨⟨h0,v,h1,h2⟩,h3⟩:=h;exact⟨⟨by rw[zIr];exact h0,v,h1,zEL M ρ d v h2⟩,zE7 M ρ ds b (p+1) h3⟩
theorem zIs (M:Imm) (ρ:Ren):∀ (sz:Nat) (xs:List (List D)) (b p:Nat),zB2 M ρ sz xs b p→zB2 M ρ sz (zCP xs) b p
 |_,[],_,_,h=>h
 |sz,x::xs,b,p,h=>by
  simp only[zB2,zCP] at h⊢;exact⟨by rw[zEJ];exact h.1,zE7 M ρ x b p h.2.1,zIs M ρ sz xs b (p+sz) h.2.2⟩
end
end
theorem zA.strip {P:Program} {f:FuncId} {args:List D} {h:Heap} {Q:D→Heap→Prop} (hv:zA P f args h fun d h'=>Q (yC d) h'):zA P f args h Q:=by
 refine⟨hv.1,fun w0 G M ρ w va hg0 hs hfr hr=> ?_⟩;refine(hv.2 w0 G M ρ w va hg0 hs hfr hr).mono fun e w' hq=> ?_;obtain⟨v,M',ρ',d,h',rfl,k1,k2,k3,k4,k5,k6⟩:=hq;exact⟨v,M',ρ',V.yC d,h',rfl,k1,k2,k3,k4,zEL _ _ _ _ k5,k6⟩
abbrev Env:=List (Nat×Cfg)
mutual
def zDQ:D→Bool
 | .ptr _ _=>false
 | .iptr cs _=>zAK cs
 | .sl _ xs tk=>zJ0 xs&&(match tk with| .own _=>false|_=>true)
 | .rs _ _ _ _=>false
 | .map _=>false
 | .fn _ a c=>zAK a&&zAK c
 | .yld _=>false
 | .agg cs=>zAK cs
 | .tuple cs=>zAK cs
 | .iface _ d=>zDQ d
 |_=>true
def zAK:List D→Bool
 | []=>true
 |d::ds=>zDQ d&&zAK ds
def zJ0:List (List D)→Bool
 | []=>true
 |x::xs=>zAK x&&zJ0 xs
end
mutual
theorem zAL:∀d,zDQ d=true→below 0 d
 | .bool _,_=>trivial
 | .int _ _,_=>trivial
 | .str _,_=>trivial
 | .nilptr,_=>trivial
 | .ptr _ _,h=>by cases h
 | .iptr cs _,h=>y7 cs h
 | .nilsl,_=>trivial
 | .sl _ xs tk,h=>by
  simp only[zDQ,Bool.and_eq_true] at h;simp only[below];refine⟨zFk xs h.1,?_⟩;cases tk with
  |own t=>exact absurd h.2 (by simp)
  |_=>trivial
 | .rs _ _ _ _,h=>by cases h
 | .nilmap,_=>trivial
 | .map _,h=>by cases h
 | .fn _ a c,h=>by
  simp only[zDQ,Bool.and_eq_true] at h;exact⟨y7 a h.1,y7 c h.2⟩
 | .yld _,h=>by cases h
 | .nilfn,_=>trivial
 | .agg cs,h=>y7 cs h
 | .tuple cs,h=>y7 cs h
 | .iface _ d,h=>zAL d h
 | .niliface,_=>trivial
theorem y7:∀ds,zAK ds=true→yB 0 ds
 | [],_=>trivial
 |d::ds,h=>by
  simp only[zAK,Bool.and_eq_true] at h;exact⟨zAL d h.1,y7 ds h.2⟩
theorem zFk:∀ds,zJ0 ds=true→zBp 0 ds
 | [],_=>trivial
 |d::ds,h=>by
  simp only[zJ0,Bool.and_eq_true] at h;exact⟨y7 d h.1,zFk ds h.2⟩
end
inductive Tr (α:Type) where
 |lf
 |nd (l:Tr α) (x:Option α) (r:Tr α)
def Tr.full {α:Type} :Nat→Tr α
 |0=> .lf
 |k+1=> .nd (Tr.full k) none (Tr.full k)
def Tr.get {α:Type} (t:Tr α):Nat→Option α:=
 Tr.rec (motive:=fun _=>Nat→Option α) (fun _=>none) (fun _ x _ gl gr n=>Nat.casesOn n x fun m=>cond (Nat.beq (Nat.mod m 2) 0) (gl (Nat.div m 2)) (gr (Nat.div m 2))) t
def Tr.put {α:Type} (d:α) (t:Tr α):Nat→Option (Tr α):=
 Tr.rec (motive:=fun _=>Nat→Option (Tr α)) (fun _=>none) (fun l x r pl pr n=>Nat.casesOn n (some (.nd l (some d) r)) fun m=>
  cond (Nat.beq (Nat.mod m 2) 0) (Option.casesOn (pl (Nat.div m 2)) none fun l'=>some (.nd l' x r)) (Option.casesOn (pr (Nat.div m 2)) none fun r'=>some (.nd l x r'))) t
theorem Tr.get_nd {α:Type} (l:Tr α) (x:Option α) (r:Tr α) (n:Nat):(Tr.nd l x r).get n=(match n with
  |0=>x
  |m+1=>match m%2 with
   |0=>l.get (m/2)
   |_=>r.get (m/2)):=by
 cases n with
 |zero=>rfl
 |succ m=>
  show cond (Nat.beq (m%2) 0) (l.get (m/2)) (r.get (m/2))=_;rcases Nat.mod_two_eq_zero_or_one m with h|h
  ·simp only[h];rfl
  ·simp only[h];rfl
theorem Tr.put_nd {α:Type} (d:α) (l:Tr α) (x:Option α) (r:Tr α) (n:Nat):(Tr.nd l x r).put d n=(match n with
  |0=>some (.nd l (some d) r)
  |m+1=>match m%2 with
   |0=>match l.put d (m/2) with
    |some l'=>some (.nd l' x r)
    |none=>none
   |_=>match r.put d (m/2) with
    |some r'=>some (.nd l x r')
    |none=>none):=by
 cases n with
 |zero=>rfl
 |succ m=>
  have e:(Tr.nd l x r).put d (m+1)=cond (Nat.beq (Nat.mod m 2) 0) (@Option.casesOn (Tr α) (fun _=>Option (Tr α)) (l.put d (Nat.div m 2)) none fun l'=>some (.nd l' x r)) (@Option.casesOn (Tr α) (fun _=>Option (Tr α)) (r.put d (Nat.div m 2)) none fun r'=>some (.nd l x r')):=rfl;rw[e];change cond (Nat.beq (m%2) 0) (@Option.casesOn (Tr α) (fun _=>Option (Tr α)) (l.put d (m/2)) none fun l'=>some (.nd l' x r)) (@Option.casesOn (Tr α) (fun _=>Option (Tr α)) (r.put d (m/2)) none fun r'=>some (.nd l x r'))=_;rcases Nat.mod_two_eq_zero_or_one m with h|h
  ·simp only[h];cases l.put d (m/2)<;>rfl
  ·simp only[h];cases r.put d (m/2)<;>rfl
theorem Tr.put_none {α:Type} {d:α} :∀ (t:Tr α) (i:Nat),t.put d i=none→t.get i=none
 | .lf,i,_=>rfl
 | .nd l x r,0,h=>by simp[Tr.put_nd] at h
 | .nd l x r,m+1,h=>by
  simp only[Tr.put_nd] at h;simp only[Tr.get_nd];split at h
  ·split at h
   ·cases h
   ·rename_i hl;exact Tr.put_none l _ hl
  ·split at h
   ·cases h
   ·rename_i hr;exact Tr.put_none r _ hr
theorem Tr.put_get {α:Type} {d:α} :∀ (t t':Tr α) (i j:Nat),t.put d i=some t'→t'.get j=if j=i then some d else t.get j
 | .lf,t',i,j,h=>by cases h
 | .nd l x r,t',0,j,h=>by
  simp only[Tr.put_nd] at h;cases h;cases j<;>simp[Tr.get_nd]
 | .nd l x r,t',m+1,j,h=>by
  have inj:∀q,q%2=m%2→q/2=m/2→q=m:=fun q h1 h2=>by omega
  simp only[Tr.put_nd] at h;split at h
  ·rename_i hm;split at h
   ·rename_i l' hl;cases h;cases j with
    |zero=>simp[Tr.get_nd]
    |succ q=>
     simp only[Tr.get_nd];have:=Tr.put_get l l' (m/2) (q/2) hl;split
     ·rename_i hq;rw[this];by_cases hqm:q=m
      ·subst hqm;simp
      ·rw[if_neg fun e=>hqm (inj q (by omega) e),if_neg (by omega:¬q+1=m+1)]
     ·rename_i hq;rw[if_neg fun e=>hq (by rw[←hm];congr 1;omega)]
   ·cases h
  ·rename_i hm;split at h
   ·rename_i r' hr;cases h;cases j with
    |zero=>simp[Tr.get_nd]
    |succ q=>
     simp only[Tr.get_nd];have:=Tr.put_get r r' (m/2) (q/2) hr;have hm1:m%2=1:=by
      rcases Nat.mod_two_eq_zero_or_one m with h0|h0
      ·exact absurd h0 hm
      ·exact h0
     split
     ·rename_i hq;rw[if_neg (by omega)]
     ·rename_i hq;have hq1:q%2=1:=by
       rcases Nat.mod_two_eq_zero_or_one q with h0|h0
       ·exact absurd h0 hq
       ·exact h0
      rw[this];by_cases hqm:q=m
      ·subst hqm;simp
      ·rw[if_neg fun e=>hqm (inj q (by omega) e),if_neg (by omega:¬q+1=m+1)]
   ·cases h
structure TF where
 base:Frm
 t:Tr D
def TF.fr (F:TF):Frm:=fun i=>match F.t.get i with
 |some d=>d
 |none=>F.base i
def TF.put (F:TF) (i:Nat) (d:D):TF:=
 match F.t.put d i with
 |some t=>⟨F.base,t⟩
 |none=>⟨fun j=>if j=i then d else F.base j,F.t⟩
def TF.putO (F:TF) (dst:Option Tmp) (d:D):TF:=
 match dst with
 |some i=>F.put i d
 |none=>F
def TF.puts (F:TF):List Tmp→List D→TF
 |t::ts,d::ds=>TF.puts (F.put t d) ts ds
 |_,_=>F
theorem TF.fr_put (F:TF) (i:Nat) (d:D):(F.put i d).fr=zAe F.fr (some i) d:=by
 funext j
 unfold TF.put zAe;split
 ·rename_i t ht;simp only[TF.fr,Tr.put_get _ _ _ j ht];by_cases hj:j=i<;>simp[hj]
 ·rename_i ht;simp only[TF.fr];by_cases hj:j=i
  ·subst hj;simp[Tr.put_none _ _ ht]
  ·simp[hj]
theorem TF.fr_putO (F:TF) (dst:Option Tmp) (d:D):(F.putO dst d).fr=zAe F.fr dst d:=by
 cases dst with
 |none=>rfl
 |some i=>exact F.fr_put i d
theorem TF.fr_puts:∀ (ts:List Tmp) (ds:List D) (F:TF),(F.puts ts ds).fr=zE3 F.fr ts ds
 | [],_,_=>by simp[TF.puts,zE3]
 |_::_,[],_=>by simp[TF.puts,zE3]
 |t::ts,d::ds,F=>by
  simp only[TF.puts,zE3,TF.fr_puts ts ds,TF.fr_put]
def TF.of (fr:Frm) (k:Nat):TF:=⟨fr,Tr.full k⟩
theorem zJ1 {α:Type} :∀ (k i:Nat),(Tr.full k:Tr α).get i=none
 |0,_=>rfl
 |k+1,0=>rfl
 |k+1,m+1=>by
  simp only[Tr.full,Tr.get_nd];split<;>exact zJ1 k _
theorem TF.of_fr (fr:Frm) (k:Nat):(TF.of fr k).fr=fr:=by
 funext i
 simp[TF.fr,TF.of,zJ1]
structure HT where
 next:Nat
 base:Nat→Option Obj
 t:Tr (Option Obj)
def HT.at' (h:HT) (i:Nat):Option Obj:=match h.t.get i with
 |some o=>o
 |none=>h.base i
def HT.heap (h:HT):Heap:=⟨h.next,h.at'⟩
def HT.put (h:HT) (i:Nat) (o:Option Obj):HT:=
 match h.t.put o i with
 |some t=>⟨h.next,h.base,t⟩
 |none=>⟨h.next,fun j=>if j=i then o else h.base j,h.t⟩
theorem HT.put_at (h:HT) (i:Nat) (o:Option Obj) (j:Nat):(h.put i o).at' j=if j=i then o else h.at' j:=by
 unfold HT.put;split
 ·rename_i t ht;simp only[HT.at',Tr.put_get _ _ _ j ht];by_cases hj:j=i<;>simp[hj]
 ·rename_i ht;simp only[HT.at'];by_cases hj:j=i
  ·subst hj;simp[Tr.put_none _ _ ht]
  ·simp[hj]
theorem HT.put_next (h:HT) (i:Nat) (o:Option Obj):(h.put i o).next=h.next:=by
 unfold HT.put;split<;>rfl
def HT.puts (h:HT) (h':Heap):List Nat→HT
 | []=>h
 |i::is=>(HT.puts h h' is).put i (h'.at' i)
theorem HT.puts_at (h:HT) (h':Heap) (j:Nat):∀is:List Nat,(h.puts h' is).at' j=if j∈is then h'.at' j else h.at' j
 | []=>by simp[HT.puts]
 |i::is=>by
  simp only[HT.puts,HT.put_at,HT.puts_at h h' j is,List.mem_cons];by_cases hj:j=i
  ·subst hj;simp
  ·simp[hj]
def HT.upd (h:HT) (h':Heap) (is:List Nat):HT:=⟨h'.next,(h.puts h' is).base,(h.puts h' is).t⟩
theorem HT.upd_heap (h:HT) (h':Heap) (is:List Nat) (hu:∀j,j∉is→h'.at' j=h.at' j):(h.upd h' is).heap=h':=by
 unfold HT.heap;cases h' with
 |mk n a=>
  congr 1
  funext j
  show(h.puts _ is).at' j=a j;rw[HT.puts_at];split
  ·rfl
  ·rename_i hj;exact(hu j hj).symm
def HT.emp:HT:=⟨0,fun _=>none,Tr.full 12⟩
theorem HT.emp_heap:HT.emp.heap=Heap.emp:=by
 unfold HT.heap Heap.emp;congr 1
 funext i
 simp[HT.at',HT.emp,zJ1]
def zF6:D→List Nat
 | .ptr i _=>[i]
 | .rs i _ _ _=>[i]
 | .map i=>[i]
 | .sl _ _ tk=>match tk with
  | .own i=>[i]
  |_=>[]
 |_=>[]
def qW (o:Op) (ev:Operand→D) (nid:Nat):List Nat:=
 match o with
 | .alloc _=>[nid]
 | .box _ _=>[nid]
 | .buildSlice _ _ _=>[nid]
 | .makeMap _ _=>[nid]
 | .makeSlice _ _ _=>[nid]
 | .store _ a _=>zF6 (ev a)
 | .mapUpdate _ m _ _=>zF6 (ev m)
 | .insert _ m _ _=>zF6 (ev m)
 | .range _ _=>[nid]
 | .next x _=>zF6 (ev x)
 | .call c=>match c.args.toList with
  |a::_=>nid::zF6 (ev a)
  | []=>[nid]
 |_=>[]
theorem zM {h:Heap} {i j:Nat} {o:Obj} (hj:j≠i):(h.new i o).at' j=h.at' j:=by simp[Heap.new,hj]
theorem zH {h:Heap} {i j:Nat} {o:Obj} (hj:j≠i):(h.set i o).at' j=h.at' j:=by simp[Heap.set,hj]
theorem qP {h:Heap} {i j:Nat} (hj:j≠i):(h.del i).at' j=h.at' j:=by simp[Heap.del,hj]
theorem zCg {P:Program} {t:TypeId} {m k v:D} {h h':Heap} (hv:yU P t m k v h=some h') {j:Nat} (hj:j∉zF6 m):h'.at' j=h.at' j:=by
 unfold yU at hv;split at hv
 ·cases hv
 ·split at hv
  ·split at hv
   ·rename_i id;split at hv
    ·split at hv
     ·split at hv
      ·cases hv;exact zH (by simpa [zF6] using hj)
      ·cases hv
     ·cases hv
    ·cases hv
   ·cases hv
  ·cases hv
theorem zJ2 {P:Program} {m:Bool} {nid sz k:Nat} {e:TypeId} {s d:D} {ys:List D} {h h':Heap} (hv:yk P m nid e sz k s ys h=some (d,h')) {j:Nat} (hj:j∉nid::zF6 s):h'.at' j=h.at' j:=by
 have h1:j≠nid:=fun e=>hj (by simp[e]);have h2:j∉zF6 s:=fun e=>hj (by simp[e]);unfold yk at hv;split at hv
 ·split at hv
  ·cases hv;rfl
  ·split at hv
   ·split at hv
    ·cases hv;exact zM h1
    ·cases hv;exact zM h1
   ·cases hv
 ·split at hv
  ·split at hv
   ·cases hv
   ·split at hv
    ·cases hv;rfl
    ·split at hv
     ·cases hv;exact zM h1
     ·cases hv;exact zM h1
   ·split at hv
    ·split at hv
     ·cases hv
     ·cases hv;rw[zM h1,qP (by simpa [zF6] using h2)]
    ·cases hv
  ·cases hv
 ·split at hv
  ·split at hv
   ·split at hv
    ·cases hv;rw[zM h1,qP (by simpa [zF6] using h2)]
    ·cases hv
   ·split at hv
    ·cases hv
    ·split at hv
     ·cases hv;rw[zM h1,qP (by simpa [zF6] using h2)]
     ·cases hv
   ·cases hv
  ·cases hv
 ·cases hv
theorem zFl {P:Program} {m:Bool} {nid:Nat} {t:TypeId} {s x d:D} {h h':Heap} (hv:zZ P m nid t s x h=some (d,h')) {j:Nat} (hj:j∉nid::zF6 s):h'.at' j=h.at' j:=by
 unfold zZ at hv;split at hv
 ·cases hv
 ·split at hv
  ·split at hv
   ·cases hv
   ·exact zJ2 hv hj
  ·cases hv
theorem zLP {s x:D} {h:Heap} {j:Nat} (hj:j∉zF6 s):(yv s x h).at' j=h.at' j:=by
 unfold yv;split
 ·split
  ·rfl
  ·split
   ·split
    ·exact zH (by simpa [zF6] using hj)
    ·rfl
   ·rfl
 ·rfl
theorem zJ3 {P:Program} {m:Bool} {nid:Nat} {o:Op} {ev:Operand→D} {h h':Heap} {d:D} (hv:vop P m nid o ev h=some (d,h')) {j:Nat} (hj:j∉qW o ev nid):h'.at' j=h.at' j:=by
 cases o<;>simp only[vop] at hv<;>(try (cases hv;done))<;>(try (obtain⟨_,_,hv⟩:=Option.map_eq_some_iff.1 hv;cases hv;rfl;done))
 case move=>cases hv;rfl
 case assign=>cases hv;rfl
 case pick=>split at hv<;>cases hv<;>rfl
 case alloc t=>
  split at hv
  ·split at hv
   ·cases hv;exact zM (by simpa [qW] using hj)
   ·cases hv
  ·cases hv
 case box t x=>
  split at hv
  ·split at hv
   ·cases hv;exact zM (by simpa [qW] using hj)
   ·cases hv;rfl
  ·cases hv
 case buildSlice t n ps=>
  unfold zS at hv;split at hv
  ·cases hv
  ·split at hv
   ·cases hv
   ·dsimp only at hv
    split at hv
    ·split at hv
     ·cases hv
     ·split at hv
      ·cases hv;exact zM (by simpa [qW] using hj)
      ·cases hv;rfl
    ·cases hv
 case store t a x=>
  obtain⟨h2,hh,hv⟩:=Option.map_eq_some_iff.1 hv;cases hv;unfold zW at hh;split at hh
  ·rename_i id off ha;split at hh
   ·split at hh
    ·cases hh;exact zH (by simpa [qW,ha,zF6] using hj)
    ·cases hh
   ·split at hh
    ·cases hh;exact zH (by simpa [qW,ha,zF6] using hj)
    ·cases hh
   ·cases hh
  ·cases hh
 case makeFunc g a c=>split at hv<;>cases hv;rfl
 case range t x=>obtain⟨o,rfl⟩:=zLF hv;exact zM (by simpa [qW] using hj)
 case next x b=>
  rcases zOC hv with rfl| ⟨id,off,o,hx,rfl⟩
  ·rfl
  ·exact zH (by simpa [qW,hx,zF6] using hj)
 case makeMap t r=>
  split at hv
  ·cases hv;exact zM (by simpa [qW] using hj)
  ·cases hv
 case makeSlice t l c=>
  unfold wL at hv;split at hv
  ·split at hv
   ·dsimp only at hv
    split at hv
    ·split at hv
     ·cases hv;exact zM (by simpa [qW] using hj)
     ·cases hv;rfl
    ·cases hv
   ·cases hv
  ·cases hv
 case mapUpdate t x y z=>
  obtain⟨h2,hh,hv⟩:=Option.map_eq_some_iff.1 hv;cases hv;exact zCg hh (by simpa [qW] using hj)
 case insert t x y z=>
  obtain⟨h2,hh,hv⟩:=Option.map_eq_some_iff.1 hv;cases hv;exact zCg hh (by simpa [qW] using hj)
 case makeInterface t x=>split at hv<;>cases hv;rfl
 case call c=>
  split at hv
  ·rename_i b hb;unfold zAT at hv;split at hv
   ·split at hv
    ·split at hv
     ·obtain⟨_,_,hv⟩:=Option.map_eq_some_iff.1 hv;cases hv;rfl
     ·cases hv
    ·cases hv
   ·split at hv
    ·split at hv
     ·rename_i s x ha;split at hv
      ·have hm:j∉nid::zF6 s:=fun hm=>hj (by
        unfold qW;simp only;cases hl:c.args.toList with
        |nil=>rw[hl] at ha;cases ha
        |cons y ys=>
         rw[hl] at ha;simp only[List.map_cons,List.cons.injEq] at ha;rw[←ha.1] at hm;exact hm)
       unfold zAn at hv;split at hv
       ·rw[zFl hv hm,zLP fun e=>hm (List.mem_cons_of_mem _ e)]
       ·exact zFl hv hm
      ·obtain⟨o,rfl⟩:=zG6 hv;refine zM fun he=>hj ?_;unfold qW;simp only;cases hl:c.args.toList with
       |nil=>rw[he];simp
       |cons y ys=>rw[he];simp
     ·cases hv
    ·cases hv
   ·split at hv
    ·obtain⟨_,_,hv⟩:=Option.map_eq_some_iff.1 hv;cases hv;rfl
    ·cases hv
   ·split at hv
    ·obtain⟨_,_,hv⟩:=Option.map_eq_some_iff.1 hv;cases hv;rfl
    ·cases hv
   ·split at hv
    ·split at hv
     ·split at hv
      ·split at hv
       ·cases hv;rfl
       ·cases hv
      ·cases hv
     ·cases hv
    ·cases hv
   ·split at hv
    ·split at hv
     ·split at hv
      ·split at hv
       ·cases hv
       ·cases hv;rfl
       ·cases hv
      ·cases hv;rfl
      ·cases hv
     ·cases hv
    ·cases hv
   ·split at hv
    ·split at hv
     ·rename_i x y ha;rcases zEF hv with⟨id,rfl,rfl⟩ | ⟨rfl,rfl⟩
      rotate_left
      ·rfl
      refine qP fun he=>hj ?_;unfold qW;simp only;cases hl:c.args.toList with
      |nil=>rw[hl] at ha;cases ha
      |cons y ys=>
       rw[hl] at ha;simp only[List.map_cons,List.cons.injEq] at ha;show j∈nid::zF6 (ev y);rw[ha.1];simp[zF6,he]
     ·cases hv
    ·cases hv
   ·split at hv
    ·split at hv
     ·rename_i x ha;obtain⟨h2,hc,hv⟩:=Option.map_eq_some_iff.1 hv;cases hv;rcases zLE hc with rfl| ⟨id,sz,off,n,cs,rfl,rfl⟩ | ⟨id,rfl,rfl⟩
      ·rfl
      ·refine zH fun he=>hj ?_;unfold qW;simp only;cases hl:c.args.toList with
       |nil=>rw[hl] at ha;cases ha
       |cons y ys=>
        rw[hl] at ha;simp only[List.map_cons,List.cons.injEq] at ha;show j∈nid::zF6 (ev y);rw[ha.1];simp[zF6,he]
      ·refine zH fun he=>hj ?_;unfold qW;simp only;cases hl:c.args.toList with
       |nil=>rw[hl] at ha;cases ha
       |cons y ys=>
        rw[hl] at ha;simp only[List.map_cons,List.cons.injEq] at ha;show j∈nid::zF6 (ev y);rw[ha.1];simp[zF6,he]
     ·cases hv
    ·cases hv
   ·cases hv
  ·cases hv
def HT.setO (h:HT) (i:Nat) (o:Obj):HT:=h.put i (some o)
def HT.delO (h:HT) (i:Nat):HT:=h.put i none
def HT.newO (h:HT) (i:Nat) (o:Obj):HT:=⟨max h.next (i+1),(h.put i (some o)).base,(h.put i (some o)).t⟩
theorem HT.setO_heap (h:HT) (i:Nat) (o:Obj):(h.setO i o).heap=h.heap.set i o:=by
 unfold HT.setO HT.heap Heap.set;rw[HT.put_next];congr 1
 funext j
 exact HT.put_at h i _ j
theorem HT.delO_heap (h:HT) (i:Nat):(h.delO i).heap=h.heap.del i:=by
 unfold HT.delO HT.heap Heap.del;rw[HT.put_next];congr 1
 funext j
 exact HT.put_at h i _ j
theorem HT.newO_heap (h:HT) (i:Nat) (o:Obj):(h.newO i o).heap=h.heap.new i o:=by
 unfold HT.newO HT.heap Heap.new;congr 1
 funext j
 exact HT.put_at h i _ j
abbrev VT:=Option (D×HT)
abbrev Inv:=Env→D→List D→HT→VT
abbrev XR:=Option (Exit×TF×HT)
def zE8 (o:Option D) (h:HT):VT:=match o with
 |some d=>some (d,h)
 |none=>none
def zbS (c a b:D) (h:HT):VT:=match c with
 | .bool t=>match t with
  |true=>some (a,h)
  |false=>some (b,h)
 |_=>none
def zOH (P:Program) (mu:Bool) (o:Op) (ev:Operand→D) (h:HT):VT:=
 match vop P mu h.next o ev h.heap with
 |some (d,h')=>some (d,h.upd h' (qW o ev h.next))
 |none=>none
def zbT (P:Program) (mu:Bool) (o:Op) (c:Call) (ev:Operand→D) (h:HT):VT:=match c.callee with
 | .builtin .len=>match c.argTypes.toList,c.args.toList with
  | [t],[x]=>zE8 (zAd P t (ev x) h.heap) h
  |_,_=>none
 |_=>zOH P mu o ev h
def zfH (P:Program) (mu:Bool) (o:Op) (ev:Operand→D) (h:HT):VT:=
 match o with
 | .move x=>some (ev x,h)
 | .assign x=>some (ev x,h)
 | .load t a=>zE8 (zBi P t (ev a) h.heap) h
 | .binOp op t x y _=>zE8 (zD1 P op t (isC x||isC y) (ev x) (ev y)) h
 | .unOp op _ x=>zE8 (vun op (ev x)) h
 | .pick c a b=>zbS (ev c) (ev a) (ev b) h
 | .indexAddr t x i=>zE8 (zR P t (ev x) (ev i)) h
 | .index t x i=>zE8 (zA2 P t (ev x) (ev i)) h
 | .fieldAddr t x f=>zE8 (zI P t (ev x) f) h
 | .extract x i=>zE8 (zo (ev x) i) h
 | .convert s d x=>zE8 (zD3 P s d (ev x) h.heap) h
 | .build t parts=>zE8 (yn P t (parts.toList.map fun p=>(p.1,ev p.2))) h
 | .slice t x lo hi mx=>zE8 (yZ P t (ev x) (lo.map ev) (hi.map ev) (mx.map ev) h.heap) h
 | .call c=>zbT P mu o c ev h
 |o=>zOH P mu o ev h
theorem zHC {P:Program} {mu:Bool} {o:Op} {ev:Operand→D} {h h':HT} {d:D} (hx:zOH P mu o ev h=some (d,h')):vop P mu h.next o ev h.heap=some (d,h'.heap):=by
 unfold zOH at hx;split at hx
 ·rename_i d1 h1 hv;cases hx;rw[h.upd_heap h1 _ fun j hj=>zJ3 hv hj];exact hv
 ·cases hx
theorem zIt {o:Option D} {h h':HT} {d:D} (hx:zE8 o h=some (d,h')):o.map (·,h.heap)=some (d,h'.heap):=by
 unfold zE8 at hx;split at hx
 ·cases hx;rfl
 ·cases hx
theorem zRH {P:Program} {mu:Bool} {o:Op} {ev:Operand→D} {h h':HT} {d:D} (hx:zfH P mu o ev h=some (d,h')):vop P mu h.next o ev h.heap=some (d,h'.heap):=by
 cases o<;>simp only[zfH] at hx<;>(try (exact zHC hx;done))<;>(try (exact zIt hx;done))<;>(try (cases hx;rfl;done))
 case pick c a b=>
  unfold zbS at hx;simp only[vop];split at hx
  ·rename_i t hc;rw[hc];cases t<;>(cases hx;rfl)
  ·cases hx
 case call c=>
  unfold zbT at hx;split at hx
  ·rename_i hb;split at hx
   ·rename_i t x ht hx';have:=zIt hx;simp only[vop,hb,zAT,ht,hx',List.map_cons,List.map_nil];exact this
   ·cases hx
  ·exact zHC hx
def zeF (P:Program) (inv:D→List D→HT→VT) (mu:Bool) (o:Op) (ev:Operand→D) (h:HT):VT:=
 match qK o with
 |some (f,args)=>inv (ev f) (args.map ev) h
 |none=>zfH P mu o ev h
mutual
def zJ4:D→Option Nat
 | .ptr id _=>some id
 | .iptr cs _=>zB7 cs
 | .sl _ xs _=>zOI xs
 | .rs id _ _ _=>some id
 | .fn _ a c=>(zB7 a).or (zB7 c)
 | .agg cs=>zB7 cs
 | .tuple cs=>zB7 cs
 | .iface _ d=>zJ4 d
 |_=>none
def zB7:List D→Option Nat
 | []=>none
 |d::ds=>(zJ4 d).or (zB7 ds)
def zOI:List (List D)→Option Nat
 | []=>none
 |x::xs=>(zB7 x).or (zOI xs)
end
def zWU:Nat→D→Heap→D
 |0,d,_=>d
 |k+1,d,h=>match zJ4 d with
  |none=>d
  |some id=>match h.at' id with
   |some (.row cs)=>zWU k (frz id cs d) (h.frz id cs)
   |_=>d
theorem zA.settle {P:Program} {f:FuncId} {args:List D} {h:Heap} :∀ (k:Nat) (d:D) (h':Heap),zA P f args h (fun a b=>a=d∧b=h')→zA P f args h fun a _=>a=V.zWU k d h'
 |0,d,h',hv=>hv.mono fun a b hab=>hab.1
 |k+1,d,h',hv=>by
  unfold V.zWU;split
  ·exact hv.mono fun a b hab=>hab.1
  ·rename_i id _;split
   ·rename_i cs hi;refine zA.settle k _ _ (zA.freeze (hv.mono fun a b hab=> ?_));obtain⟨rfl,rfl⟩:=hab;exact⟨id,cs,hi,rfl,rfl⟩
   ·exact hv.mono fun a b hab=>hab.1
def yI (d:D) (h:Heap):D:=yC (zWU 16 d h)
theorem zA.settled_of {P:Program} {f:FuncId} {args:List D} {h:Heap} {d:D} {h':Heap} (hv:zA P f args h fun a b=>a=d∧b=h'):zA P f args h fun a _=>a=V.yI d h':=
 zA.strip ((zA.settle 16 d h' hv).mono fun a b hab=>by rw[hab];rfl)
def zhf:Tk→Tk→Bool
 | .no, .no=>true
 | .full, .full=>true
 |_,_=>false
mutual
def eqD:D→D→Bool
 | .bool a,y=>match y with
  | .bool b=>a==b
  |_=>false
 | .int k a,y=>match y with
  | .int k' b=>decide (k=k')&&decide (a=b)
  |_=>false
 | .str a,y=>match y with
  | .str b=>a==b
  |_=>false
 | .nilsl,y=>match y with
  | .nilsl=>true
  |_=>false
 | .sl s xs tk,y=>match y with
  | .sl s' ys tk'=>Nat.beq s s'&&(zhf tk tk'&&zbU xs ys)
  |_=>false
 | .agg xs,y=>match y with
  | .agg ys=>zUU xs ys
  |_=>false
 | .tuple xs,y=>match y with
  | .tuple ys=>zUU xs ys
  |_=>false
 |_,_=>false
def zUU:List D→List D→Bool
 | [],y=>match y with
  | []=>true
  |_=>false
 |x::xs,y=>match y with
  |y::ys=>eqD x y&&zUU xs ys
  |_=>false
def zbU:List (List D)→List (List D)→Bool
 | [],y=>match y with
  | []=>true
  |_=>false
 |x::xs,y=>match y with
  |y::ys=>zUU x y&&zbU xs ys
  |_=>false
end
theorem zX0:∀ {a b:Tk},zhf a b=true→a=b
 | .no, .no,_=>rfl
 | .full, .full,_=>rfl
 | .no, .full,h=>by cases h
 | .no, .own _,h=>by cases h
 | .full, .no,h=>by cases h
 | .full, .own _,h=>by cases h
 | .own _, .no,h=>by cases h
 | .own _, .full,h=>by cases h
 | .own _, .own _,h=>by cases h
mutual
theorem zbV:∀ (a b:D),eqD a b=true→a=b
 | .bool a,b,h=>by
  simp only[eqD] at h;split at h
  ·simpa using h
  ·cases h
 | .int k a,b,h=>by
  simp only[eqD] at h;split at h
  ·simp only[Bool.and_eq_true,decide_eq_true_eq] at h;rw[h.1,h.2]
  ·cases h
 | .str a,b,h=>by
  simp only[eqD] at h;split at h
  ·simpa using h
  ·cases h
 | .nilsl,b,h=>by
  simp only[eqD] at h;split at h
  ·rfl
  ·cases h
 | .sl s xs tk,b,h=>by
  simp only[eqD] at h;split at h
  ·simp only[Bool.and_eq_true] at h;rw[Nat.eq_of_beq_eq_true h.1,zX0 h.2.1,zRI _ _ h.2.2]
  ·cases h
 | .agg xs,b,h=>by
  simp only[eqD] at h;split at h
  ·rw[zE9 _ _ h]
  ·cases h
 | .tuple xs,b,h=>by
  simp only[eqD] at h;split at h
  ·rw[zE9 _ _ h]
  ·cases h
 | .nilptr,_,h=>by simp[eqD] at h
 | .ptr _ _,_,h=>by simp[eqD] at h
 | .iptr _ _,_,h=>by simp[eqD] at h
 | .rs _ _ _ _,_,h=>by simp[eqD] at h
 | .nilmap,_,h=>by simp[eqD] at h
 | .map _,_,h=>by simp[eqD] at h
 | .fn _ _ _,_,h=>by simp[eqD] at h
 | .yld _,_,h=>by simp[eqD] at h
 | .nilfn,_,h=>by simp[eqD] at h
 | .iface _ _,_,h=>by simp[eqD] at h
 | .niliface,_,h=>by simp[eqD] at h
theorem zE9:∀ (a b:List D),zUU a b=true→a=b
 | [],b,h=>by
  simp only[zUU] at h;split at h
  ·rfl
  ·cases h
 |x::xs,b,h=>by
  simp only[zUU] at h;split at h
  ·simp only[Bool.and_eq_true] at h;rw[zbV _ _ h.1,zE9 _ _ h.2]
  ·cases h
theorem zRI:∀ (a b:List (List D)),zbU a b=true→a=b
 | [],b,h=>by
  simp only[zbU] at h;split at h
  ·rfl
  ·cases h
 |x::xs,b,h=>by
  simp only[zbU] at h;split at h
  ·simp only[Bool.and_eq_true] at h;rw[zE9 _ _ h.1,zRI _ _ h.2]
  ·cases h
end
def zF7 (S:List Nat) (h:Heap):Heap:=⟨h.next,fun i=>if S.contains i then h.at' i else none⟩
def zDR:List D→List Nat
 | []=>[]
 |d::ds=>match d with
  | .rs i _ _ _=>i::zDR ds
  |_=>zDR ds
def zUV (n:Nat):List D→Bool
 | []=>true
 |d::ds=>(match d with
  | .rs i _ _ _=>Nat.blt i n
  |d=>zDQ d)&&zUV n ds
def zWV (h:Heap) (ids:List Nat):Bool:=ids.all fun i=>Nat.blt i h.next&&match h.at' i with
 |some (.row cs)=>zAK cs
 |_=>false
def zOJ (h:Heap) (h':Nat→Option Obj) (ids:List Nat):Bool:=ids.all fun i=>match h.at' i with
 |some (.row cs)=>match h' i with
  |some (.row cs')=>zUU cs cs'
  |_=>false
 |_=>false
def zUW (P:Program) (inv:D→List D→HT→VT) (o:Op) (ev:Operand→D) (h:Heap):Option D:=
 match qK o with
 |some (f,args)=>match ev f with
  | .fn (.func g) a c=>if zAK (a++args.map ev++c) then(match inv (ev f) (args.map ev) HT.emp with
   |some (d,h')=>if zDQ (yI d h'.heap) then some (yI d h'.heap) else none
   |none=>none) else
   if zUV h.next (a++args.map ev++c)&&zWV h (zDR (a++args.map ev++c)) then(match inv (ev f) (args.map ev) (HT.emp.upd (zF7 (zDR (a++args.map ev++c)) h) (zDR (a++args.map ev++c))) with
   |some (d,h')=>if zDQ d&&zOJ h h'.at' (zDR (a++args.map ev++c)) then some d else none
   |none=>none) else none
  |_=>none
 |none=>if wG P false o||zAl P o then(vop P false h.next o ev h).map (·.1) else none
def zbW (P:Program) (inv:D→List D→HT→VT) (mu:Tmp→Bool) (ops:Array Oper):List Oper→TF→HT→XR
 | [],fr,h=>some (.normal,fr,h)
 |o::rest,fr,h=>
  match y9 ops fr.fr o.guard with
  |true=>match zeF P inv (zFh mu o.dst) o.op (zz fr.fr) h with
   |some (d,h')=>zbW P inv mu ops rest (fr.putO o.dst d) h'
   |none=>none
  |false=>zbW P inv mu ops rest (fr.putO o.dst wA) h
def HT.dels (h:HT):List Nat→HT
 | []=>h
 |i::is=>(HT.dels h is).delO i
def zEM (h:HT) (S:List Nat):List Nat:=S.filter fun i=>(h.at' i).isSome
def zRJ (inv:D→List D→HT→VT) (f:D) (args:List D) (h:HT) (S:List Nat):VT:=
 match f with
 | .fn (.func g) a c=>match inv (.fn (.func g) a c) args (h.dels (zEM h S)) with
  |some (d,h1)=>some (d,h1.puts h.heap (zEM h S))
  |none=>none
 |_=>none
def zIL (P:Program) (inv:D→List D→HT→VT) (mu:Tmp→Bool) (S:List Nat) (h0:Heap) (bk:Nat→Bool) (ops:Array Oper):Bool→List (Nat×Fl)→TF→HT→XR
 |_,[],fr,h=>some (.normal,fr,h)
 |fl,(i,st)::rest,fr,h=>
  match ops[i]? with
  |none=>none
  |some o=>match y9 ops fr.fr o.guard with
   |false=>zIL P inv mu S h0 bk ops (fl&& !bk i) rest (fr.putO o.dst wA) h
   |true=>match st with
    | .st=>match zUW P inv o.op (zz fr.fr) h0 with
     |some d=>zIL P inv mu S h0 bk ops (fl&& !bk i) rest (fr.putO o.dst d) h
     |none=>none
    | .qu=>if(qK o.op).isSome then(match zUW P inv o.op (zz fr.fr) h.heap with
     |some d=>zIL P inv mu S h0 bk ops (fl&& !bk i) rest (fr.putO o.dst d) h
     |none=>none) else none
    | .al _=>none
    | .no=>match fl&& !bk i with
     |true=>match qK o.op with
      |none=>if wG P (zFh mu o.dst) o.op||(qW o.op (zz fr.fr) h.next).all (fun i=> !S.contains i) then(match vop P (zFh mu o.dst) h.next o.op (zz fr.fr) h.heap with
       |some (d,h')=>zIL P inv mu S h0 bk ops true rest (fr.putO o.dst d) (h.upd h' (qW o.op (zz fr.fr) h.next))
       |none=>none) else none
      |some (f,args)=>match zRJ inv (zz fr.fr f) (args.map (zz fr.fr)) h S with
       |some (d,h')=>zIL P inv mu S h0 bk ops true rest (fr.putO o.dst d) h'
       |none=>none
     |false=>match zeF P inv (zFh mu o.dst) o.op (zz fr.fr) h with
      |some (d,h')=>zIL P inv mu S h0 bk ops false rest (fr.putO o.dst d) h'
      |none=>none
mutual
def zhg:D→List Nat
 | .ptr i _=>[i]
 | .rs i _ _ _=>[i]
 | .map i=>[i]
 | .iptr cs _=>zae cs
 | .sl _ xs _=>zhh xs
 | .agg cs=>zae cs
 | .tuple cs=>zae cs
 |_=>[]
def zae:List D→List Nat
 | []=>[]
 |d::ds=>zhg d++zae ds
def zhh:List (List D)→List Nat
 | []=>[]
 |x::xs=>zae x++zhh xs
end
def zQh (h:HT) (S:List Nat):List Nat:=S++S.flatMap fun i=>match h.at' i with
 |some (.row cs)=>zae cs
 |_=>[]
def zX1:Op→List Operand
 | .load _ a=>[a]
 | .fieldAddr _ a _=>[a]
 | .indexAddr _ a _=>[a]
 | .lookup _ a _ _=>[a]
 |_=>[]
def zjE (t:Tmp):Operand→Bool
 | .tmp u=>Nat.beq t u
 |_=>false
def zRK:List Oper→Tmp→Option Op
 | [],_=>none
 |o::os,t=>match o.dst with
  |some u=>match Nat.beq u t with
   |true=>some o.op
   |false=>zRK os t
  |none=>zRK os t
def zBZ (ops:List Oper):Nat→Operand→Nat×Operand
 |0,a=>(0,a)
 |n+1,a=>match a with
  | .tmp t=>match zRK ops t with
   |none=>(0,a)
   |some op=>match op with
    | .load _ b=>match zBZ ops n b with
     |(k,c)=>(k+1,c)
    | .lookup _ b _ _=>match zBZ ops n b with
     |(k,c)=>(k+1,c)
    | .fieldAddr _ b _=>zBZ ops n b
    | .indexAddr _ b _=>zBZ ops n b
    | .nilCheck b=>zBZ ops n b
    | .move b=>zBZ ops n b
    | .extract b _=>zBZ ops n b
    | .field _ b _=>zBZ ops n b
    |_=>(0, .const (.bool true))
  |_=>(0,a)
def zbX (h:HT):Nat→List Nat→List Nat
 |0,l=>l
 |k+1,l=>zbX h k (zQh h l)
def zRL (ops:Array Oper) (l:List (Nat×Fl)) (fr:Frm) (h:HT):List Nat:=l.flatMap fun j=>match j.2 with
 | .st=>match ops[j.1]? with
  |some o=>match qK o.op with
   |some (_,args)=>args.flatMap fun a=>match zBZ ops.toList 8 a with
    |(k,b)=>match k with
     |0=>zDR [zz fr b]
     |_+1=>[]
   |none=>(zX1 o.op).flatMap fun a=>match zBZ ops.toList 8 a with
    |(k,b)=>zbX h k (zhg (zz fr b))
  |none=>[]
 |_=>[]
def zM5 (P:Program) (inv:D→List D→HT→VT) (mu:Tmp→Bool) (ops:Array Oper) (l:List (Nat×Fl)) (fr:TF) (h:HT):XR:=
 match alN l with
 |_+1=>none
 |0=>match l.any (·.2.isSt) with
 |false=>zIL P inv mu [] (zF7 [] h.heap) (fun _=>false) ops false l fr h
 |true=>zIL P inv mu (zRL ops l fr.fr h) (zF7 (zRL ops l fr.fr h) h.heap) (zUB P mu ops l (zF5 ops.toList 0 [])) ops true l fr h
def zbY (b:TF→HT→XR):Nat→TF→HT→XR
 |0,_,_=>none
 |n+1,fr,h=>match b fr h with
  |none=>none
  |some (e,fr',h')=>match e with
   | .normal=>zbY b n fr' h'
   |e=>some (e,fr',h')
def roB (ro:Option Nat) (h:HT):Bool:=
 match ro with
 |none=>true
 |some id=>match h.at' id with
  |some (.loop _)=>true
  |_=>false
def zCU (P:Program) (inv:Inv) (g:Cfg) (n fuel:Nat) (ro:Option Nat) (env:Env):Code→TF→HT→XR
 | .skip,fr,h=>some (.normal,fr,h)
 | .region id ops draw,fr,h=>match draw with
  |false=>zbW P (inv env) g.mu ops ops.toList fr h
  |true=>zM5 P (inv env) g.mu ops (g.dr id) fr h
 | .seq a b,fr,h=>match zCU P inv g n fuel ro env a fr h with
  |none=>none
  |some (e,fr',h')=>match e with
   | .normal=>zCU P inv g n fuel ro env b fr' h'
   |e=>some (e,fr',h')
 | .cond c a b,fr,h=>match zz fr.fr c with
  | .bool b'=>match b' with
   |true=>zCU P inv g n fuel ro env a fr h
   |false=>zCU P inv g n fuel ro env b fr h
  |_=>none
 | .block id c,fr,h=>match zCU P inv g n fuel ro env c fr h with
  |none=>none
  |some (e,fr',h')=>match e with
   | .exit i=>if i=id then some (.normal,fr',h') else some (.exit i,fr',h')
   |e=>some (e,fr',h')
 | .exit id,fr,h=>some (.exit id,fr,h)
 | .ret,fr,h=>some (.ret,fr,h)
 | .label _,fr,h=>some (.normal,fr,h)
 | .scope c,fr,h=>match zCU P inv g n fuel ro env c fr h with
  |none=>none
  |some (e,fr',h')=>match e with
   | .goto _=>none
   |e=>some (e,fr',h')
 | .loop c,fr,h=>zbY (zCU P inv g n fuel ro env c) fuel fr h
 | .rangeFunc f ps as body,fr,h=>
  if roB ro h then
   match zz fr.fr f with
   | .fn (.func g') first cap=>match inv ((h.next,g)::env) (.fn (.func g') first cap) [.yld h.next] (h.newO h.next (.loop ⟨.ready,none,fr.fr,ps,as,body,n⟩)) with
    |none=>none
    |some (_,h')=>match h'.at' h.next with
     |some (.loop r)=>if r.st= .busy then none else match r.pending with
      |none=>some (.normal,fr,h'.delO h.next)
      |some c=>match c with
       | .ret=>some (.ret,fr,h'.delO h.next)
       | .exit i=>some (.exit i,fr,h'.delO h.next)
       |_=>none
     |_=>none
   |_=>none
  else none
 |_,_,_=>none
def zbZ:Env→Nat→Option Cfg
 | [],_=>none
 |(i,g)::env,id=>if i=id then some g else zbZ env id
def zRM (P:Program) (inv:Inv) (g:Cfg) (fuel:Nat) (env:Env) (id:Nat) (args:List D) (h:HT):VT:=
 match h.at' id with
 |some (.loop ⟨_,_,fr,ps,as,body,n⟩)=>
  if args.length=ps.size&&ps.toList.all (fun t=>decide (t<n))&&qi P g n as&&qi P g n body then
   match zCU P inv g n fuel (some id) env as ((TF.of fr 8).puts ps.toList args) h with
   |some (e1,fr1,h1)=>match e1 with
    | .normal=>match h1.at' id with
     |some (.loop L1)=>if L1.st= .ready then
       match zCU P inv g n fuel (some id) env body fr1 (h1.setO id (.loop { L1 with st:= .busy })) with
       |some (e,_,h2)=>match h2.at' id with
        |some (.loop L2)=>match e with
         | .normal=>some (.bool true,h2.setO id (.loop { L2 with st:= .ready,pending:=none }))
         | .ret=>some (.bool false,h2.setO id (.loop { L2 with st:= .done,pending:=some .ret }))
         | .exit i=>some (.bool false,h2.setO id (.loop { L2 with st:= .done,pending:=some (.exit i) }))
         |_=>none
        |_=>none
       |none=>none
      else none
     |_=>none
    |_=>none
   |none=>none
  else none
 |_=>none
def zfI (P:Program) (inv:Inv) (g:Cfg) (fuel:Nat) (env:Env) (fn:Func) (args:List D) (h:HT):VT:=
 match fn.body with
 |none=>none
 |some co=>if decide (args.length≤fn.ntmps) then
   match zCU P inv g fn.ntmps fuel none env co (TF.of (zJx args) 8) h with
   |some (e,fr',h')=>match e with
    | .normal=>(zA9 P fr'.fr h'.heap fn.results.toList).map fun ds=>(zE4 ds,h')
    | .ret=>(zA9 P fr'.fr h'.heap fn.results.toList).map fun ds=>(zE4 ds,h')
    |_=>none
   |none=>none
  else none
def zM6:Nat→D→HT→D×HT
 |0,d,h=>(d,h)
 |k+1,d,h=>match zJ4 d with
  |none=>(d,h)
  |some id=>match h.at' id with
   |some (.row cs)=>zM6 k (frz id cs d) (h.delO id)
   |_=>(d,h)
theorem zA.settleT {P:Program} {f:FuncId} {args:List D} {h:Heap} :∀ (k:Nat) (d:D) (h':HT),zA P f args h (fun a b=>a=d∧b=h'.heap)→zA P f args h fun a b=>a=(V.zM6 k d h').1∧b=(V.zM6 k d h').2.heap
 |0,d,h',hv=>hv
 |k+1,d,h',hv=>by
  unfold V.zM6;split
  ·exact hv
  ·rename_i id _;split
   ·rename_i cs hi;refine zA.settleT k _ _ (zA.freezeD (hv.mono fun a b hab=> ?_));obtain⟨rfl,rfl⟩:=hab;exact⟨id,cs,hi,rfl,by rw[HT.delO_heap]⟩
   ·exact hv
def zX2 (b:Bool) (r:VT):VT:=
 match b with
 |false=>r
 |true=>match r with
  |some (d,h)=>some (yC (zM6 64 d h).1,(zM6 64 d h).2)
  |none=>none
theorem zA.settleR {P:Program} {f:FuncId} {args:List D} {h:Heap} {b:Bool} {r:VT} {d:D} {h':HT} (hr:V.zX2 b r=some (d,h')) (hv:∀d h',r=some (d,h')→zA P f args h fun a b=>a=d∧b=h'.heap):zA P f args h fun a b=>a=d∧b=h'.heap:=by
 cases b with
 |false=>exact hv d h' hr
 |true=>
  simp only[V.zX2] at hr;cases r with
  |none=>cases hr
  |some x=>
   obtain⟨d1,h1⟩:=x;cases hr;exact zA.strip ((zA.settleT 64 d1 h1 (hv d1 h1 rfl)).mono fun a b hab=>by rw[hab.1,hab.2];exact⟨rfl,rfl⟩)
def zJ5 {α:Type} :List (Nat×α)→Nat→Option α
 | [],_=>none
 |(k,x)::l,n=>match Nat.beq k n with
  |true=>some x
  |false=>zJ5 l n
def zj (P:Program) (g:Cfg) (fn:Func):Bool:=(match fn.body with
 |some co=>qi P g fn.ntmps co
 |none=>true)&& !(fn.name== "runtime.NumGoroutine")
def zFA (P:Program):List (Nat× (Func×Cfg))→Prop
 | []=>True
 |(k,x)::l=>(P.funcs[k]? =some x.1∧zj P x.2 x.1=true)∧zFA P l
theorem zLQ {P:Program} :∀ {l:List (Nat× (Func×Cfg))},zFA P l→∀g x,zJ5 l g=some x→P.funcs[g]? =some x.1∧zj P x.2 x.1=true
 | [],_,_,_,h=>by cases h
 |(k,x)::l,hg,g,y,h=>by
  simp only[zJ5] at h;split at h
  ·rename_i hb;cases h;rw[←Nat.eq_of_beq_eq_true hb];exact hg.1
  ·exact zLQ hg.2 g y h
def zWW (b:Bool) (as:List D):List D:=match b with
 |true=>yh as
 |false=>as
theorem zA.stripA {P:Program} {f:FuncId} {b:Bool} {args:List D} {h:Heap} {Q:D→Heap→Prop} (hv:zA P f (V.zWW b args) h Q):zA P f args h Q:=by
 cases b with
 |false=>exact hv
 |true=>exact⟨hv.1,fun w0 G M ρ w va hg0 hs hfr hr=>hv.2 w0 G M ρ w va hg0 hs hfr (zAx _ _ _ _ hr)⟩
abbrev zRN:=Option (D×Option (Nat×Obj))
def zba (u:Option (Nat×Obj)) (h:Heap):Heap:=
 match u with
 |none=>h
 |some x=>h.set x.1 x.2
def HT.updO (h:HT) (u:Option (Nat×Obj)):HT:=
 match u with
 |none=>h
 |some x=>h.setO x.1 x.2
theorem HT.updO_heap (h:HT) (u:Option (Nat×Obj)):(h.updO u).heap=V.zba u h.heap:=by
 cases u with
 |none=>rfl
 |some x=>exact h.setO_heap x.1 x.2
def zLR (o:Option D):zRN:=
 match o with
 |some d=>some (d,none)
 |none=>none
def zCV (P:Program) (tab:List (Nat× (Func×Cfg))) (sett:FuncId→Bool) (ext:FuncId→List D→(Nat→Option Obj)→zRN) (fuel:Nat):Nat→Inv
 |0,_,_,_,_=>none
 |k+1,env,f,args,h=>match f with
  | .fn (.func g) first cap=>match ext g (zWW (sett g) (first++args++cap)) h.at' with
   |some r=>some (r.1,h.updO r.2)
   |none=>match zJ5 tab g with
    |some x=>zX2 (sett g) (zfI P (zCV P tab sett ext fuel k) x.2 fuel env x.1 (zWW (sett g) (first++args++cap)) h)
    |none=>none
  | .yld id=>match zbZ env id with
   |some g=>zRM P (zCV P tab sett ext fuel k) g fuel env id args h
   |none=>none
  |_=>none
section
variable {P:Program} {inv:Inv} {g:Cfg} {n fuel:Nat} {env:Env}
def zIM (P:Program) (inv:Inv):Prop:=∀env f args h d h',inv env f args h=some (d,h')→zIJ P f args h.heap fun a b=>a=d∧b=h'.heap
theorem zOK {t:TypeId} {a d:D} {h h':Heap} (hle:HLe h h') (hv:zBi P t a h=some d):zBi P t a h'=some d:=by
 unfold zBi at hv⊢;split at hv
 ·cases hv
 ·split at hv
  ·exact hv
  ·rename_i id off;cases ho:h.at' id with
   |none=>rw[ho] at hv;cases hv
   |some ob=>
    rw[ho] at hv;rw[hle id ob ho];exact hv
  ·cases hv
theorem zPr {t:TypeId} {m k d:D} {ok:Bool} {h h':Heap} (hle:HLe h h') (hv:wB P t m k ok h=some d):wB P t m k ok h'=some d:=by
 have key:∀es,zID m h=some es→zID m h'=some es:=fun es he=>by
  unfold zID at he⊢;split at he
  ·exact he
  ·rename_i id;cases ho:h.at' id with
   |none=>rw[ho] at he;cases he
   |some ob=>
    rw[ho] at he;rw[hle id ob ho];exact he
  ·cases he
 unfold wB at hv⊢;cases h1:zN5 P t with
 |none=>rw[h1] at hv;cases hv
 |some x=>
  rw[h1] at hv;obtain⟨kt,e⟩:=x;simp only at hv⊢;cases h2:zN6 P kt with
  |none=>rw[h2] at hv;cases hv
  |some y=>
   rw[h2] at hv;obtain⟨ag,ks⟩:=y;simp only at hv⊢;cases h3:qS P e with
   |none=>rw[h3] at hv;cases hv
   |some z=>
    rw[h3] at hv;simp only at hv⊢;cases h4:zID m h with
    |none=>rw[h4] at hv;cases hv
    |some es=>
     rw[h4] at hv;rw[key _ h4];exact hv
theorem zPs {t:TypeId} {x d:D} {lo hi mx:Option D} {h h':Heap} (hle:HLe h h') (hv:yZ P t x lo hi mx h=some d):yZ P t x lo hi mx h'=some d:=by
 unfold yZ at hv⊢;split at hv
 ·split at hv
  ·unfold zJb at hv⊢;split at hv
   ·rename_i hc;rw[if_pos hc];split at hv
    ·cases hv
    ·split at hv
     ·rename_i id off;cases ho:h.at' id with
      |none=>rw[ho] at hv;cases hv
      |some ob=>
       rw[ho] at hv;simp only[hle id ob ho];exact hv
     ·exact hv
     ·cases hv
   ·cases hv
  ·cases hv
 ·exact hv
theorem zEN {m:Bool} {nid:Nat} {o:Op} {ev:Operand→D} {h:Heap} {K:D→Heap→Prop} {f:Operand} {args:List Operand} (hc:qK o=some (f,args)):qn P m nid o ev h K=zIJ P (ev f) (args.map ev) h K:=by
 unfold qn;rw[hc]
theorem zDA {m:Bool} {nid:Nat} {o:Op} {ev:Operand→D} {h h':Heap} {d:D} {K:D→Heap→Prop} (hc:qK o=none) (hv:vop P m nid o ev h=some (d,h')):qn P m nid o ev h K=K d h':=by
 unfold qn;rw[hc];simp only;rw[hv]
theorem zIu {m:Bool} {o:Op} {ev:Operand→D} {h h':HT} {d:D} {K:D→Heap→Prop} (hi:zIM P inv) (hx:zeF P (inv env) m o ev h=some (d,h')) (hk:K d h'.heap):qn P m h.heap.next o ev h.heap K:=by
 unfold zeF at hx;cases hc:qK o with
 |some r=>
  obtain⟨f,args⟩:=r;rw[hc] at hx;rw[zEN hc];exact zIJ.mono (fun a b hab=>by rw[hab.1,hab.2];exact hk) (hi _ _ _ _ _ _ hx)
 |none=>
  rw[hc] at hx;simp only at hx;rw[zDA (nid:=h.heap.next) hc (zRH hx)];exact hk
theorem zPt {S:List Nat} {h:Heap} {j:Nat} (hj:j∉S):(zF7 S h).at' j=HT.emp.at' j:=by
 have h1:HT.emp.at' j=none:=by
  have:=congrArg (fun x=>Heap.at' x j) HT.emp_heap;exact this
 rw[h1];simp[zF7,hj]
mutual
theorem zu {j k:Nat} (hjk:j≤k):∀d:D,below j d→below k d
 | .bool _,_=>trivial
 | .int _ _,_=>trivial
 | .str _,_=>trivial
 | .nilptr,_=>trivial
 | .ptr _ _,h=>Nat.lt_of_lt_of_le h hjk
 | .iptr cs _,h=>wd hjk cs h
 | .nilsl,_=>trivial
 | .sl _ xs tk,h=>by
  simp only[below] at h⊢;refine⟨zHD hjk xs h.1,?_⟩;have h2:=h.2;cases tk with
  |own t=>exact Nat.lt_of_lt_of_le h2 hjk
  |_=>trivial
 | .rs _ _ _ _,h=>Nat.lt_of_lt_of_le h hjk
 | .nilmap,_=>trivial
 | .map _,h=>Nat.lt_of_lt_of_le h hjk
 | .fn _ a c,h=>⟨wd hjk a h.1,wd hjk c h.2⟩
 | .yld _,h=>Nat.lt_of_lt_of_le h hjk
 | .nilfn,_=>trivial
 | .agg cs,h=>wd hjk cs h
 | .tuple cs,h=>wd hjk cs h
 | .iface _ d,h=>zu hjk d h
 | .niliface,_=>trivial
theorem wd {j k:Nat} (hjk:j≤k):∀ds:List D,yB j ds→yB k ds
 | [],_=>trivial
 |d::ds,h=>⟨zu hjk d h.1,wd hjk ds h.2⟩
theorem zHD {j k:Nat} (hjk:j≤k):∀xs:List (List D),zBp j xs→zBp k xs
 | [],_=>trivial
 |x::xs,h=>⟨wd hjk x h.1,zHD hjk xs h.2⟩
end
theorem zIv {n:Nat} :∀ (ds:List D),zUV n ds=true→yB n ds
 | [],_=>trivial
 |d::ds,h=>by
  simp only[zUV,Bool.and_eq_true] at h;refine⟨?_,zIv ds h.2⟩;have h1:=h.1;split at h1
  ·simp only[below];rw[Nat.blt_eq] at h1;exact h1
  ·exact zu (Nat.zero_le _) _ (zAL _ h1)
theorem zHE {h:Heap} {ids:List Nat} {i:Nat} {ob:Obj} (hr:zWV h ids=true) (hi:i∈ids) (ho:h.at' i=some ob):i<h.next∧∃cs,ob= .row cs∧yB 0 cs:=by
 have:=List.all_eq_true.1 hr i hi;simp only[Bool.and_eq_true] at this;refine⟨by have h1:=this.1;rw[Nat.blt_eq] at h1;exact h1,?_⟩;have h2:=this.2;rw[ho] at h2;split at h2
 ·rename_i cs hcs;cases hcs;exact⟨cs,rfl,y7 _ h2⟩
 ·cases h2
theorem zJ6 {h:Heap} {h':Nat→Option Obj} {ids:List Nat} {i:Nat} {ob:Obj} (hr:zOJ h h' ids=true) (hi:i∈ids) (ho:h.at' i=some ob):h' i=some ob:=by
 have:=List.all_eq_true.1 hr i hi;rw[ho] at this;split at this
 ·rename_i cs hcs;cases hcs;split at this
  ·rename_i cs' hcs';rw[hcs',zE9 _ _ this]
  ·cases this
 ·cases this
theorem zHF {o:Op} {ev:Operand→D} {h:Heap} {d:D} (hi:zIM P inv) (hx:zUW P (inv env) o ev h=some d):zWP P h o ev d:=by
 intro h' hle;unfold zUW at hx;cases hc:qK o with
 |some r=>
  obtain⟨f,args⟩:=r;rw[hc] at hx;rw[zEN hc];simp only at hx;split at hx
  ·rename_i g a c hf;split at hx
   ·rename_i hb;split at hx
    ·rename_i d0 h0 hr;split at hx
     ·rename_i hd;cases hx;have:=hi _ _ _ _ _ _ hr;rw[hf,HT.emp_heap] at this;rw[hf];exact(zA.frame (Q:=fun x=>x=yI d0 h0.heap) (y7 _ hb) (zA.mono (zA.settled_of this) fun x y hxy=>by rw[hxy];exact⟨zAL _ hd,rfl⟩) h').mono fun x y hxy=>⟨hxy.2,hxy.1⟩
     ·cases hx
    ·cases hx
   ·split at hx
    ·rename_i hb;simp only[Bool.and_eq_true] at hb;split at hx
     ·rename_i d0 h0 hr;split at hx
      ·rename_i hd;simp only[Bool.and_eq_true] at hd;cases hx;have:=hi _ _ _ _ _ _ hr;rw[HT.upd_heap _ _ _ fun j hj=>zPt hj] at this;rw[hf] at this⊢;have hrest:∀i ob,(zF7 (zDR (a++args.map ev++c)) h).at' i=some ob→i∈zDR (a++args.map ev++c)∧h.at' i=some ob:=fun i ob e=>by
        simp only[zF7] at e;split at e
        ·rename_i hc;exact⟨by simpa using hc,e⟩
        ·cases e
       refine(zA.frameAt (Q:=fun x=>x=d) (h1:=zF7 (zDR (a++args.map ev++c)) h) (zIv _ hb.1) (fun i ob e=> ?_) (fun i ob e=> ?_) (zA.mono this fun x y hxy=> ?_) h' fun i ob e=>hle i ob (hrest i ob e).2).mono fun x y hxy=>⟨hxy.2,hxy.1⟩
       ·exact(zHE hb.2 (hrest i ob e).1 (hrest i ob e).2).1
       ·exact(zHE hb.2 (hrest i ob e).1 (hrest i ob e).2).2
       ·obtain⟨rfl,rfl⟩:=hxy;exact⟨fun i ob e=>zJ6 hd.2 (hrest i ob e).1 (hrest i ob e).2,zAL _ hd.1,rfl⟩
      ·cases hx
     ·cases hx
    ·cases hx
  ·cases hx
 |none=>
  rw[hc] at hx;simp only at hx;split at hx
  ·rename_i hs;cases hvop:vop P false h.next o ev h with
   |none=>rw[hvop] at hx;cases hx
   |some r=>
    rw[hvop] at hx;cases hx;rcases Bool.or_eq_true _ _▸hs with hs|hs
    ·obtain⟨r',hr⟩:=zAw (P:=P) (ev:=ev) hs;rw[hr] at hvop;cases r' with
     |none=>cases hvop
     |some x=>
      cases hvop;rw[zDA hc (hr h'.next h')];exact⟨rfl,rfl⟩
    ·cases o<;>simp only[zAl] at hs<;>(try (cases hs;done))<;>simp only[vop] at hvop
     ·rename_i t a _;cases hl:zBi P t (ev a) h with
      |none=>rw[hl] at hvop;cases hvop
      |some x=>
       rw[hl] at hvop;cases hvop;rw[zDA (d:=x) (h':=h') hc (by simp only[vop,zOK hle hl,Option.map_some])];exact⟨rfl,rfl⟩
     ·rename_i t x lo hi mx _;cases hl:yZ P t (ev x) (lo.map ev) (hi.map ev) (mx.map ev) h with
      |none=>rw[hl] at hvop;cases hvop
      |some y=>
       rw[hl] at hvop;cases hvop;rw[zDA (d:=y) (h':=h') hc (by simp only[vop,zPs hle hl,Option.map_some])];exact⟨rfl,rfl⟩
     ·rename_i t m k ok _;cases hl:wB P t (ev m) (ev k) ok h with
      |none=>rw[hl] at hvop;cases hvop
      |some x=>
       rw[hl] at hvop;cases hvop;rw[zDA (d:=x) (h':=h') hc (by simp only[vop,zPr hle hl,Option.map_some])];exact⟨rfl,rfl⟩
  ·cases hx
theorem zRO {m:Bool} {nid:Nat} {o:Op} {ev:Operand→D} {h:Heap} {d:D} (hc:(qK o).isSome=true) (hs:zWP P h o ev d):qn P m nid o ev h fun d' h'=>d'=d∧h'=h:=by
 obtain⟨r,hr⟩:=Option.isSome_iff_exists.1 hc;obtain⟨f,args⟩:=r;have:=hs h fun _ _ e=>e;rw[zEN hr] at this⊢;exact this
theorem zFB {mu:Tmp→Bool} {ops:Array Oper} (hi:zIM P inv) {K:Frm→Heap→Prop} {Q:Exit→Frm→Heap→Prop} (hq:Q .normal=K):∀ (l:List Oper) (fr:TF) (h:HT) (e:Exit) (fr':TF) (h':HT),zbW P (inv env) mu ops l fr h=some (e,fr',h')→Q e fr'.fr h'.heap→
  zH9 P mu ops l K fr.fr h.heap
 | [],fr,h,e,fr',h',hx,hk=>by
  cases hx;rw[hq] at hk;exact hk
 |o::rest,fr,h,e,fr',h',hx,hk=>by
  simp only[zbW] at hx;simp only[zH9];cases hg:y9 ops fr.fr o.guard with
  |true=>
   rw[hg] at hx;simp only at hx⊢;split at hx
   ·rename_i hx1;refine zIu hi hx1 ?_;rw[←TF.fr_putO];exact zFB hi hq rest _ _ e fr' h' hx hk
   ·cases hx
  |false=>
   rw[hg] at hx;simp only at hx⊢;rw[←TF.fr_putO];exact zFB hi hq rest _ _ e fr' h' hx hk
theorem HT.dels_at (h:HT) (j:Nat):∀is:List Nat,(h.dels is).at' j=if j∈is then none else h.at' j
 | []=>by simp[HT.dels]
 |i::is=>by
  simp only[HT.dels,HT.delO,HT.put_at,HT.dels_at h j is,List.mem_cons];by_cases hj:j=i
  ·subst hj;simp
  ·simp[hj]
theorem HT.dels_next (h:HT):∀is:List Nat,(h.dels is).next=h.next
 | []=>rfl
 |i::is=>by simp only[HT.dels,HT.delO,HT.put_next,HT.dels_next h is]
theorem HT.puts_next (h:HT) (h':Heap):∀is:List Nat,(h.puts h' is).next=h.next
 | []=>rfl
 |i::is=>by simp only[HT.puts,HT.put_next,HT.puts_next h h' is]
theorem zFm {f d:D} {args:List D} {h h':HT} {S:List Nat} {K:D→Heap→Prop} (hi:zIM P inv) (hx:zRJ (inv env) f args h S=some (d,h')) (hk:K d h'.heap):zIJ P f args h.heap K∧∀i∈S,∀ob,h.at' i=some ob→h'.at' i=some ob:=by
 unfold zRJ at hx;split at hx
 ·rename_i g a c;split at hx
  ·rename_i d0 h1 hr;cases hx;refine⟨?_,fun i hiS ob ho=> ?_⟩
   ·have hv:=hi _ _ _ _ _ _ hr;simp only[zIJ] at hv⊢
    let h2:Nat→Option Obj:=fun i=>if i∈zEM h S then h.at' i else none
    have hh:h.heap=(h.dels (zEM h S)).heap.plus h2:=by
     unfold Heap.plus HT.heap;simp only[HT.dels_next];congr 1
     funext i
     simp only[HT.dels_at,h2];by_cases hm:i∈zEM h S<;>simp[hm]
    rw[hh];refine(zA.plus h2 (fun i ob e=> ?_) hv).mono fun a b hab=> ?_
    ·simp only[h2] at e;split at e
     ·rename_i hm;show(h.dels _).at' i=none;rw[HT.dels_at,if_pos hm]
     ·cases e
    ·obtain⟨h1',⟨rfl,rfl⟩,rfl,hn⟩:=hab
     have:(h1.puts h.heap (zEM h S)).heap=h1.heap.plus h2:=by
      unfold Heap.plus HT.heap;simp only[HT.puts_next];congr 1
      funext i
      rw[HT.puts_at];simp only[h2];by_cases hm:i∈zEM h S
      ·simp only[if_pos hm];have hlive:(h.at' i).isSome=true:=by
        unfold zEM at hm;exact(List.mem_filter.1 hm).2
       obtain⟨ob,ho⟩:=Option.isSome_iff_exists.1 hlive;have:=hn i ob (by simp only[h2];rw[if_pos hm];exact ho);have this:h1.at' i=none:=this;rw[this];rfl
      ·simp[hm]
     rw[this] at hk;exact hk
   ·rw[HT.puts_at,if_pos]
    ·exact ho
    ·unfold zEM;exact List.mem_filter.2 ⟨hiS,by simp[ho]⟩
  ·cases hx
 ·cases hx
theorem wH {mu:Tmp→Bool} {S:List Nat} {h0:Heap} (h0s:∀i ob,h0.at' i=some ob→i∈S) {bk:Nat→Bool} {ops:Array Oper} (hi:zIM P inv) {K:Frm→Heap→Prop} {Q:Exit→Frm→Heap→Prop} (hq:Q .normal=K):∀ (l:List (Nat×Fl)) (fl:Bool) (fr:TF) (h:HT) (e:Exit) (fr':TF) (h':HT),(fl=true→HLe h0 h.heap)→
  zIL P (inv env) mu S h0 bk ops fl l fr h=some (e,fr',h')→Q e fr'.fr h'.heap→zAa P mu h0 bk ops fl l K fr.fr h.heap
 | [],fl,fr,h,e,fr',h',hf,hx,hk=>by
  cases hx;rw[hq] at hk;exact hk
 |(i,st)::rest,fl,fr,h,e,fr',h',hf,hx,hk=>by
  simp only[zIL] at hx;simp only[zAa];have hf':(fl&& !bk i)=true→HLe h0 h.heap:=fun hb=>hf (by simp only[Bool.and_eq_true] at hb;exact hb.1);cases ho:ops[i]? with
  |none=>rw[ho] at hx;cases hx
  |some o=>
   rw[ho] at hx;simp only at hx⊢;unfold ux;cases hg:y9 ops fr.fr o.guard with
   |false=>
    rw[hg] at hx;simp only at hx⊢;rw[←TF.fr_putO];exact⟨hf',wH h0s hi hq rest _ _ _ e fr' h' hf' hx hk⟩
   |true=>
    rw[hg] at hx;simp only at hx⊢;cases st with
    |al k=>simp only at hx;cases hx
    |qu=>
     simp only at hx⊢;split at hx
     ·rename_i hc;split at hx
      ·rename_i d hs;refine zA7 ?_ (zRO hc (zHF hi hs));rintro d' h' ⟨rfl,rfl⟩;refine⟨rfl,hf',?_⟩;rw[←TF.fr_putO];exact wH h0s hi hq rest _ _ _ e fr' _ hf' hx hk
      ·cases hx
     ·cases hx
    |st=>
     simp only at hx⊢;split at hx
     ·rename_i d hs;refine⟨d,zHF hi hs,hf',?_⟩;rw[←TF.fr_putO];exact wH h0s hi hq rest _ _ _ e fr' h' hf' hx hk
     ·cases hx
    |no=>
     simp only at hx⊢;cases hfl:(fl&& !bk i) with
     |true=>
      rw[hfl] at hx;simp only at hx;have hle:=hf' hfl;cases hc:qK o.op with
      |none=>
       rw[hc] at hx;simp only at hx;split at hx
       ·rename_i hst;split at hx
        ·rename_i d h1 hv;rw[zDA (nid:=h.heap.next) hc hv];have hup:=h.upd_heap h1 (qW o.op (zz fr.fr) h.next) fun j hj=>zJ3 hv hj;have hle1:HLe h0 h1:=by
          rcases Bool.or_eq_true _ _▸hst with hst|hst
          ·obtain⟨r,hr⟩:=zAw (P:=P) (ev:=zz fr.fr) hst;rw[hr] at hv;cases r with
           |none=>cases hv
           |some r=>cases hv;exact hle
          ·simp only[List.all_eq_true,Bool.not_eq_true',List.contains_eq_mem,decide_eq_false_iff_not] at hst;intro i ob e;rw[zJ3 hv fun hj=>hst i hj (h0s i ob e)];exact hle i ob e
         refine⟨fun _=>hle1,?_⟩;rw[←TF.fr_putO,←hup];exact wH h0s hi hq rest _ _ _ e fr' h' (fun _=>by rw[hup];exact hle1) hx hk
        ·cases hx
       ·cases hx
      |some r=>
       obtain⟨f,args⟩:=r;rw[hc] at hx;simp only at hx;split at hx
       ·rename_i d h1 hb;rw[zEN hc];have hle1:HLe h0 h1.heap:=fun i ob e=>(zFm (K:=fun _ _=>True) hi hb trivial).2 i (h0s i ob e) ob (hle i ob e);refine(zFm hi hb ?_).1;refine⟨fun _=>hle1,?_⟩;rw[←TF.fr_putO];exact wH h0s hi hq rest _ _ _ e fr' h' (fun _=>hle1) hx hk
       ·cases hx
     |false=>
      rw[hfl] at hx;simp only at hx;split at hx
      ·rename_i d h1 hx1;refine zIu hi hx1 ⟨fun hft=>(by cases hft),?_⟩;rw[←TF.fr_putO];exact wH h0s hi hq rest _ _ _ e fr' h' (fun hft=>by cases hft) hx hk
      ·cases hx
theorem zIw {mu:Tmp→Bool} {h0:Heap} {bk:Nat→Bool} {ops:Array Oper} {K:Frm→Heap→Prop} :∀ (l:List (Nat×Fl)) (fr:Frm) (h:Heap),zAa P mu h0 (fun _=>false) ops false l K fr h→zAa P mu h0 bk ops false l K fr h
 | [],_,_,hv=>hv
 |(i,st)::rest,fr,h,hv=>by
  simp only[zAa,Bool.false_and] at hv⊢;split
  ·rename_i ho;rw[ho] at hv;exact hv
  ·rename_i o ho;rw[ho] at hv;exact zE1 (fun d h' hx=>⟨hx.1,zIw rest _ _ hx.2⟩) hv
theorem zJ7 {mu:Tmp→Bool} {ops:Array Oper} {l:List (Nat×Fl)} (hi:zIM P inv) {K:Frm→Heap→Prop} {Q:Exit→Frm→Heap→Prop} (hq:Q .normal=K) {fr:TF} {h:HT} {e:Exit} {fr':TF} {h':HT} (hx:zM5 P (inv env) mu ops l fr h=some (e,fr',h')) (hk:Q e fr'.fr h'.heap):
  ∃h0,HLe h0 h.heap∧zDN P mu h0 (zUB P mu ops l (zF5 ops.toList 0 [])) ops (l.any (·.2.isSt)) l K fr.fr h.heap:=by
 have hr:∀S,HLe (zF7 S h.heap) h.heap:=fun S i ob e=>by
  simp only[zF7] at e;split at e
  ·exact e
  ·cases e
 have hs:∀S i ob,(zF7 S h.heap).at' i=some ob→i∈S:=fun S i ob e=>by
  simp only[zF7] at e;split at e
  ·rename_i hc;simpa using hc
  ·cases e
 unfold zM5 at hx;cases hal:alN l with
 |succ m=>rw[hal] at hx;cases hx
 |zero=>
 rw[hal] at hx;simp only[zEE hal];simp only at hx;split at hx
 ·rename_i hany;rw[hany];exact⟨_,hr [],zIw _ _ _ (wH (hs []) hi hq _ _ _ _ _ _ _ (fun e=>by cases e) hx hk)⟩
 ·rename_i hany;rw[hany];exact⟨_,hr _,wH (hs _) hi hq _ _ _ _ _ _ _ (fun _=>hr _) hx hk⟩
theorem zPu {ro:Option Nat} {c:Code} {b:TF→HT→XR} {Q:Exit→Frm→Heap→Prop} (hb:∀fr h e fr' h' Q,b fr h=some (e,fr',h')→Q e fr'.fr h'.heap→vwp P g n ro c Q fr.fr h.heap) {fr:TF} {h:HT} {e:Exit} {fr':TF} {h':HT} {k:Nat} (hx:zbY b k fr h=some (e,fr',h')) (hq:Q e fr'.fr h'.heap):
  vwp P g n ro (.loop c) Q fr.fr h.heap:=by
 simp only[vwp];refine⟨fun k f0 h0=>∃fr h,fr.fr=f0∧h.heap=h0∧zbY b k fr h=some (e,fr',h'),⟨k,fr,h,rfl,rfl,hx⟩,fun k f0 h0 hk=> ?_⟩;obtain⟨fr,h,rfl,rfl,hk⟩:=hk;cases k with
 |zero=>cases hk
 |succ k=>
  simp only[zbY] at hk;split at hk
  ·cases hk
  ·rename_i e1 fr1 h1 hb1;refine hb _ _ _ _ _ _ hb1 ?_;split at hk
   ·exact⟨k,by omega,fr1,h1,rfl,rfl,hk⟩
   ·rename_i hne;cases hk;cases e with
    |normal=>exact absurd rfl hne
    |_=>exact hq
theorem qX (hi:zIM P inv):∀ (co:Code) (ro:Option Nat) (Q:Exit→Frm→Heap→Prop) (fr:TF) (h:HT) (e:Exit) (fr':TF) (h':HT),zCU P inv g n fuel ro env co fr h=some (e,fr',h')→Q e fr'.fr h'.heap→vwp P g n ro co Q fr.fr h.heap
 | .skip,ro,Q,fr,h,e,fr',h',hx,hq=>by cases hx;exact hq
 | .exit id,ro,Q,fr,h,e,fr',h',hx,hq=>by cases hx;exact hq
 | .ret,ro,Q,fr,h,e,fr',h',hx,hq=>by cases hx;exact hq
 | .region id ops draw,ro,Q,fr,h,e,fr',h',hx,hq=>by
  simp only[zCU] at hx;simp only[vwp];split at hx
  ·exact zFB hi rfl _ _ _ _ _ _ hx hq
  ·exact zJ7 hi rfl hx hq
 | .seq a b,ro,Q,fr,h,e,fr',h',hx,hq=>by
  simp only[zCU] at hx;simp only[vwp];split at hx
  ·cases hx
  ·rename_i e1 fr1 h1 hx1;refine qX hi a ro _ _ _ _ _ _ hx1 ?_;split at hx
   ·exact qX hi b ro Q _ _ _ _ _ hx hq
   ·rename_i hne;cases hx;cases e with
    |normal=>exact absurd rfl hne
    |_=>exact hq
 | .cond c a b,ro,Q,fr,h,e,fr',h',hx,hq=>by
  simp only[zCU] at hx;simp only[vwp];split at hx
  ·rename_i hc;rw[hc];split at hx
   ·exact qX hi a ro Q _ _ _ _ _ hx hq
   ·exact qX hi b ro Q _ _ _ _ _ hx hq
  ·cases hx
 | .block id c,ro,Q,fr,h,e,fr',h',hx,hq=>by
  simp only[zCU] at hx;simp only[vwp];split at hx
  ·cases hx
  ·rename_i e1 fr1 h1 hx1;refine qX hi c ro _ _ _ _ _ _ hx1 ?_;split at hx
   ·split at hx
    ·rename_i hid;cases hx;simp only[zEG,if_pos hid];exact hq
    ·rename_i hid;cases hx;simp only[zEG,if_neg hid];exact hq
   ·rename_i hne;cases hx;cases e with
    |exit i=>exact absurd rfl (hne i)
    |_=>exact hq
 | .loop c,ro,Q,fr,h,e,fr',h',hx,hq=>by
  simp only[zCU] at hx;exact zPu (fun fr h e fr' h' Q hx hq=>qX hi c ro Q fr h e fr' h' hx hq) hx hq
 | .rangeFunc f ps as body,ro,Q,fr,h,e,fr',h',hx,hq=>by
  simp only[zCU] at hx;simp only[vwp];split at hx
  ·rename_i hro;refine⟨?_,?_⟩
   ·cases ro with
    |none=>trivial
    |some id=>
     simp only[roB] at hro⊢;split at hro
     ·rename_i r hr;exact⟨r,hr⟩
     ·cases hro
   ·split at hx
    ·rename_i g' first cap hf
     rw[hf];split at hx
     ·cases hx
     ·rename_i d1 h1 hinv;have:=hi _ _ _ _ _ _ hinv;rw[HT.newO_heap] at this;refine zA.mono this fun a b hab=> ?_;obtain⟨_,rfl⟩:=hab;split at hx
      ·rename_i r hr;refine⟨r,hr,?_⟩;split at hx
       ·cases hx
       ·rename_i hst;refine⟨hst,?_⟩;show zLK r.pending Q fr.fr (h1.heap.del h.next);rw[←HT.delO_heap];split at hx
        ·rename_i hp;cases hx;rw[hp];exact hq
        ·rename_i c hp;rw[hp];split at hx
         ·cases hx;exact hq
         ·cases hx;exact hq
         ·cases hx
      ·cases hx
    ·cases hx
  ·cases hx
 | .label _,ro,Q,fr,h,e,fr',h',hx,hq=>by cases hx;exact hq
 | .goto _,_,_,_,_,_,_,_,hx,_=>by cases hx
 | .scope c,ro,Q,fr,h,e,fr',h',hx,hq=>by
  simp only[zCU] at hx;simp only[vwp];split at hx
  ·cases hx
  ·rename_i e1 fr1 h1 hx1;refine qX hi c ro _ _ _ _ _ _ hx1 ?_;split at hx
   ·cases hx
   ·rename_i hne;cases hx;cases e with
    |goto l=>exact absurd rfl (hne l)
    |_=>exact hq
 | .refuse ..,_,_,_,_,_,_,_,hx,_=>by cases hx
theorem zLS (hmix:P.follows .mixedOrders=true) (hi:zIM P inv) {id:Nat} {args:List D} {h h':HT} {d:D} (hx:zRM P inv g fuel env id args h=some (d,h')):qp P id args h.heap fun a b=>a=d∧b=h'.heap:=by
 unfold zRM at hx;split at hx
 ·rename_i st pe fr ps as body n hL;split at hx
  ·rename_i hc;simp only[Bool.and_eq_true,decide_eq_true_eq] at hc;obtain⟨⟨⟨c1,c2⟩,c3⟩,c4⟩:=hc;refine qp.of_round (h:=h.heap) hmix hL c1 c2 c3 c4 ?_;split at hx
   ·rename_i e1 fr1 h1 hx1;rw[←TF.of_fr fr 8,←TF.fr_puts];refine qX hi as (some id) _ _ _ _ _ _ hx1 ?_;split at hx
    ·split at hx
     ·rename_i L1 hL1;split at hx
      ·rename_i hst;refine⟨L1,hL1,hst,?_⟩;rw[←HT.setO_heap];split at hx
       ·rename_i e fr2 h2 hx2;refine qX hi body (some id) _ _ _ _ _ _ hx2 ?_;split at hx
        ·rename_i L2 hL2;refine⟨L2,hL2,?_⟩;unfold zJw;split at hx
         ·cases hx;exact⟨rfl,by rw[HT.setO_heap]⟩
         ·cases hx;exact⟨rfl,by rw[HT.setO_heap]⟩
         ·cases hx;exact⟨rfl,by rw[HT.setO_heap]⟩
         ·cases hx
        ·cases hx
       ·cases hx
      ·cases hx
     ·cases hx
    ·cases hx
   ·cases hx
  ·cases hx
 ·cases hx
theorem zPv (hmix:P.follows .mixedOrders=true) (hi:zIM P inv) {f:FuncId} {fn:Func} (hf:P.funcs[f]? =some fn) (hok:zj P g fn=true) {args:List D} {h h':HT} {d:D} (hx:zfI P inv g fuel env fn args h=some (d,h')):zA P f args h.heap fun a b=>a=d∧b=h'.heap:=by
 unfold zfI at hx;unfold zj at hok;split at hx
 ·cases hx
 ·rename_i co hb;rw[hb] at hok;simp only[Bool.and_eq_true,Bool.not_eq_true'] at hok;split at hx
  ·rename_i hc;simp only[decide_eq_true_eq] at hc;refine zA.of_body hmix hf hb hok.2 hok.1 hc ?_;split at hx
   ·rename_i e fr' h1 hx1;rw[←TF.of_fr (zJx args) 8];refine qX hi co none _ _ _ _ _ _ hx1 ?_;unfold zWT;split at hx
    ·refine⟨trivial,?_⟩;cases hr:zA9 P fr'.fr h1.heap fn.results.toList with
     |none=>rw[hr] at hx;cases hx
     |some ds=>rw[hr] at hx;cases hx;exact⟨rfl,rfl⟩
    ·refine⟨trivial,?_⟩;cases hr:zA9 P fr'.fr h1.heap fn.results.toList with
     |none=>rw[hr] at hx;cases hx
     |some ds=>rw[hr] at hx;cases hx;exact⟨rfl,rfl⟩
    ·cases hx
   ·cases hx
  ·cases hx
end
theorem zFC {P:Program} (hmix:P.follows .mixedOrders=true) {tab:List (Nat× (Func×Cfg))} (htab:zFA P tab) {sett:FuncId→Bool} {ext:FuncId→List D→(Nat→Option Obj)→zRN}
  (hext:∀g args (h:Heap) r,ext g args h.at'=some r→zA P g args h fun a b=>a=r.1∧b=zba r.2 h) {fuel:Nat} :∀k,zIM P (zCV P tab sett ext fuel k)
 |0=>fun env f args h d h' hx=>by cases hx
 |k+1=>fun env f args h d h' hx=>by
  simp only[zCV] at hx;split at hx
  ·rename_i g first cap
   simp only[zIJ];split at hx
   ·rename_i d0 he;cases hx;rw[HT.updO_heap];exact zA.stripA (hext _ _ h.heap _ he)
   ·split at hx
    ·rename_i x hf;obtain⟨g1,g2⟩:=zLQ htab _ _ hf;exact zA.stripA<|zA.settleR hx fun d h' hx=>zPv hmix (zFC hmix htab hext k) g1 g2 hx
    ·cases hx
  ·rename_i id;simp only[zIJ];split at hx
   ·exact zLS hmix (zFC hmix htab hext k) hx
   ·cases hx
  ·cases hx
theorem zA.of_run {P:Program} (hmix:P.follows .mixedOrders=true) {tab:List (Nat× (Func×Cfg))} (htab:zFA P tab) {sett:FuncId→Bool} {ext:FuncId→List D→(Nat→Option Obj)→zRN}
  (hext:∀g args (h:Heap) r,ext g args h.at'=some r→zA P g args h fun a b=>a=r.1∧b=zba r.2 h) {fuel k:Nat} {f:FuncId} {args:List D} {d:D} (hb:zAK args=true) (hd:zDQ d=true)
  (hx:(zCV P tab sett ext fuel k [] (.fn (.func f) [] []) args HT.emp).map (fun r=>yI r.1 r.2.heap)=some d) (h:Heap):zA P f args h fun a b=>b=h∧a=d:=by
 cases hr:zCV P tab sett ext fuel k [] (.fn (.func f) [] []) args HT.emp with
 |none=>rw[hr] at hx;cases hx
 |some r=>
  obtain⟨d',h'⟩:=r;rw[hr] at hx;have hd':yI d' h'.heap=d:=by simpa using hx
  have:=zFC hmix htab hext k _ _ _ _ _ _ hr;simp only[zIJ,List.nil_append,List.append_nil] at this;rw[HT.emp_heap] at this;exact zA.frame (Q:=fun a=>a=d) (y7 _ hb) ((zA.settled_of this).mono fun a b hab=>by rw[hab,hd'];exact⟨zAL _ hd,rfl⟩) h
def zG (m:List Nat) (d:List (Nat×List (Nat×Fl))):Cfg:=⟨fun t=>List.contains (α:=Nat) m t,fun i=>(zJ5 (α:=List (Nat×Fl)) d i).getD []⟩
def nr (a:Nat):Nat→List (Nat×Fl)
 |0=>[]
 |n+1=>(a, .no)::nr (a+1) n
end Go.V
end
