/- A machine of abstract values for programs of the model, and its soundness, part 4. No condition. -/
import Derived.Test.YtalepjdbhjinhaaGreatDoorW03
set_option linter.all false
noncomputable section
namespace Go.V
open Go.RowKit (Below)
def Heap.emp:Heap:=⟨0,fun _=>none⟩
theorem zHm {M M':Imm} {ρ:Ren} {w w':World} {l:Loc} (hM:MLe M M') (hb:w'.heap[l.blk]? =w.heap[l.blk]?) (hn:∀o,M l.blk o=none→M' l.blk o=none):∀ {ob:Obj},yq M ρ w l ob→yq M' ρ w' l ob:=fun {_} h=>
 qg hM (RLe.refl _) hn (qL hb h)
def Heap.plus (h:Heap) (h2:Nat→Option Obj):Heap:=⟨h.next,fun i=>(h.at' i).or (h2 i)⟩
theorem zAi {h:Heap} {h2:Nat→Option Obj} {i:Nat} {ob:Obj} (hi:h.at' i=some ob):(h.plus h2).at' i=some ob:=by simp[Heap.plus,hi]
theorem zEM {h:Heap} {h2:Nat→Option Obj} {i:Nat} {ob:Obj} (hi:(h.plus h2).at' i=some ob):h.at' i=some ob∨(h.at' i=none∧h2 i=some ob):=by
 simp only[Heap.plus] at hi;cases hh:h.at' i with
 |some o=>rw[hh] at hi;left;simpa using hi
 |none=>rw[hh] at hi;right;exact⟨rfl,by simpa using hi⟩
theorem zDW {M:Imm} {ρ:Ren} {w:World} {l:Loc} {ob:Obj} (h:yq M ρ w l ob) (d:Option (List Deferred)):w.heap[l.blk]? ≠some (.deferred d):=fun e=>by
 cases ob with
 |row _=>obtain⟨_,_,_,g,_⟩:=h;rw[e] at g;cases g
 |tok=>obtain⟨_,_,_,_,g,_⟩:=h;rw[e] at g;cases g
 |map _=>obtain⟨_,_,g,_⟩:=h;rw[e] at g;cases g
 |loop _=>obtain⟨_,g,_⟩:=h;rw[e] at g;cases g
 |siter _ _=>obtain⟨_,g,_⟩:=h;rw[e] at g;cases g
 |trow _ _ _=>obtain⟨_,_,_,g,_⟩:=h;rw[e] at g;cases g
theorem zA.plus {P : Program} {f : FuncId} {args : List D} {h1 : Heap} {Q : D → Heap → Prop} (h2 : Nat → Option Obj) (hd : ∀ i ob, h2 i = some ob → h1.at' i = none) (hv : zA P f args h1 Q) :
    zA P f args (h1.plus h2) fun d h' => ∃ h1', Q d h1' ∧ h' = h1'.plus h2 ∧ ∀ i ob, h2 i = some ob → h1'.at' i = none := by
  refine ⟨hv.1, fun w0 G M ρ w va hg0 hs hfr hr => ?_⟩;have own : ∀ i ob, h2 i = some ob → (h1.plus h2).at' i = some ob := fun i ob e => by simp [Heap.plus, hd i ob e, e]
  let K : Nat → Prop := fun b => b < w.heap.size ∧ ∀ i ob l, h1.at' i = some ob → ρ i = some l → l.blk ≠ b
  have hs' : Sim ⟨w, M, K, fun b hb => hb.1⟩ [] M ρ h1 w :=
    { below := ⟨rfl, rfl, rfl, Nat.le_refl _, fun _ _ => rfl, Nat.le_refl _⟩, imm := hs.imm,
      live := fun i ob e => by
        obtain ⟨l, g1, g2, g3⟩ := hs.live i ob (zAi e);exact ⟨l, g1, fun hk => hk.2 i ob l e g1 rfl, g3⟩
      apart := fun i j oi oj li lj ei ej => hs.apart i j oi oj li lj (zAi ei) (zAi ej)
      gdef := fun b hb => (by cases hb), old := fun b o v _ e => e }
  have hgB : zLb P ⟨w, M, K, fun b hb => hb.1⟩ := hg0.base hs.below fun b hb => ⟨Nat.lt_of_lt_of_le (w0.kept b hb) hs.below.size, fun i ob l e g hbl => by
    obtain ⟨l', g1, g2, _⟩ := hs.live i ob (zAi e);rw [g] at g1; cases g1;exact g2 (hbl ▸ hb)⟩
  refine (hv.2 ⟨w, M, K, fun b hb => hb.1⟩ [] M ρ w va hgB hs' hfr hr).mono fun e w' hq => ?_;obtain ⟨v, M', ρ', d, h1', rfl, k1, k2, k3, k4, k5, k6⟩ := hq;have hK : ∀ b, K b → w'.heap[b]? = w.heap[b]? := fun b hb => k3.below.block b hb;have other : ∀ i ob, h2 i = some ob → ∃ l, ρ i = some l ∧ ¬ w0.keep l.blk ∧ yq M ρ w l ob ∧ K l.blk := fun i ob e => by
    obtain ⟨l, g1, g2, g3⟩ := hs.live i ob (own i ob e);refine ⟨l, g1, g2, g3, zAa g3, fun j oj lj ej rj hb => ?_⟩;have := hs.apart j i oj ob lj l (zAi ej) (own i ob e) rj g1 hb;subst this;rw [hd _ _ e] at ej; cases ej
  have dis : ∀ i ob, h2 i = some ob → h1'.at' i = none := fun i ob e => by
    obtain ⟨l, g1, _, _, g4⟩ := other i ob e;cases hh : h1'.at' i with
    | none => rfl
    | some oi =>
      obtain ⟨l', q1, q2, _⟩ := k3.live i oi hh;rw [k2 _ _ g1] at q1; cases q1;exact absurd g4 q2
  have w0K : ∀ b, w0.keep b → K b := fun b hb => ⟨Nat.lt_of_lt_of_le (w0.kept b hb) hs.below.size, fun i ob l e g hbl => by
    obtain ⟨l', g1, g2, _⟩ := hs.live i ob (zAi e);rw [g] at g1; cases g1;exact g2 (hbl ▸ hb)⟩
  refine ⟨v, M', ρ', d, h1'.plus h2, rfl, k1, k2, ?_, k4, k5, h1', k6, rfl, dis⟩;have objK : ∀ l ob, K l.blk → yq M ρ w l ob → yq M' ρ' w' l ob := fun l ob hk ho =>
    qg k1 k2 (fun o hz => by
      cases e : M' l.blk o with
      | none => rfl
      | some x => have : M l.blk o = some x := k3.old _ _ _ hk e
                  rw [this] at hz; cases hz) (qL (hK _ hk) ho)
  refine { below := ⟨k3.below.os.trans hs.below.os, k3.below.tape.trans hs.below.tape, k3.below.output.trans hs.below.output, Nat.le_trans hs.below.size k3.below.size, fun b hb => ?_, Nat.le_trans hs.below.drawn k3.below.drawn⟩, imm := k3.imm, live := fun i ob hi => ?_, apart := fun i j oi oj li lj ei ej ri rj hij => ?_, gdef := fun b hb => ?_, old := fun b o x hb e => ?_ }
  · rw [hK b (w0K b hb)]; exact hs.below.block b hb
  · rcases zEM hi with hi | ⟨_, hi⟩
    · obtain ⟨l, q1, q2, q3⟩ := k3.live i ob hi
      exact ⟨l, q1, fun hb => q2 (w0K _ hb), q3⟩
    · obtain ⟨l, g1, g2, g3, g4⟩ := other i ob hi
      exact ⟨l, k2 _ _ g1, g2, objK l ob g4 g3⟩
  · rcases zEM ei with ei | ⟨_, ei⟩ <;> rcases zEM ej with ej | ⟨_, ej⟩
    · exact k3.apart i j oi oj li lj ei ej ri rj hij
    · obtain ⟨l, g1, _, _, g4⟩ := other j oj ej
      rw [k2 _ _ g1] at rj; cases rj;obtain ⟨l', q1, q2, _⟩ := k3.live i oi ei;rw [ri] at q1; cases q1;rw [hij] at q2; exact absurd g4 q2
    · obtain ⟨l, g1, _, _, g4⟩ := other i oi ei
      rw [k2 _ _ g1] at ri; cases ri;obtain ⟨l', q1, q2, _⟩ := k3.live j oj ej;rw [rj] at q1; cases q1;rw [← hij] at q2; exact absurd g4 q2
    · obtain ⟨l, g1, _⟩ := other i oi ei
      obtain ⟨l', g1', _⟩ := other j oj ej;rw [k2 _ _ g1] at ri; cases ri;rw [k2 _ _ g1'] at rj; cases rj;exact hs.apart i j oi oj li lj (own _ _ ei) (own _ _ ej) g1 g1' hij
  · obtain ⟨g1, g2⟩ := hs.gdef b hb
    refine ⟨g1, ?_⟩;rw [hK b ⟨hs.gdef_lt hb, fun i ob l e g hbl => ?_⟩]
    · exact g2
    · obtain ⟨l', q1, _, q3⟩ := hs.live i ob (zAi e)
      rw [g] at q1; cases q1;exact zDW q3 _ (by rw [hbl]; exact g2)
  · exact hs.old b o x hb (k3.old b o x (w0K b hb) e)
theorem zA.frame {P : Program} {f : FuncId} {args : List D} {Q : D → Prop} (hb : zz 0 args) (hv : zA P f args Heap.emp fun d _ => below 0 d ∧ Q d) (h : Heap) : zA P f args h fun d h' => h' = h ∧ Q d := by
  refine ⟨hv.1, fun w0 G M ρ w va hg0 hs hfr hr => ?_⟩
  let B : Base := ⟨w, M, fun b => b < w.heap.size, fun _ hb => hb⟩
  have hs' : Sim B [] M (fun _ => none) Heap.emp w :=
    { below := ⟨rfl, rfl, rfl, Nat.le_refl _, fun _ _ => rfl, Nat.le_refl _⟩, imm := hs.imm, live := fun i ob e => (by cases e), apart := fun i j oi oj li lj e => (by cases e), gdef := fun b hb => (by cases hb), old := fun b o v _ e => e }
  have hr' : zl M (fun _ => none) args va.toList := zAh 0 M ρ args _ hb hr;have hgB : zLb P B := hg0.base hs.below fun b hb => Nat.lt_of_lt_of_le (w0.kept b hb) hs.below.size;refine (hv.2 B [] M _ w va hgB hs' (fun _ _ => rfl) hr').mono fun e w' hq => ?_;obtain ⟨v, M', ρ', d, h', rfl, k1, k2, k3, k4, k5, k6, k7⟩ := hq;have hblk : ∀ b, b < w.heap.size → w'.heap[b]? = w.heap[b]? := fun b hb => k3.below.block b hb;have w0K : ∀ b, w0.keep b → b < w.heap.size := fun b hb => Nat.lt_of_lt_of_le (w0.kept b hb) hs.below.size
  refine ⟨v, M', ρ, d, h, rfl, k1, RLe.refl _, ?_, hfr, yo (MLe.refl _) (fun i l e => by cases e) _ _ (wA 0 M' ρ' d v k6 k5), rfl, k7⟩;refine { below := ⟨k3.below.os.trans hs.below.os, k3.below.tape.trans hs.below.tape, k3.below.output.trans hs.below.output, Nat.le_trans hs.below.size k3.below.size, fun b hb => by rw [hblk b (w0K b hb)]; exact hs.below.block b hb, Nat.le_trans hs.below.drawn k3.below.drawn⟩, imm := k3.imm, live := fun i ob hi => ?_, apart := hs.apart, gdef := fun b hb => ?_, old := fun b o v hb e => ?_ }
  · obtain ⟨l, g1, g2, g3⟩ := hs.live i ob hi
    have hlt := zAa g3;refine ⟨l, g1, g2, zHm k1 (hblk _ hlt) (fun o ho => ?_) g3⟩;cases e : M' l.blk o with
    | none => rfl
    | some x => have hk : M l.blk o = some x := k3.old _ _ _ hlt e
                rw [hk] at ho; cases ho
  · obtain ⟨g1, g2⟩ := hs.gdef b hb
    exact ⟨g1, by rw [hblk b (hs.gdef_lt hb)]; exact g2⟩
  · exact hs.old b o v hb (k3.old b o v (w0K b hb) e)
theorem zA.frameAt {P : Program} {f : FuncId} {args : List D} {Q : D → Prop} {h1 : Heap} (hb : zz h1.next args) (hlt : ∀ i ob, h1.at' i = some ob → i < h1.next) (hc : ∀ i ob, h1.at' i = some ob → ∃ cs, ob = .row cs ∧ zz 0 cs)
    (hv : zA P f args h1 fun d h' => HLe h1 h' ∧ below 0 d ∧ Q d) (h : Heap) (hle : HLe h1 h) : zA P f args h fun d h' => h' = h ∧ Q d := by
  refine ⟨hv.1, fun w0 G M ρ w va hg0 hs hfr hr => ?_⟩;have closed : ∀ {M : Imm} {ρ ρ' : Ren} {w : World} {l : Loc} {ob : Obj} {i : Nat}, h1.at' i = some ob → yq M ρ w l ob → yq M ρ' w l ob := fun {M ρ ρ' w l ob i} e ho => by
    obtain ⟨cs, rfl, hcs⟩ := hc i ob e;obtain ⟨a, c, t, g1, g2, g3, g4⟩ := ho;refine ⟨a, c, t, g1, g2, g3, fun j d hj => ?_⟩;obtain ⟨q1, v, q2, q3⟩ := g4 j d hj;refine ⟨q1, v, q2, yo (MLe.refl _) (fun i l e => by cases e) _ _ (wA 0 M ρ d v ?_ q3)⟩
    have : ∀ (ds : List D) (j : Nat), zz 0 ds → ds[j]? = some d → below 0 d := fun ds => by
      induction ds with
      | nil => intro j _ h; simp at h
      | cons x xs ih =>
        intro j hx hj;cases j with
        | zero => simp at hj; subst hj; exact hx.1
        | succ j => exact ih j hx.2 (by simpa using hj)
    exact this cs j hcs hj
  let K : Nat → Prop := fun b => b < w.heap.size ∧ ∀ i ob l, h1.at' i = some ob → ρ i = some l → l.blk ≠ b
  let B : Base := ⟨w, M, K, fun b hb => hb.1⟩
  have hs' : Sim B [] M (zSH h1.next ρ) h1 w :=
    { below := ⟨rfl, rfl, rfl, Nat.le_refl _, fun _ _ => rfl, Nat.le_refl _⟩, imm := hs.imm,
      live := fun i ob e => by
        obtain ⟨l, g1, g2, g3⟩ := hs.live i ob (hle i ob e);exact ⟨l, by rw [wi (hlt i ob e)]; exact g1, fun hk => hk.2 i ob l e g1 rfl, closed e g3⟩
      apart := fun i j oi oj li lj ei ej ri rj => hs.apart i j oi oj li lj (hle _ _ ei) (hle _ _ ej) (by rw [wi (hlt i oi ei)] at ri; exact ri) (by rw [wi (hlt j oj ej)] at rj; exact rj)
      gdef := fun b hb => (by cases hb), old := fun b o v _ e => e }
  have hgB : zLb P B := hg0.base hs.below fun b hb => ⟨Nat.lt_of_lt_of_le (w0.kept b hb) hs.below.size, fun i ob l e g hbl => by
    obtain ⟨l', g1, g2, _⟩ := hs.live i ob (hle _ _ e);rw [g] at g1; cases g1;exact g2 (hbl ▸ hb)⟩
  refine (hv.2 B [] M _ w va hgB hs' (fun i hi => if_neg (by omega)) (zAh _ M ρ args _ hb hr)).mono fun e w' hq => ?_;obtain ⟨v, M', ρ', d, h', rfl, k1, k2, k3, k4, k5, k6, k7, k8⟩ := hq;have hblk : ∀ b, K b → w'.heap[b]? = w.heap[b]? := fun b hb => k3.below.block b hb;have w0K : ∀ b, w0.keep b → K b := fun b hb => ⟨Nat.lt_of_lt_of_le (w0.kept b hb) hs.below.size, fun i ob l e g hbl => by
    obtain ⟨l', g1, g2, _⟩ := hs.live i ob (hle _ _ e);rw [g] at g1; cases g1;exact g2 (hbl ▸ hb)⟩
  refine ⟨v, M', ρ, d, h, rfl, k1, RLe.refl _, ?_, hfr, yo (MLe.refl _) (fun i l e => by cases e) _ _ (wA 0 M' ρ' d v k7 k5), rfl, k8⟩;refine { below := ⟨k3.below.os.trans hs.below.os, k3.below.tape.trans hs.below.tape, k3.below.output.trans hs.below.output, Nat.le_trans hs.below.size k3.below.size, fun b hb => by rw [hblk b (w0K b hb)]; exact hs.below.block b hb, Nat.le_trans hs.below.drawn k3.below.drawn⟩, imm := k3.imm, live := fun i ob hi => ?_, apart := hs.apart, gdef := fun b hb => ?_, old := fun b o v hb e => ?_ }
  · obtain ⟨l, g1, g2, g3⟩ := hs.live i ob hi
    cases hh : h1.at' i with
    | some ob1 =>
      have he := hle i ob1 hh;rw [hi] at he; cases he;obtain ⟨l', q1, _, q3⟩ := k3.live i ob (k6 i ob hh);rw [k2 i l (by rw [wi (hlt i ob hh)]; exact g1)] at q1; cases q1;exact ⟨l, g1, g2, closed hh q3⟩
    | none =>
      have hK : K l.blk := ⟨zAa g3, fun j oj lj ej rj hb => by
        have := hs.apart j i oj ob lj l (hle _ _ ej) hi rj g1 hb;subst this;rw [hh] at ej; cases ej⟩
      refine ⟨l, g1, g2, zHm k1 (hblk _ hK) (fun o ho => ?_) g3⟩;cases e : M' l.blk o with
      | none => rfl
      | some x => have hk : M l.blk o = some x := k3.old _ _ _ hK e
                  rw [hk] at ho; cases ho
  · obtain ⟨g1, g2⟩ := hs.gdef b hb
    refine ⟨g1, ?_⟩;rw [hblk b ⟨hs.gdef_lt hb, fun i ob l e g hbl => ?_⟩]
    · exact g2
    · obtain ⟨l', q1, _, q3⟩ := hs.live i ob (hle _ _ e)
      rw [g] at q1; cases q1;exact zDW q3 _ (by rw [hbl]; exact g2)
  · exact hs.old b o v hb (k3.old b o v (w0K b hb) e)
mutual
def frz (id:Nat) (cs:List D):D→D
 | .bool b=> .bool b
 | .int k n=> .int k n
 | .str s=> .str s
 | .nilptr=> .nilptr
 | .ptr i off=>if i=id then .iptr cs off else .ptr i off
 | .iptr es off=> .iptr (zF6 id cs es) off
 | .nilsl=> .nilsl
 | .sl sz xs tk=> .sl sz (zVe id cs xs) tk
 | .rs i sz off len=>if i=id∧off+len*sz≤cs.length then .sl sz (yG sz len ((cs.drop off).take (len*sz))) .no else .rs i sz off len
 | .nilmap=> .nilmap
 | .map i=> .map i
 | .fn f a c=> .fn f (zF6 id cs a) (zF6 id cs c)
 | .yld i=> .yld i
 | .nilfn=> .nilfn
 | .agg es=> .agg (zF6 id cs es)
 | .tuple es=> .tuple (zF6 id cs es)
 | .iface t d=> .iface t (frz id cs d)
 | .niliface=> .niliface
def zF6 (id:Nat) (cs:List D):List D→List D
 | []=>[]
 |d::ds=>frz id cs d::zF6 id cs ds
def zVe (id:Nat) (cs:List D):List (List D)→List (List D)
 | []=>[]
 |x::xs=>zF6 id cs x::zVe id cs xs
end
def zPa (id:Nat) (cs:List D):List (D×D)→List (D×D)
 | []=>[]
 |(k,v)::es=>(frz id cs k,frz id cs v)::zPa id cs es
def zfL (id:Nat) (cs:List D):Obj→Obj
 | .row es=> .row (zF6 id cs es)
 | .tok=> .tok
 | .map es=> .map (zPa id cs es)
 | .loop r=> .loop { r with fr:=fun i=>frz id cs (r.fr i) }
 | .siter s p=> .siter s p
 | .trow t full es=> .trow t full (zF6 id cs es)
def Heap.frz (h:Heap) (id:Nat) (cs:List D):Heap:= { next:=h.next,at':=fun i=>if i=id then none else(h.at' i).map (zfL id cs) }
theorem zFV (id:Nat) (cs:List D) (d:D):(frz id cs d).flat=d.flat:=by
 cases d<;>simp only[frz]<;>(try split)<;>rfl
theorem zAj (id:Nat) (cs:List D):∀ds:List D,(zF6 id cs ds).length=ds.length
 | []=>rfl
 |_::ds=>by simp[zF6,zAj id cs ds]
theorem zF7 (id:Nat) (cs:List D):∀ds:List (List D),(zVe id cs ds).length=ds.length
 | []=>rfl
 |_::ds=>by simp[zVe,zF7 id cs ds]
theorem zIj (id:Nat) (cs:List D):∀ (ds:List D) (i:Nat),(zF6 id cs ds)[i]? =(ds[i]?).map (frz id cs)
 | [],_=>by simp[zF6]
 |d::ds,0=>by simp[zF6]
 |d::ds,i+1=>by simpa [zF6] using zIj id cs ds i
theorem zJ5 (id:Nat) (cs:List D):∀ds:List D,(zF6 id cs ds).all D.flat=ds.all D.flat
 | []=>rfl
 |d::ds=>by simp only[zF6,List.all_cons,zFV,zJ5 id cs ds]
section
variable {M M':Imm} {ρ:Ren} {id:Nat} {cs:List D} {l:Loc}
mutual
theorem zAy (hM:MLe M M') (hl:ρ id=some l) (hc:zAt M' ρ cs l.blk 0):∀ (d:D) (v:Value),rel M ρ d v→rel M' ρ (frz id cs d) v
 | .bool _,_,h=>by simpa [rel,frz] using h
 | .int _ _,_,h=>by simpa [rel,frz] using h
 | .str _,_,h=>by simpa [rel,frz] using h
 | .nilptr,_,h=>by simpa [rel,frz] using h
 | .ptr i off,v,h=>by
  simp only[frz];split
  ·rename_i hi;subst hi;simp only[rel] at h⊢;obtain⟨l',h1,h2⟩:=h;rw[hl] at h1;cases h1;exact⟨_,0,by rw[Nat.zero_add];exact h2,hc⟩
  ·exact yo hM (RLe.refl _) _ _ h
 | .iptr es off,_,h=>by
  simp only[rel,frz] at h⊢;obtain⟨b,p,h1,h2⟩:=h;exact⟨b,p,h1,zIk hM hl hc es b p h2⟩
 | .nilsl,_,h=>by simpa [rel,frz] using h
 | .sl sz xs tk,_,h=>by
  simp only[rel,frz,zF7] at h⊢;obtain⟨h0,hlim,b,p,cap,h1,h2,h3,h4⟩:=h;exact⟨h0,hlim,b,p,cap,h1,h2,zMk hM hl hc sz xs b p h3,h4⟩
 | .rs i sz off len,v,h=>by
  simp only[frz];split
  ·rename_i hi;obtain⟨rfl,hle⟩:=hi;simp only[rel] at h⊢;obtain⟨h0,hlim,l',cap,o,h1,h2,h3,h4,h5⟩:=h;rw[hl] at h1;cases h1;have hlen:((cs.drop off).take (len*sz)).length=len*sz:=by simp;omega
   rw[yv];refine⟨h0,hlim,l.blk,o,cap,⟨none,h2, .inl rfl⟩,h3.1,?_,trivial⟩;rcases h5 with h5|h5
   ·have:len=0:=by omega
    subst this;simp[yG,zBV]
   ·subst h5;refine zB3 _ hlen (yO fun i d hd=> ?_);rw[List.getElem?_take] at hd;split at hd
    ·rw[List.getElem?_drop] at hd;obtain⟨g1,v,g2,g3⟩:=zAO hc _ d hd;exact⟨g1,v,by rw[←g2,Nat.zero_add],g3⟩
    ·cases hd
  ·exact yo hM (RLe.refl _) _ _ h
 | .nilmap,_,h=>by simpa [rel,frz] using h
 | .map _,_,h=>by simpa [rel,frz] using h
 | .fn f a c,_,h=>by
  simp only[rel,frz] at h⊢;obtain⟨h0,va,vc,h1,h2,h3⟩:=h;exact⟨h0,va,vc,h1,zDX hM hl hc a _ h2,zDX hM hl hc c _ h3⟩
 | .yld _,_,h=>by simpa [rel,frz] using h
 | .nilfn,_,h=>by simpa [rel,frz] using h
 | .agg es,_,h=>by
  simp only[rel,frz] at h⊢;obtain⟨vs,h1,h2,h3⟩:=h;exact⟨vs,h1,zDX hM hl hc es _ h2,by rw[zJ5];exact h3⟩
 | .tuple es,_,h=>by
  simp only[rel,frz] at h⊢;obtain⟨vs,h1,h2⟩:=h;exact⟨vs,h1,zDX hM hl hc es _ h2⟩
 | .iface t d,_,h=>by
  simp only[rel,frz] at h⊢;obtain⟨u,h1,h2⟩:=h;exact⟨u,h1,zAy hM hl hc d u h2⟩
 | .niliface,_,h=>by simpa [rel,frz] using h
theorem zDX (hM:MLe M M') (hl:ρ id=some l) (hc:zAt M' ρ cs l.blk 0):∀ (ds:List D) (vs:List Value),zl M ρ ds vs→zl M' ρ (zF6 id cs ds) vs
 | [],_,h=>by simpa [zl,zF6] using h
 |d::ds,_,h=>by
  simp only[zl,zF6] at h⊢;obtain⟨v,vs',h1,h2,h3⟩:=h;exact⟨v,vs',h1,zAy hM hl hc d v h2,zDX hM hl hc ds vs' h3⟩
theorem zIk (hM:MLe M M') (hl:ρ id=some l) (hc:zAt M' ρ cs l.blk 0):∀ (ds:List D) (b p:Nat),zAt M ρ ds b p→zAt M' ρ (zF6 id cs ds) b p
 | [],_,_,_=>by simp[zAt,zF6]
 |d::ds,b,p,h=>by
  simp only[zAt,zF6] at h⊢;obtain⟨⟨h0,v,h1,h2⟩,h3⟩:=h;exact⟨⟨by rw[zFV];exact h0,v,hM _ _ _ h1,zAy hM hl hc d v h2⟩,zIk hM hl hc ds b (p+1) h3⟩
theorem zMk (hM:MLe M M') (hl:ρ id=some l) (hc:zAt M' ρ cs l.blk 0):∀ (sz:Nat) (xs:List (List D)) (b p:Nat),zBV M ρ sz xs b p→zBV M' ρ sz (zVe id cs xs) b p
 |_,[],_,_,_=>by simp[zBV,zVe]
 |sz,x::xs,b,p,h=>by
  simp only[zBV,zVe] at h⊢;exact⟨by rw[zAj];exact h.1,zIk hM hl hc x b p h.2.1,zMk hM hl hc sz xs b (p+sz) h.2.2⟩
end
theorem zJ6 (hM:MLe M M') (hl:ρ id=some l) (hc:zAt M' ρ cs l.blk 0):∀ (ds:List (D×D)) (es:List MapEntry),y7 M ρ ds es→y7 M' ρ (zPa id cs ds) es
 | [],_,h=>by simpa [y7,zPa] using h
 |(k,d)::ds,_,h=>by
  simp only[y7,zPa] at h⊢;obtain⟨e,es',h1,h2,h3,h4⟩:=h;exact⟨e,es',h1,zAy hM hl hc _ _ h2,zAy hM hl hc _ _ h3,zJ6 hM hl hc ds es' h4⟩
theorem zOH {w:World} {l':Loc} (hM:MLe M M') (hl:ρ id=some l) (hc:zAt M' ρ cs l.blk 0) (hn:∀o,M l'.blk o=none→M' l'.blk o=none):∀ (ob:Obj),yq M ρ w l' ob→yq M' ρ w l' (zfL id cs ob)
 | .row es,h=>by
  obtain⟨a,c,e,h1,h2,h3,h4⟩:=h;refine⟨fun o=>hn o (a o),c,e,h1,h2,by rw[zAj];exact h3,fun i d hi=> ?_⟩;rw[zIj] at hi;cases hd:es[i]? with
  |none=>rw[hd] at hi;cases hi
  |some d0=>
   rw[hd] at hi;cases hi;obtain⟨h5,v,x,y⟩:=h4 i d0 hd;exact⟨by rw[zFV];exact h5,v,x,zAy hM hl hc _ _ y⟩
 | .tok,h=>by
  obtain⟨a,b,c,e,h1,h2⟩:=h;exact⟨fun o ho=>hn o (a o ho),b,c,e,h1,h2⟩
 | .map es,h=>by
  obtain⟨en,cl,h1,h2⟩:=h;exact⟨en,cl,h1,zJ6 hM hl hc _ _ h2⟩
 | .loop r,h=>by
  obtain⟨L,h1,h2,h3,h4,h5,h6,h7,h8⟩:=h;exact⟨L,h1,h2,h3,h4,h5,h6,h7,fun i=>zAy hM hl hc _ _ (h8 i)⟩
 | .siter _ _,h=>h
 | .trow t full es,h=>by
  obtain⟨a,c,e,h1,h2,h3,h4,g1,g2⟩:=h;refine⟨fun o=>hn o (a o),c,e,h1,h2,by rw[zAj];exact h3,fun i d hi=> ?_,g1,by rw[zAj];exact g2⟩;rw[zIj] at hi;cases hd:es[i]? with
  |none=>rw[hd] at hi;cases hi
  |some d0=>
   rw[hd] at hi;cases hi;obtain⟨h5,v,x,y⟩:=h4 i d0 hd;exact⟨by rw[zFV];exact h5,v,x,zAy hM hl hc _ _ y⟩
end
theorem zA.freeze {P:Program} {f:FuncId} {args:List D} {h:Heap} {Q:D→Heap→Prop} (hv:zA P f args h fun d h'=>∃id cs,h'.at' id=some (.row cs)∧Q (frz id cs d) (h'.frz id cs)):zA P f args h Q:=by
 refine⟨hv.1,fun w0 G M ρ w va hg0 hs hfr hr=> ?_⟩;refine(hv.2 w0 G M ρ w va hg0 hs hfr hr).mono fun e w' hq=> ?_;obtain⟨v,M',ρ',d,h',rfl,k1,k2,k3,k4,k5,id,cs,k6,k7⟩:=hq;obtain⟨l,g1,g2,hm,c,ty,g3,g4,g5,g6⟩:=k3.live id _ k6;have hle:MLe M' (zA7 M' l.blk 0 (c.toList.take cs.length)):=zBY fun o _=>hm o;have hc:zAt (zA7 M' l.blk 0 (c.toList.take cs.length)) ρ' cs l.blk 0:=yO fun i d hi=>by
  obtain⟨q1,u,q2,q3⟩:=g6 i d hi;have hlt:=(List.getElem?_eq_some_iff.1 hi).1;refine⟨q1,u,?_,yo hle (RLe.refl _) _ _ q3⟩;unfold zA7;rw[if_pos ⟨rfl,by omega,by simp;omega⟩];simp only[Nat.zero_add,Nat.sub_zero,List.getElem?_take,if_pos hlt];simpa using q2
 refine⟨v,zA7 M' l.blk 0 (c.toList.take cs.length),ρ',frz id cs d,h'.frz id cs,rfl,k1.trans hle,k2,?_,k4,zAy hle g1 hc _ _ k5,k7⟩;refine { below:=k3.below,imm:=fun b o u e=> ?_,live:=fun i ob e=> ?_,apart:=fun i j oi oj li lj ei ej ri rj hij=> ?_,gdef:=k3.gdef,old:=zFp k3.old g2 }
 ·unfold zA7 at e;split at e
  ·rename_i hcc;obtain⟨rfl,_,hlt⟩:=hcc;simp only[Nat.sub_zero,List.getElem?_take] at e;split at e
   ·simp[World.cell?,g3];simpa using e
   ·cases e
  ·exact k3.imm b o u e
 ·simp only[Heap.frz] at e;split at e
  ·cases e
  ·rename_i hne;cases ho:h'.at' i with
   |none=>rw[ho] at e;cases e
   |some ob0=>
    rw[ho] at e;cases e;obtain⟨l',q1,q2,q3⟩:=k3.live i ob0 ho;refine⟨l',q1,q2,zOH hle g1 hc (fun o hz=> ?_) _ q3⟩;unfold zA7;rw[if_neg fun hcc=>hne (k3.apart i id ob0 _ l' l ho k6 q1 g1 hcc.1)];exact hz
 ·simp only[Heap.frz] at ei ej;split at ei
  ·cases ei
  ·split at ej
   ·cases ej
   ·cases hoi:h'.at' i with
    |none=>rw[hoi] at ei;cases ei
    |some o1=>
     cases hoj:h'.at' j with
     |none=>rw[hoj] at ej;cases ej
     |some o2=>exact k3.apart i j o1 o2 li lj hoi hoj ri rj hij
theorem zA.freezeD {P:Program} {f:FuncId} {args:List D} {h:Heap} {Q:D→Heap→Prop} (hv:zA P f args h fun d h'=>∃id cs,h'.at' id=some (.row cs)∧Q (frz id cs d) (h'.del id)):zA P f args h Q:=by
 refine⟨hv.1,fun w0 G M ρ w va hg0 hs hfr hr=> ?_⟩;refine(hv.2 w0 G M ρ w va hg0 hs hfr hr).mono fun e w' hq=> ?_;obtain⟨v,M',ρ',d,h',rfl,k1,k2,k3,k4,k5,id,cs,k6,k7⟩:=hq;obtain⟨l,g1,g2,hm,c,ty,g3,g4,g5,g6⟩:=k3.live id _ k6;have hle:MLe M' (zA7 M' l.blk 0 (c.toList.take cs.length)):=zBY fun o _=>hm o;have hc:zAt (zA7 M' l.blk 0 (c.toList.take cs.length)) ρ' cs l.blk 0:=yO fun i d hi=>by
  obtain⟨q1,u,q2,q3⟩:=g6 i d hi;have hlt:=(List.getElem?_eq_some_iff.1 hi).1;refine⟨q1,u,?_,yo hle (RLe.refl _) _ _ q3⟩;unfold zA7;rw[if_pos ⟨rfl,by omega,by simp;omega⟩];simp only[Nat.zero_add,Nat.sub_zero,List.getElem?_take,if_pos hlt];simpa using q2
 refine⟨v,zA7 M' l.blk 0 (c.toList.take cs.length),ρ',frz id cs d,h'.del id,rfl,k1.trans hle,k2,?_,k4,zAy hle g1 hc _ _ k5,k7⟩;refine { below:=k3.below,imm:=fun b o u e=> ?_,live:=fun i ob e=> ?_,apart:=fun i j oi oj li lj ei ej ri rj hij=> ?_,gdef:=k3.gdef,old:=zFp k3.old g2 }
 ·unfold zA7 at e;split at e
  ·rename_i hcc;obtain⟨rfl,_,hlt⟩:=hcc;simp only[Nat.sub_zero,List.getElem?_take] at e;split at e
   ·simp[World.cell?,g3];simpa using e
   ·cases e
  ·exact k3.imm b o u e
 ·simp only[Heap.del] at e;split at e
  ·cases e
  ·rename_i hne;obtain⟨l',q1,q2,q3⟩:=k3.live i ob e;refine⟨l',q1,q2,qg hle (RLe.refl _) (fun o hz=> ?_) q3⟩;unfold zA7;rw[if_neg fun hcc=>hne (k3.apart i id ob _ l' l e k6 q1 g1 hcc.1)];exact hz
 ·simp only[Heap.del] at ei ej;split at ei
  ·cases ei
  ·split at ej
   ·cases ej
   ·exact k3.apart i j oi oj li lj ei ej ri rj hij
mutual
def yI:D→D
 | .bool b=> .bool b
 | .int k n=> .int k n
 | .str s=> .str s
 | .nilptr=> .nilptr
 | .ptr i off=> .ptr i off
 | .iptr es off=> .iptr (yS es) off
 | .nilsl=> .nilsl
 | .sl sz xs _=> .sl sz (zBt xs) .no
 | .rs i sz off len=> .rs i sz off len
 | .nilmap=> .nilmap
 | .map i=> .map i
 | .fn f a c=> .fn f (yS a) (yS c)
 | .yld i=> .yld i
 | .nilfn=> .nilfn
 | .agg es=> .agg (yS es)
 | .tuple es=> .tuple (yS es)
 | .iface t d=> .iface t (yI d)
 | .niliface=> .niliface
def yS:List D→List D
 | []=>[]
 |d::ds=>yI d::yS ds
def zBt:List (List D)→List (List D)
 | []=>[]
 |x::xs=>yS x::zBt xs
end
theorem zHn (d:D):(yI d).flat=d.flat:=by cases d<;>rfl
theorem zDY:∀ds:List D,(yS ds).length=ds.length
 | []=>rfl
 |_::ds=>by simp[yS,zDY ds]
theorem zDZ:∀ds:List (List D),(zBt ds).length=ds.length
 | []=>rfl
 |_::ds=>by simp[zBt,zDZ ds]
theorem zF8:∀ds:List D,(yS ds).all D.flat=ds.all D.flat
 | []=>rfl
 |d::ds=>by simp only[yS,List.all_cons,zHn,zF8 ds]
section
variable {M:Imm} {ρ:Ren}
mutual
theorem zDa (M:Imm) (ρ:Ren):∀ (d:D) (v:Value),rel M ρ d v→rel M ρ (yI d) v
 | .bool _,_,h=>h
 | .int _ _,_,h=>h
 | .str _,_,h=>h
 | .nilptr,_,h=>h
 | .ptr _ _,_,h=>h
 | .iptr es off,_,h=>by
  simp only[rel,yI] at h⊢;obtain⟨b,p,h1,h2⟩:=h;exact⟨b,p,h1,zEN M ρ es b p h2⟩
 | .nilsl,_,h=>h
 | .sl sz xs tk,_,h=>by
  simp only[rel,yI,zDZ] at h⊢;obtain⟨h0,hlim,b,p,cap,h1,h2,h3,h4⟩:=h;exact⟨h0,hlim,b,p,cap,h1,h2,zHo M ρ sz xs b p h3,trivial⟩
 | .rs _ _ _ _,_,h=>h
 | .nilmap,_,h=>h
 | .map _,_,h=>h
 | .fn f a c,_,h=>by
  simp only[rel,yI] at h⊢;obtain⟨h0,va,vc,h1,h2,h3⟩:=h;exact⟨h0,va,vc,h1,zAS M ρ a _ h2,zAS M ρ c _ h3⟩
 | .yld _,_,h=>h
 | .nilfn,_,h=>h
 | .agg es,_,h=>by
  simp only[rel,yI] at h⊢;obtain⟨vs,h1,h2,h3⟩:=h;exact⟨vs,h1,zAS M ρ es _ h2,by rw[zF8];exact h3⟩
 | .tuple es,_,h=>by
  simp only[rel,yI] at h⊢;obtain⟨vs,h1,h2⟩:=h;exact⟨vs,h1,zAS M ρ es _ h2⟩
 | .iface t d,_,h=>by
  simp only[rel,yI] at h⊢;obtain⟨u,h1,h2⟩:=h;exact⟨u,h1,zDa M ρ d u h2⟩
 | .niliface,_,h=>h
theorem zAS (M:Imm) (ρ:Ren):∀ (ds:List D) (vs:List Value),zl M ρ ds vs→zl M ρ (yS ds) vs
 | [],_,h=>h
 |d::ds,_,h=>by
  simp only[zl,yS] at h⊢;obtain⟨v,vs',h1,h2,h3⟩:=h;exact⟨v,vs',h1,zDa M ρ d v h2,zAS M ρ ds vs' h3⟩
theorem zEN (M:Imm) (ρ:Ren):∀ (ds:List D) (b p:Nat),zAt M ρ ds b p→zAt M ρ (yS ds) b p
 | [],_,_,h=>h
 |d::ds,b,p,h=>by
  simp only[zAt,yS] at h⊢;obtain⟨⟨h0,v,h1,h2⟩,h3⟩:=h;exact⟨⟨by rw[zHn];exact h0,v,h1,zDa M ρ d v h2⟩,zEN M ρ ds b (p+1) h3⟩
theorem zHo (M:Imm) (ρ:Ren):∀ (sz:Nat) (xs:List (List D)) (b p:Nat),zBV M ρ sz xs b p→zBV M ρ sz (zBt xs) b p
 |_,[],_,_,h=>h
 |sz,x::xs,b,p,h=>by
  simp only[zBV,zBt] at h⊢;exact⟨by rw[zDY];exact h.1,zEN M ρ x b p h.2.1,zHo M ρ sz xs b (p+sz) h.2.2⟩
end
end
theorem zA.strip {P:Program} {f:FuncId} {args:List D} {h:Heap} {Q:D→Heap→Prop} (hv:zA P f args h fun d h'=>Q (yI d) h'):zA P f args h Q:=by
 refine⟨hv.1,fun w0 G M ρ w va hg0 hs hfr hr=> ?_⟩;refine(hv.2 w0 G M ρ w va hg0 hs hfr hr).mono fun e w' hq=> ?_;obtain⟨v,M',ρ',d,h',rfl,k1,k2,k3,k4,k5,k6⟩:=hq;exact⟨v,M',ρ',V.yI d,h',rfl,k1,k2,k3,k4,zDa _ _ _ _ k5,k6⟩
abbrev Env:=List (Nat×Cfg)
mutual
def zCn:D→Bool
 | .ptr _ _=>false
 | .iptr cs _=>wk cs
 | .sl _ xs tk=>zIl xs&&(match tk with| .own _=>false|_=>true)
 | .rs _ _ _ _=>false
 | .map _=>false
 | .fn _ a c=>wk a&&wk c
 | .yld _=>false
 | .agg cs=>wk cs
 | .tuple cs=>wk cs
 | .iface _ d=>zCn d
 |_=>true
def wk:List D→Bool
 | []=>true
 |d::ds=>zCn d&&wk ds
def zIl:List (List D)→Bool
 | []=>true
 |x::xs=>wk x&&zIl xs
end
mutual
theorem wl:∀d,zCn d=true→below 0 d
 | .bool _,_=>trivial
 | .int _ _,_=>trivial
 | .str _,_=>trivial
 | .nilptr,_=>trivial
 | .ptr _ _,h=>by cases h
 | .iptr cs _,h=>yg cs h
 | .nilsl,_=>trivial
 | .sl _ xs tk,h=>by
  simp only[zCn,Bool.and_eq_true] at h;simp only[below];refine⟨zEp xs h.1,?_⟩;cases tk with
  |own t=>exact absurd h.2 (by simp)
  |_=>trivial
 | .rs _ _ _ _,h=>by cases h
 | .nilmap,_=>trivial
 | .map _,h=>by cases h
 | .fn _ a c,h=>by
  simp only[zCn,Bool.and_eq_true] at h;exact⟨yg a h.1,yg c h.2⟩
 | .yld _,h=>by cases h
 | .nilfn,_=>trivial
 | .agg cs,h=>yg cs h
 | .tuple cs,h=>yg cs h
 | .iface _ d,h=>wl d h
 | .niliface,_=>trivial
theorem yg:∀ds,wk ds=true→zz 0 ds
 | [],_=>trivial
 |d::ds,h=>by
  simp only[wk,Bool.and_eq_true] at h;exact⟨wl d h.1,yg ds h.2⟩
theorem zEp:∀ds,zIl ds=true→zBG 0 ds
 | [],_=>trivial
 |d::ds,h=>by
  simp only[zIl,Bool.and_eq_true] at h;exact⟨yg d h.1,zEp ds h.2⟩
end
inductive Tr (α:Type) where
 |lf
 |nd (l:Tr α) (x:Option α) (r:Tr α)
def Tr.full {α:Type} :Nat→Tr α
 |0=> .lf
 |k+1=> .nd (Tr.full k) none (Tr.full k)
def Tr.get {α:Type} (t:Tr α):Nat→Option α:=
 Tr.rec (motive:=fun _=>Nat→Option α) (fun _=>none) (fun _ x _ gl gr n=>Nat.casesOn n x fun m=>cond (Nat.beq (Nat.mod m 2) 0) (gl (Nat.div m 2)) (gr (Nat.div m 2))) t
def Tr.put {α:Type} (d:α) (t:Tr α):Nat→Option (Tr α):=
 Tr.rec (motive:=fun _=>Nat→Option (Tr α)) (fun _=>none) (fun l x r pl pr n=>Nat.casesOn n (some (.nd l (some d) r)) fun m=>
  cond (Nat.beq (Nat.mod m 2) 0) (Option.casesOn (pl (Nat.div m 2)) none fun l'=>some (.nd l' x r)) (Option.casesOn (pr (Nat.div m 2)) none fun r'=>some (.nd l x r'))) t
theorem Tr.get_nd {α:Type} (l:Tr α) (x:Option α) (r:Tr α) (n:Nat):(Tr.nd l x r).get n=(match n with
  |0=>x
  |m+1=>match m%2 with
   |0=>l.get (m/2)
   |_=>r.get (m/2)):=by
 cases n with
 |zero=>rfl
 |succ m=>
  show cond (Nat.beq (m%2) 0) (l.get (m/2)) (r.get (m/2))=_;rcases Nat.mod_two_eq_zero_or_one m with h|h
  ·simp only[h];rfl
  ·simp only[h];rfl
theorem Tr.put_nd {α:Type} (d:α) (l:Tr α) (x:Option α) (r:Tr α) (n:Nat):(Tr.nd l x r).put d n=(match n with
  |0=>some (.nd l (some d) r)
  |m+1=>match m%2 with
   |0=>match l.put d (m/2) with
    |some l'=>some (.nd l' x r)
    |none=>none
   |_=>match r.put d (m/2) with
    |some r'=>some (.nd l x r')
    |none=>none):=by
 cases n with
 |zero=>rfl
 |succ m=>
  have e:(Tr.nd l x r).put d (m+1)=cond (Nat.beq (Nat.mod m 2) 0) (@Option.casesOn (Tr α) (fun _=>Option (Tr α)) (l.put d (Nat.div m 2)) none fun l'=>some (.nd l' x r)) (@Option.casesOn (Tr α) (fun _=>Option (Tr α)) (r.put d (Nat.div m 2)) none fun r'=>some (.nd l x r')):=rfl;rw[e];change cond (Nat.beq (m%2) 0) (@Option.casesOn (Tr α) (fun _=>Option (Tr α)) (l.put d (m/2)) none fun l'=>some (.nd l' x r)) (@Option.casesOn (Tr α) (fun _=>Option (Tr α)) (r.put d (m/2)) none fun r'=>some (.nd l x r'))=_;rcases Nat.mod_two_eq_zero_or_one m with h|h
  ·simp only[h];cases l.put d (m/2)<;>rfl
  ·simp only[h];cases r.put d (m/2)<;>rfl
theorem Tr.put_none {α:Type} {d:α} :∀ (t:Tr α) (i:Nat),t.put d i=none→t.get i=none
 | .lf,i,_=>rfl
 | .nd l x r,0,h=>by simp[Tr.put_nd] at h
 | .nd l x r,m+1,h=>by
  simp only[Tr.put_nd] at h;simp only[Tr.get_nd];split at h
  ·split at h
   ·cases h
   ·rename_i hl;exact Tr.put_none l _ hl
  ·split at h
   ·cases h
   ·rename_i hr;exact Tr.put_none r _ hr
theorem Tr.put_get {α:Type} {d:α} :∀ (t t':Tr α) (i j:Nat),t.put d i=some t'→t'.get j=if j=i then some d else t.get j
 | .lf,t',i,j,h=>by cases h
 | .nd l x r,t',0,j,h=>by
  simp only[Tr.put_nd] at h;cases h;cases j<;>simp[Tr.get_nd]
 | .nd l x r,t',m+1,j,h=>by
  have inj:∀q,q%2=m%2→q/2=m/2→q=m:=fun q h1 h2=>by omega
  simp only[Tr.put_nd] at h;split at h
  ·rename_i hm;split at h
   ·rename_i l' hl;cases h;cases j with
    |zero=>simp[Tr.get_nd]
    |succ q=>
     simp only[Tr.get_nd];have:=Tr.put_get l l' (m/2) (q/2) hl;split
     ·rename_i hq;rw[this];by_cases hqm:q=m
      ·subst hqm;simp
      ·rw[if_neg fun e=>hqm (inj q (by omega) e),if_neg (by omega:¬q+1=m+1)]
     ·rename_i hq;rw[if_neg fun e=>hq (by rw[←hm];congr 1;omega)]
   ·cases h
  ·rename_i hm;split at h
   ·rename_i r' hr;cases h;cases j with
    |zero=>simp[Tr.get_nd]
    |succ q=>
     simp only[Tr.get_nd];have:=Tr.put_get r r' (m/2) (q/2) hr;have hm1:m%2=1:=by
      rcases Nat.mod_two_eq_zero_or_one m with h0|h0
      ·exact absurd h0 hm
      ·exact h0
     split
     ·rename_i hq;rw[if_neg (by omega)]
     ·rename_i hq;have hq1:q%2=1:=by
       rcases Nat.mod_two_eq_zero_or_one q with h0|h0
       ·exact absurd h0 hq
       ·exact h0
      rw[this];by_cases hqm:q=m
      ·subst hqm;simp
      ·rw[if_neg fun e=>hqm (inj q (by omega) e),if_neg (by omega:¬q+1=m+1)]
   ·cases h
structure TF where
 base:Frm
 t:Tr D
def TF.fr (F:TF):Frm:=fun i=>match F.t.get i with
 |some d=>d
 |none=>F.base i
def TF.put (F:TF) (i:Nat) (d:D):TF:=
 match F.t.put d i with
 |some t=>⟨F.base,t⟩
 |none=>⟨fun j=>if j=i then d else F.base j,F.t⟩
def TF.putO (F:TF) (dst:Option Tmp) (d:D):TF:=
 match dst with
 |some i=>F.put i d
 |none=>F
def TF.puts (F:TF):List Tmp→List D→TF
 |t::ts,d::ds=>TF.puts (F.put t d) ts ds
 |_,_=>F
theorem TF.fr_put (F:TF) (i:Nat) (d:D):(F.put i d).fr=zAA F.fr (some i) d:=by
 funext j
 unfold TF.put zAA;split
 ·rename_i t ht;simp only[TF.fr,Tr.put_get _ _ _ j ht];by_cases hj:j=i<;>simp[hj]
 ·rename_i ht;simp only[TF.fr];by_cases hj:j=i
  ·subst hj;simp[Tr.put_none _ _ ht]
  ·simp[hj]
theorem TF.fr_putO (F:TF) (dst:Option Tmp) (d:D):(F.putO dst d).fr=zAA F.fr dst d:=by
 cases dst with
 |none=>rfl
 |some i=>exact F.fr_put i d
theorem TF.fr_puts:∀ (ts:List Tmp) (ds:List D) (F:TF),(F.puts ts ds).fr=zEJ F.fr ts ds
 | [],_,_=>by simp[TF.puts,zEJ]
 |_::_,[],_=>by simp[TF.puts,zEJ]
 |t::ts,d::ds,F=>by
  simp only[TF.puts,zEJ,TF.fr_puts ts ds,TF.fr_put]
def TF.of (fr:Frm) (k:Nat):TF:=⟨fr,Tr.full k⟩
theorem zIm {α:Type} :∀ (k i:Nat),(Tr.full k:Tr α).get i=none
 |0,_=>rfl
 |k+1,0=>rfl
 |k+1,m+1=>by
  simp only[Tr.full,Tr.get_nd];split<;>exact zIm k _
theorem TF.of_fr (fr:Frm) (k:Nat):(TF.of fr k).fr=fr:=by
 funext i
 simp[TF.fr,TF.of,zIm]
structure HT where
 next:Nat
 base:Nat→Option Obj
 t:Tr (Option Obj)
def HT.at' (h:HT) (i:Nat):Option Obj:=match h.t.get i with
 |some o=>o
 |none=>h.base i
def HT.heap (h:HT):Heap:=⟨h.next,h.at'⟩
def HT.put (h:HT) (i:Nat) (o:Option Obj):HT:=
 match h.t.put o i with
 |some t=>⟨h.next,h.base,t⟩
 |none=>⟨h.next,fun j=>if j=i then o else h.base j,h.t⟩
theorem HT.put_at (h:HT) (i:Nat) (o:Option Obj) (j:Nat):(h.put i o).at' j=if j=i then o else h.at' j:=by
 unfold HT.put;split
 ·rename_i t ht;simp only[HT.at',Tr.put_get _ _ _ j ht];by_cases hj:j=i<;>simp[hj]
 ·rename_i ht;simp only[HT.at'];by_cases hj:j=i
  ·subst hj;simp[Tr.put_none _ _ ht]
  ·simp[hj]
theorem HT.put_next (h:HT) (i:Nat) (o:Option Obj):(h.put i o).next=h.next:=by
 unfold HT.put;split<;>rfl
def HT.puts (h:HT) (h':Heap):List Nat→HT
 | []=>h
 |i::is=>(HT.puts h h' is).put i (h'.at' i)
theorem HT.puts_at (h:HT) (h':Heap) (j:Nat):∀is:List Nat,(h.puts h' is).at' j=if j∈is then h'.at' j else h.at' j
 | []=>by simp[HT.puts]
 |i::is=>by
  simp only[HT.puts,HT.put_at,HT.puts_at h h' j is,List.mem_cons];by_cases hj:j=i
  ·subst hj;simp
  ·simp[hj]
def HT.upd (h:HT) (h':Heap) (is:List Nat):HT:=⟨h'.next,(h.puts h' is).base,(h.puts h' is).t⟩
theorem HT.upd_heap (h:HT) (h':Heap) (is:List Nat) (hu:∀j,j∉is→h'.at' j=h.at' j):(h.upd h' is).heap=h':=by
 unfold HT.heap;cases h' with
 |mk n a=>
  congr 1
  funext j
  show(h.puts _ is).at' j=a j;rw[HT.puts_at];split
  ·rfl
  ·rename_i hj;exact(hu j hj).symm
def HT.emp:HT:=⟨0,fun _=>none,Tr.full 12⟩
theorem HT.emp_heap:HT.emp.heap=Heap.emp:=by
 unfold HT.heap Heap.emp;congr 1
 funext i
 simp[HT.at',HT.emp,zIm]
def zE8:D→List Nat
 | .ptr i _=>[i]
 | .rs i _ _ _=>[i]
 | .map i=>[i]
 | .sl _ _ tk=>match tk with
  | .own i=>[i]
  |_=>[]
 |_=>[]
def y8 (o:Op) (ev:Operand→D) (nid:Nat):List Nat:=
 match o with
 | .alloc _=>[nid]
 | .box _ _=>[nid]
 | .buildSlice _ _ _=>[nid]
 | .makeMap _ _=>[nid]
 | .makeSlice _ _ _=>[nid]
 | .store _ a _=>zE8 (ev a)
 | .mapUpdate _ m _ _=>zE8 (ev m)
 | .insert _ m _ _=>zE8 (ev m)
 | .range _ _=>[nid]
 | .next x _=>zE8 (ev x)
 | .call c=>match c.args.toList with
  |a::_=>nid::zE8 (ev a)
  | []=>[nid]
 |_=>[]
theorem zK {h:Heap} {i j:Nat} {o:Obj} (hj:j≠i):(h.new i o).at' j=h.at' j:=by simp[Heap.new,hj]
theorem zG {h:Heap} {i j:Nat} {o:Obj} (hj:j≠i):(h.set i o).at' j=h.at' j:=by simp[Heap.set,hj]
theorem qE {h:Heap} {i j:Nat} (hj:j≠i):(h.del i).at' j=h.at' j:=by simp[Heap.del,hj]
theorem zB9 {P:Program} {t:TypeId} {m k v:D} {h h':Heap} (hv:yX P t m k v h=some h') {j:Nat} (hj:j∉zE8 m):h'.at' j=h.at' j:=by
 unfold yX at hv;split at hv
 ·cases hv
 ·split at hv
  ·split at hv
   ·rename_i id;split at hv
    ·split at hv
     ·split at hv
      ·cases hv;exact zG (by simpa [zE8] using hj)
      ·cases hv
     ·cases hv
    ·cases hv
   ·cases hv
  ·cases hv
theorem zIn {P:Program} {m:Bool} {nid sz k:Nat} {e:TypeId} {s d:D} {ys:List D} {h h':Heap} (hv:qC P m nid e sz k s ys h=some (d,h')) {j:Nat} (hj:j∉nid::zE8 s):h'.at' j=h.at' j:=by
 have h1:j≠nid:=fun e=>hj (by simp[e]);have h2:j∉zE8 s:=fun e=>hj (by simp[e]);unfold qC at hv;split at hv
 ·split at hv
  ·cases hv;rfl
  ·split at hv
   ·split at hv
    ·cases hv;exact zK h1
    ·cases hv;exact zK h1
   ·cases hv
 ·split at hv
  ·split at hv
   ·cases hv
   ·split at hv
    ·cases hv;rfl
    ·split at hv
     ·cases hv;exact zK h1
     ·cases hv;exact zK h1
   ·split at hv
    ·split at hv
     ·cases hv
     ·cases hv;rw[zK h1,qE (by simpa [zE8] using h2)]
    ·cases hv
  ·cases hv
 ·split at hv
  ·split at hv
   ·split at hv
    ·cases hv;rw[zK h1,qE (by simpa [zE8] using h2)]
    ·cases hv
   ·split at hv
    ·cases hv
    ·split at hv
     ·cases hv;rw[zK h1,qE (by simpa [zE8] using h2)]
     ·cases hv
   ·cases hv
  ·cases hv
 ·cases hv
theorem zEq {P:Program} {m:Bool} {nid:Nat} {t:TypeId} {s x d:D} {h h':Heap} (hv:ze P m nid t s x h=some (d,h')) {j:Nat} (hj:j∉nid::zE8 s):h'.at' j=h.at' j:=by
 unfold ze at hv;split at hv
 ·cases hv
 ·split at hv
  ·split at hv
   ·cases hv
   ·exact zIn hv hj
  ·cases hv
theorem zJ7 {s x:D} {h:Heap} {j:Nat} (hj:j∉zE8 s):(qd s x h).at' j=h.at' j:=by
 unfold qd;split
 ·split
  ·rfl
  ·split
   ·split
    ·exact zG (by simpa [zE8] using hj)
    ·rfl
   ·rfl
 ·rfl
theorem zIo {P:Program} {m:Bool} {nid:Nat} {o:Op} {ev:Operand→D} {h h':Heap} {d:D} (hv:vop P m nid o ev h=some (d,h')) {j:Nat} (hj:j∉y8 o ev nid):h'.at' j=h.at' j:=by
 cases o<;>simp only[vop] at hv<;>(try (cases hv;done))<;>(try (obtain⟨_,_,hv⟩:=Option.map_eq_some_iff.1 hv;cases hv;rfl;done))
 case move=>cases hv;rfl
 case assign=>cases hv;rfl
 case pick=>split at hv<;>cases hv<;>rfl
 case alloc t=>
  split at hv
  ·split at hv
   ·cases hv;exact zK (by simpa [y8] using hj)
   ·cases hv
  ·cases hv
 case box t x=>
  split at hv
  ·split at hv
   ·cases hv;exact zK (by simpa [y8] using hj)
   ·cases hv;rfl
  ·cases hv
 case buildSlice t n ps=>
  unfold zU at hv;split at hv
  ·cases hv
  ·split at hv
   ·cases hv
   ·dsimp only at hv
    split at hv
    ·split at hv
     ·cases hv
     ·split at hv
      ·cases hv;exact zK (by simpa [y8] using hj)
      ·cases hv;rfl
    ·cases hv
 case store t a x=>
  obtain⟨h2,hh,hv⟩:=Option.map_eq_some_iff.1 hv;cases hv;unfold zX at hh;split at hh
  ·rename_i id off ha;split at hh
   ·split at hh
    ·cases hh;exact zG (by simpa [y8,ha,zE8] using hj)
    ·cases hh
   ·split at hh
    ·cases hh;exact zG (by simpa [y8,ha,zE8] using hj)
    ·cases hh
   ·cases hh
  ·cases hh
 case makeFunc g a c=>split at hv<;>cases hv;rfl
 case range t x=>obtain⟨o,rfl⟩:=zJx hv;exact zK (by simpa [y8] using hj)
 case next x b=>
  rcases zMg hv with rfl| ⟨id,off,o,hx,rfl⟩
  ·rfl
  ·exact zG (by simpa [y8,hx,zE8] using hj)
 case makeMap t r=>
  split at hv
  ·cases hv;exact zK (by simpa [y8] using hj)
  ·cases hv
 case makeSlice t l c=>
  unfold qm at hv;split at hv
  ·split at hv
   ·dsimp only at hv
    split at hv
    ·split at hv
     ·cases hv;exact zK (by simpa [y8] using hj)
     ·cases hv;rfl
    ·cases hv
   ·cases hv
  ·cases hv
 case mapUpdate t x y z=>
  obtain⟨h2,hh,hv⟩:=Option.map_eq_some_iff.1 hv;cases hv;exact zB9 hh (by simpa [y8] using hj)
 case insert t x y z=>
  obtain⟨h2,hh,hv⟩:=Option.map_eq_some_iff.1 hv;cases hv;exact zB9 hh (by simpa [y8] using hj)
 case makeInterface t x=>split at hv<;>cases hv;rfl
 case call c=>
  split at hv
  ·rename_i b hb;unfold zAN at hv;split at hv
   ·split at hv
    ·split at hv
     ·obtain⟨_,_,hv⟩:=Option.map_eq_some_iff.1 hv;cases hv;rfl
     ·cases hv
    ·cases hv
   ·split at hv
    ·split at hv
     ·rename_i s x ha;split at hv
      ·have hm:j∉nid::zE8 s:=fun hm=>hj (by
        unfold y8;simp only;cases hl:c.args.toList with
        |nil=>rw[hl] at ha;cases ha
        |cons y ys=>
         rw[hl] at ha;simp only[List.map_cons,List.cons.injEq] at ha;rw[←ha.1] at hm;exact hm)
       unfold zAJ at hv;split at hv
       ·rw[zEq hv hm,zJ7 fun e=>hm (List.mem_cons_of_mem _ e)]
       ·exact zEq hv hm
      ·obtain⟨o,rfl⟩:=zF3 hv;refine zK fun he=>hj ?_;unfold y8;simp only;cases hl:c.args.toList with
       |nil=>rw[he];simp
       |cons y ys=>rw[he];simp
     ·cases hv
    ·cases hv
   ·split at hv
    ·obtain⟨_,_,hv⟩:=Option.map_eq_some_iff.1 hv;cases hv;rfl
    ·cases hv
   ·split at hv
    ·obtain⟨_,_,hv⟩:=Option.map_eq_some_iff.1 hv;cases hv;rfl
    ·cases hv
   ·split at hv
    ·split at hv
     ·split at hv
      ·split at hv
       ·cases hv;rfl
       ·cases hv
      ·cases hv
     ·cases hv
    ·cases hv
   ·split at hv
    ·split at hv
     ·split at hv
      ·split at hv
       ·cases hv
       ·cases hv;rfl
       ·cases hv
      ·cases hv
     ·cases hv
    ·cases hv
   ·split at hv
    ·split at hv
     ·rename_i x y ha;obtain⟨id,rfl,rfl⟩:=zDU hv;refine qE fun he=>hj ?_;unfold y8;simp only;cases hl:c.args.toList with
      |nil=>rw[hl] at ha;cases ha
      |cons y ys=>
       rw[hl] at ha;simp only[List.map_cons,List.cons.injEq] at ha;show j∈nid::zE8 (ev y);rw[ha.1];simp[zE8,he]
     ·cases hv
    ·cases hv
   ·split at hv
    ·split at hv
     ·rename_i x ha;obtain⟨h2,hc,hv⟩:=Option.map_eq_some_iff.1 hv;cases hv;rcases zJw hc with rfl| ⟨id,sz,off,n,cs,rfl,rfl⟩ | ⟨id,rfl,rfl⟩
      ·rfl
      ·refine zG fun he=>hj ?_;unfold y8;simp only;cases hl:c.args.toList with
       |nil=>rw[hl] at ha;cases ha
       |cons y ys=>
        rw[hl] at ha;simp only[List.map_cons,List.cons.injEq] at ha;show j∈nid::zE8 (ev y);rw[ha.1];simp[zE8,he]
      ·refine zG fun he=>hj ?_;unfold y8;simp only;cases hl:c.args.toList with
       |nil=>rw[hl] at ha;cases ha
       |cons y ys=>
        rw[hl] at ha;simp only[List.map_cons,List.cons.injEq] at ha;show j∈nid::zE8 (ev y);rw[ha.1];simp[zE8,he]
     ·cases hv
    ·cases hv
   ·cases hv
  ·cases hv
def HT.setO (h:HT) (i:Nat) (o:Obj):HT:=h.put i (some o)
def HT.delO (h:HT) (i:Nat):HT:=h.put i none
def HT.newO (h:HT) (i:Nat) (o:Obj):HT:=⟨max h.next (i+1),(h.put i (some o)).base,(h.put i (some o)).t⟩
theorem HT.setO_heap (h:HT) (i:Nat) (o:Obj):(h.setO i o).heap=h.heap.set i o:=by
 unfold HT.setO HT.heap Heap.set;rw[HT.put_next];congr 1
 funext j
 exact HT.put_at h i _ j
theorem HT.delO_heap (h:HT) (i:Nat):(h.delO i).heap=h.heap.del i:=by
 unfold HT.delO HT.heap Heap.del;rw[HT.put_next];congr 1
 funext j
 exact HT.put_at h i _ j
theorem HT.newO_heap (h:HT) (i:Nat) (o:Obj):(h.newO i o).heap=h.heap.new i o:=by
 unfold HT.newO HT.heap Heap.new;congr 1
 funext j
 exact HT.put_at h i _ j
abbrev VT:=Option (D×HT)
abbrev Inv:=Env→D→List D→HT→VT
abbrev XR:=Option (Exit×TF×HT)
def zEO (o:Option D) (h:HT):VT:=match o with
 |some d=>some (d,h)
 |none=>none
def zY9 (c a b:D) (h:HT):VT:=match c with
 | .bool t=>match t with
  |true=>some (a,h)
  |false=>some (b,h)
 |_=>none
def zMl (P:Program) (mu:Bool) (o:Op) (ev:Operand→D) (h:HT):VT:=
 match vop P mu h.next o ev h.heap with
 |some (d,h')=>some (d,h.upd h' (y8 o ev h.next))
 |none=>none
def zZA (P:Program) (mu:Bool) (o:Op) (c:Call) (ev:Operand→D) (h:HT):VT:=match c.callee with
 | .builtin .len=>match c.argTypes.toList,c.args.toList with
  | [t],[x]=>zEO (zBU P t (ev x) h.heap) h
  |_,_=>none
 |_=>zMl P mu o ev h
def zcy (P:Program) (mu:Bool) (o:Op) (ev:Operand→D) (h:HT):VT:=
 match o with
 | .move x=>some (ev x,h)
 | .assign x=>some (ev x,h)
 | .load t a=>zEO (zA9 P t (ev a) h.heap) h
 | .binOp op t x y _=>zEO (zDH P op t (isC x||isC y) (ev x) (ev y)) h
 | .unOp op _ x=>zEO (vun op (ev x)) h
 | .pick c a b=>zY9 (ev c) (ev a) (ev b) h
 | .indexAddr t x i=>zEO (zQ P t (ev x) (ev i)) h
 | .index t x i=>zEO (zAX P t (ev x) (ev i)) h
 | .fieldAddr t x f=>zEO (zx P t (ev x) f) h
 | .extract x i=>zEO (zAL (ev x) i) h
 | .convert s d x=>zEO (zDK P s d (ev x) h.heap) h
 | .build t parts=>zEO (yc P t (parts.toList.map fun p=>(p.1,ev p.2))) h
 | .slice t x lo hi mx=>zEO (yR P t (ev x) (lo.map ev) (hi.map ev) (mx.map ev) h.heap) h
 | .call c=>zZA P mu o c ev h
 |o=>zMl P mu o ev h
theorem zF9 {P:Program} {mu:Bool} {o:Op} {ev:Operand→D} {h h':HT} {d:D} (hx:zMl P mu o ev h=some (d,h')):vop P mu h.next o ev h.heap=some (d,h'.heap):=by
 unfold zMl at hx;split at hx
 ·rename_i d1 h1 hv;cases hx;rw[h.upd_heap h1 _ fun j hj=>zIo hv hj];exact hv
 ·cases hx
theorem zHp {o:Option D} {h h':HT} {d:D} (hx:zEO o h=some (d,h')):o.map (·,h.heap)=some (d,h'.heap):=by
 unfold zEO at hx;split at hx
 ·cases hx;rfl
 ·cases hx
theorem zPb {P:Program} {mu:Bool} {o:Op} {ev:Operand→D} {h h':HT} {d:D} (hx:zcy P mu o ev h=some (d,h')):vop P mu h.next o ev h.heap=some (d,h'.heap):=by
 cases o<;>simp only[zcy] at hx<;>(try (exact zF9 hx;done))<;>(try (exact zHp hx;done))<;>(try (cases hx;rfl;done))
 case pick c a b=>
  unfold zY9 at hx;simp only[vop];split at hx
  ·rename_i t hc;rw[hc];cases t<;>(cases hx;rfl)
  ·cases hx
 case call c=>
  unfold zZA at hx;split at hx
  ·rename_i hb;split at hx
   ·rename_i t x ht hx';have:=zHp hx;simp only[vop,hb,zAN,ht,hx',List.map_cons,List.map_nil];exact this
   ·cases hx
  ·exact zF9 hx
def zb3 (P:Program) (inv:D→List D→HT→VT) (mu:Bool) (o:Op) (ev:Operand→D) (h:HT):VT:=
 match yr o with
 |some (f,args)=>inv (ev f) (args.map ev) h
 |none=>zcy P mu o ev h
mutual
def zIp:D→Option Nat
 | .ptr id _=>some id
 | .iptr cs _=>zBb cs
 | .sl _ xs _=>zMm xs
 | .rs id _ _ _=>some id
 | .fn _ a c=>(zBb a).or (zBb c)
 | .agg cs=>zBb cs
 | .tuple cs=>zBb cs
 | .iface _ d=>zIp d
 |_=>none
def zBb:List D→Option Nat
 | []=>none
 |d::ds=>(zIp d).or (zBb ds)
def zMm:List (List D)→Option Nat
 | []=>none
 |x::xs=>(zBb x).or (zMm xs)
end
def zUC:Nat→D→Heap→D
 |0,d,_=>d
 |k+1,d,h=>match zIp d with
  |none=>d
  |some id=>match h.at' id with
   |some (.row cs)=>zUC k (frz id cs d) (h.frz id cs)
   |_=>d
theorem zA.settle {P:Program} {f:FuncId} {args:List D} {h:Heap} :∀ (k:Nat) (d:D) (h':Heap),zA P f args h (fun a b=>a=d∧b=h')→zA P f args h fun a _=>a=V.zUC k d h'
 |0,d,h',hv=>hv.mono fun a b hab=>hab.1
 |k+1,d,h',hv=>by
  unfold V.zUC;split
  ·exact hv.mono fun a b hab=>hab.1
  ·rename_i id _;split
   ·rename_i cs hi;refine zA.settle k _ _ (zA.freeze (hv.mono fun a b hab=> ?_));obtain⟨rfl,rfl⟩:=hab;exact⟨id,cs,hi,rfl,rfl⟩
   ·exact hv.mono fun a b hab=>hab.1
def z8 (d:D) (h:Heap):D:=yI (zUC 16 d h)
theorem zA.settled_of {P:Program} {f:FuncId} {args:List D} {h:Heap} {d:D} {h':Heap} (hv:zA P f args h fun a b=>a=d∧b=h'):zA P f args h fun a _=>a=V.z8 d h':=
 zA.strip ((zA.settle 16 d h' hv).mono fun a b hab=>by rw[hab];rfl)
def zfM:Tk→Tk→Bool
 | .no, .no=>true
 | .full, .full=>true
 |_,_=>false
mutual
def eqD:D→D→Bool
 | .bool a,y=>match y with
  | .bool b=>a==b
  |_=>false
 | .int k a,y=>match y with
  | .int k' b=>decide (k=k')&&decide (a=b)
  |_=>false
 | .str a,y=>match y with
  | .str b=>a==b
  |_=>false
 | .nilsl,y=>match y with
  | .nilsl=>true
  |_=>false
 | .sl s xs tk,y=>match y with
  | .sl s' ys tk'=>Nat.beq s s'&&(zfM tk tk'&&zZB xs ys)
  |_=>false
 | .agg xs,y=>match y with
  | .agg ys=>zSW xs ys
  |_=>false
 | .tuple xs,y=>match y with
  | .tuple ys=>zSW xs ys
  |_=>false
 |_,_=>false
def zSW:List D→List D→Bool
 | [],y=>match y with
  | []=>true
  |_=>false
 |x::xs,y=>match y with
  |y::ys=>eqD x y&&zSW xs ys
  |_=>false
def zZB:List (List D)→List (List D)→Bool
 | [],y=>match y with
  | []=>true
  |_=>false
 |x::xs,y=>match y with
  |y::ys=>zSW x y&&zZB xs ys
  |_=>false
end
theorem zVf:∀ {a b:Tk},zfM a b=true→a=b
 | .no, .no,_=>rfl
 | .full, .full,_=>rfl
 | .no, .full,h=>by cases h
 | .no, .own _,h=>by cases h
 | .full, .no,h=>by cases h
 | .full, .own _,h=>by cases h
 | .own _, .no,h=>by cases h
 | .own _, .full,h=>by cases h
 | .own _, .own _,h=>by cases h
mutual
theorem zZC:∀ (a b:D),eqD a b=true→a=b
 | .bool a,b,h=>by
  simp only[eqD] at h;split at h
  ·simpa using h
  ·cases h
 | .int k a,b,h=>by
  simp only[eqD] at h;split at h
  ·simp only[Bool.and_eq_true,decide_eq_true_eq] at h;rw[h.1,h.2]
  ·cases h
 | .str a,b,h=>by
  simp only[eqD] at h;split at h
  ·simpa using h
  ·cases h
 | .nilsl,b,h=>by
  simp only[eqD] at h;split at h
  ·rfl
  ·cases h
 | .sl s xs tk,b,h=>by
  simp only[eqD] at h;split at h
  ·simp only[Bool.and_eq_true] at h;rw[Nat.eq_of_beq_eq_true h.1,zVf h.2.1,zPc _ _ h.2.2]
  ·cases h
 | .agg xs,b,h=>by
  simp only[eqD] at h;split at h
  ·rw[zEP _ _ h]
  ·cases h
 | .tuple xs,b,h=>by
  simp only[eqD] at h;split at h
  ·rw[zEP _ _ h]
  ·cases h
 | .nilptr,_,h=>by simp[eqD] at h
 | .ptr _ _,_,h=>by simp[eqD] at h
 | .iptr _ _,_,h=>by simp[eqD] at h
 | .rs _ _ _ _,_,h=>by simp[eqD] at h
 | .nilmap,_,h=>by simp[eqD] at h
 | .map _,_,h=>by simp[eqD] at h
 | .fn _ _ _,_,h=>by simp[eqD] at h
 | .yld _,_,h=>by simp[eqD] at h
 | .nilfn,_,h=>by simp[eqD] at h
 | .iface _ _,_,h=>by simp[eqD] at h
 | .niliface,_,h=>by simp[eqD] at h
theorem zEP:∀ (a b:List D),zSW a b=true→a=b
 | [],b,h=>by
  simp only[zSW] at h;split at h
  ·rfl
  ·cases h
 |x::xs,b,h=>by
  simp only[zSW] at h;split at h
  ·simp only[Bool.and_eq_true] at h;rw[zZC _ _ h.1,zEP _ _ h.2]
  ·cases h
theorem zPc:∀ (a b:List (List D)),zZB a b=true→a=b
 | [],b,h=>by
  simp only[zZB] at h;split at h
  ·rfl
  ·cases h
 |x::xs,b,h=>by
  simp only[zZB] at h;split at h
  ·simp only[Bool.and_eq_true] at h;rw[zEP _ _ h.1,zPc _ _ h.2]
  ·cases h
end
def zE9 (S:List Nat) (h:Heap):Heap:=⟨h.next,fun i=>if S.contains i then h.at' i else none⟩
def zCo:List D→List Nat
 | []=>[]
 |d::ds=>match d with
  | .rs i _ _ _=>i::zCo ds
  |_=>zCo ds
def zSX (n:Nat):List D→Bool
 | []=>true
 |d::ds=>(match d with
  | .rs i _ _ _=>Nat.blt i n
  |d=>zCn d)&&zSX n ds
def zUD (h:Heap) (ids:List Nat):Bool:=ids.all fun i=>Nat.blt i h.next&&match h.at' i with
 |some (.row cs)=>wk cs
 |_=>false
def zMn (h:Heap) (h':Nat→Option Obj) (ids:List Nat):Bool:=ids.all fun i=>match h.at' i with
 |some (.row cs)=>match h' i with
  |some (.row cs')=>zSW cs cs'
  |_=>false
 |_=>false
def zSY (P:Program) (inv:D→List D→HT→VT) (o:Op) (ev:Operand→D) (h:Heap):Option D:=
 match yr o with
 |some (f,args)=>match ev f with
  | .fn (.func g) a c=>if wk (a++args.map ev++c) then(match inv (ev f) (args.map ev) HT.emp with
   |some (d,h')=>if zCn (z8 d h'.heap) then some (z8 d h'.heap) else none
   |none=>none) else
   if zSX h.next (a++args.map ev++c)&&zUD h (zCo (a++args.map ev++c)) then(match inv (ev f) (args.map ev) (HT.emp.upd (zE9 (zCo (a++args.map ev++c)) h) (zCo (a++args.map ev++c))) with
   |some (d,h')=>if zCn d&&zMn h h'.at' (zCo (a++args.map ev++c)) then some d else none
   |none=>none) else none
  |_=>none
 |none=>if qi P false o||zAF P o then(vop P false h.next o ev h).map (·.1) else none
def zZD (P:Program) (inv:D→List D→HT→VT) (mu:Tmp→Bool) (ops:Array Oper):List Oper→TF→HT→XR
 | [],fr,h=>some (.normal,fr,h)
 |o::rest,fr,h=>
  match yi ops fr.fr o.guard with
  |true=>match zb3 P inv (zEm mu o.dst) o.op (zw fr.fr) h with
   |some (d,h')=>zZD P inv mu ops rest (fr.putO o.dst d) h'
   |none=>none
  |false=>zZD P inv mu ops rest (fr.putO o.dst qZ) h
def HT.dels (h:HT):List Nat→HT
 | []=>h
 |i::is=>(HT.dels h is).delO i
def zDb (h:HT) (S:List Nat):List Nat:=S.filter fun i=>(h.at' i).isSome
def zPd (inv:D→List D→HT→VT) (f:D) (args:List D) (h:HT) (S:List Nat):VT:=
 match f with
 | .fn (.func g) a c=>match inv (.fn (.func g) a c) args (h.dels (zDb h S)) with
  |some (d,h1)=>some (d,h1.puts h.heap (zDb h S))
  |none=>none
 |_=>none
def zHI (P:Program) (inv:D→List D→HT→VT) (mu:Tmp→Bool) (S:List Nat) (h0:Heap) (bk:Nat→Bool) (ops:Array Oper):Bool→List (Nat×Fl)→TF→HT→XR
 |_,[],fr,h=>some (.normal,fr,h)
 |fl,(i,st)::rest,fr,h=>
  match ops[i]? with
  |none=>none
  |some o=>match yi ops fr.fr o.guard with
   |false=>zHI P inv mu S h0 bk ops (fl&& !bk i) rest (fr.putO o.dst qZ) h
   |true=>match st with
    | .st=>match zSY P inv o.op (zw fr.fr) h0 with
     |some d=>zHI P inv mu S h0 bk ops (fl&& !bk i) rest (fr.putO o.dst d) h
     |none=>none
    | .qu=>if(yr o.op).isSome then(match zSY P inv o.op (zw fr.fr) h.heap with
     |some d=>zHI P inv mu S h0 bk ops (fl&& !bk i) rest (fr.putO o.dst d) h
     |none=>none) else none
    | .al _=>none
    | .no=>match fl&& !bk i with
     |true=>match yr o.op with
      |none=>if qi P (zEm mu o.dst) o.op||(y8 o.op (zw fr.fr) h.next).all (fun i=> !S.contains i) then(match vop P (zEm mu o.dst) h.next o.op (zw fr.fr) h.heap with
       |some (d,h')=>zHI P inv mu S h0 bk ops true rest (fr.putO o.dst d) (h.upd h' (y8 o.op (zw fr.fr) h.next))
       |none=>none) else none
      |some (f,args)=>match zPd inv (zw fr.fr f) (args.map (zw fr.fr)) h S with
       |some (d,h')=>zHI P inv mu S h0 bk ops true rest (fr.putO o.dst d) h'
       |none=>none
     |false=>match zb3 P inv (zEm mu o.dst) o.op (zw fr.fr) h with
      |some (d,h')=>zHI P inv mu S h0 bk ops false rest (fr.putO o.dst d) h'
      |none=>none
mutual
def zfN:D→List Nat
 | .ptr i _=>[i]
 | .rs i _ _ _=>[i]
 | .map i=>[i]
 | .iptr cs _=>zYL cs
 | .sl _ xs _=>zfO xs
 | .agg cs=>zYL cs
 | .tuple cs=>zYL cs
 |_=>[]
def zYL:List D→List Nat
 | []=>[]
 |d::ds=>zfN d++zYL ds
def zfO:List (List D)→List Nat
 | []=>[]
 |x::xs=>zYL x++zfO xs
end
def zZE (h:HT) (S:List Nat):List Nat:=S++S.flatMap fun i=>match h.at' i with
 |some (.row cs)=>zYL cs
 |_=>[]
def zVg:Op→List Operand
 | .load _ a=>[a]
 | .fieldAddr _ a _=>[a]
 | .indexAddr _ a _=>[a]
 | .lookup _ a _ _=>[a]
 |_=>[]
def zgp (t:Tmp):Operand→Bool
 | .tmp u=>Nat.beq t u
 |_=>false
def zPe:List Oper→Tmp→Option Op
 | [],_=>none
 |o::os,t=>match o.dst with
  |some u=>match Nat.beq u t with
   |true=>some o.op
   |false=>zPe os t
  |none=>zPe os t
def zAz (ops:List Oper):Nat→Operand→Nat×Operand
 |0,a=>(0,a)
 |n+1,a=>match a with
  | .tmp t=>match zPe ops t with
   |none=>(0,a)
   |some op=>match op with
    | .load _ b=>match zAz ops n b with
     |(k,c)=>(k+1,c)
    | .lookup _ b _ _=>match zAz ops n b with
     |(k,c)=>(k+1,c)
    | .fieldAddr _ b _=>zAz ops n b
    | .indexAddr _ b _=>zAz ops n b
    | .nilCheck b=>zAz ops n b
    | .move b=>zAz ops n b
    | .extract b _=>zAz ops n b
    | .field _ b _=>zAz ops n b
    |_=>(0, .const (.bool true))
  |_=>(0,a)
def zZF (h:HT):Nat→List Nat→List Nat
 |0,l=>l
 |k+1,l=>zZF h k (zZE h l)
def zPf (ops:Array Oper) (l:List (Nat×Fl)) (fr:Frm) (h:HT):List Nat:=l.flatMap fun j=>match j.2 with
 | .st=>match ops[j.1]? with
  |some o=>match yr o.op with
   |some (_,args)=>args.flatMap fun a=>match zAz ops.toList 8 a with
    |(k,b)=>match k with
     |0=>zCo [zw fr b]
     |_+1=>[]
   |none=>(zVg o.op).flatMap fun a=>match zAz ops.toList 8 a with
    |(k,b)=>zZF h k (zfN (zw fr b))
  |none=>[]
 |_=>[]
def zLi (P:Program) (inv:D→List D→HT→VT) (mu:Tmp→Bool) (ops:Array Oper) (l:List (Nat×Fl)) (fr:TF) (h:HT):XR:=
 match alN l with
 |_+1=>none
 |0=>match l.any (·.2.isSt) with
 |false=>zHI P inv mu [] (zE9 [] h.heap) (fun _=>false) ops false l fr h
 |true=>zHI P inv mu (zPf ops l fr.fr h) (zE9 (zPf ops l fr.fr h) h.heap) (zSF P mu ops l (zE7 ops.toList 0 [])) ops true l fr h
def zZG (b:TF→HT→XR):Nat→TF→HT→XR
 |0,_,_=>none
 |n+1,fr,h=>match b fr h with
  |none=>none
  |some (e,fr',h')=>match e with
   | .normal=>zZG b n fr' h'
   |e=>some (e,fr',h')
def roB (ro:Option Nat) (h:HT):Bool:=
 match ro with
 |none=>true
 |some id=>match h.at' id with
  |some (.loop _)=>true
  |_=>false
def zBx (P:Program) (inv:Inv) (g:Cfg) (n fuel:Nat) (ro:Option Nat) (env:Env):Code→TF→HT→XR
 | .skip,fr,h=>some (.normal,fr,h)
 | .region id ops draw,fr,h=>match draw with
  |false=>zZD P (inv env) g.mu ops ops.toList fr h
  |true=>zLi P (inv env) g.mu ops (g.dr id) fr h
 | .seq a b,fr,h=>match zBx P inv g n fuel ro env a fr h with
  |none=>none
  |some (e,fr',h')=>match e with
   | .normal=>zBx P inv g n fuel ro env b fr' h'
   |e=>some (e,fr',h')
 | .cond c a b,fr,h=>match zw fr.fr c with
  | .bool b'=>match b' with
   |true=>zBx P inv g n fuel ro env a fr h
   |false=>zBx P inv g n fuel ro env b fr h
  |_=>none
 | .block id c,fr,h=>match zBx P inv g n fuel ro env c fr h with
  |none=>none
  |some (e,fr',h')=>match e with
   | .exit i=>if i=id then some (.normal,fr',h') else some (.exit i,fr',h')
   |e=>some (e,fr',h')
 | .exit id,fr,h=>some (.exit id,fr,h)
 | .ret,fr,h=>some (.ret,fr,h)
 | .label _,fr,h=>some (.normal,fr,h)
 | .scope c,fr,h=>match zBx P inv g n fuel ro env c fr h with
  |none=>none
  |some (e,fr',h')=>match e with
   | .goto _=>none
   |e=>some (e,fr',h')
 | .loop c,fr,h=>zZG (zBx P inv g n fuel ro env c) fuel fr h
 | .rangeFunc f ps as body,fr,h=>
  if roB ro h then
   match zw fr.fr f with
   | .fn (.func g') first cap=>match inv ((h.next,g)::env) (.fn (.func g') first cap) [.yld h.next] (h.newO h.next (.loop ⟨.ready,none,fr.fr,ps,as,body,n⟩)) with
    |none=>none
    |some (_,h')=>match h'.at' h.next with
     |some (.loop r)=>if r.st= .busy then none else match r.pending with
      |none=>some (.normal,fr,h'.delO h.next)
      |some c=>match c with
       | .ret=>some (.ret,fr,h'.delO h.next)
       | .exit i=>some (.exit i,fr,h'.delO h.next)
       |_=>none
     |_=>none
   |_=>none
  else none
 |_,_,_=>none
def zZH:Env→Nat→Option Cfg
 | [],_=>none
 |(i,g)::env,id=>if i=id then some g else zZH env id
def zPg (P:Program) (inv:Inv) (g:Cfg) (fuel:Nat) (env:Env) (id:Nat) (args:List D) (h:HT):VT:=
 match h.at' id with
 |some (.loop ⟨_,_,fr,ps,as,body,n⟩)=>
  if args.length=ps.size&&ps.toList.all (fun t=>decide (t<n))&&qM P g n as&&qM P g n body then
   match zBx P inv g n fuel (some id) env as ((TF.of fr 8).puts ps.toList args) h with
   |some (e1,fr1,h1)=>match e1 with
    | .normal=>match h1.at' id with
     |some (.loop L1)=>if L1.st= .ready then
       match zBx P inv g n fuel (some id) env body fr1 (h1.setO id (.loop { L1 with st:= .busy })) with
       |some (e,_,h2)=>match h2.at' id with
        |some (.loop L2)=>match e with
         | .normal=>some (.bool true,h2.setO id (.loop { L2 with st:= .ready,pending:=none }))
         | .ret=>some (.bool false,h2.setO id (.loop { L2 with st:= .done,pending:=some .ret }))
         | .exit i=>some (.bool false,h2.setO id (.loop { L2 with st:= .done,pending:=some (.exit i) }))
         |_=>none
        |_=>none
       |none=>none
      else none
     |_=>none
    |_=>none
   |none=>none
  else none
 |_=>none
def zcz (P:Program) (inv:Inv) (g:Cfg) (fuel:Nat) (env:Env) (fn:Func) (args:List D) (h:HT):VT:=
 match fn.body with
 |none=>none
 |some co=>if decide (args.length≤fn.ntmps) then
   match zBx P inv g fn.ntmps fuel none env co (TF.of (zIi args) 8) h with
   |some (e,fr',h')=>match e with
    | .normal=>(zAg P fr'.fr h'.heap fn.results.toList).map fun ds=>(zEK ds,h')
    | .ret=>(zAg P fr'.fr h'.heap fn.results.toList).map fun ds=>(zEK ds,h')
    |_=>none
   |none=>none
  else none
def zLj:Nat→D→HT→D×HT
 |0,d,h=>(d,h)
 |k+1,d,h=>match zIp d with
  |none=>(d,h)
  |some id=>match h.at' id with
   |some (.row cs)=>zLj k (frz id cs d) (h.delO id)
   |_=>(d,h)
theorem zA.settleT {P:Program} {f:FuncId} {args:List D} {h:Heap} :∀ (k:Nat) (d:D) (h':HT),zA P f args h (fun a b=>a=d∧b=h'.heap)→zA P f args h fun a b=>a=(V.zLj k d h').1∧b=(V.zLj k d h').2.heap
 |0,d,h',hv=>hv
 |k+1,d,h',hv=>by
  unfold V.zLj;split
  ·exact hv
  ·rename_i id _;split
   ·rename_i cs hi;refine zA.settleT k _ _ (zA.freezeD (hv.mono fun a b hab=> ?_));obtain⟨rfl,rfl⟩:=hab;exact⟨id,cs,hi,rfl,by rw[HT.delO_heap]⟩
   ·exact hv
def zVh (b:Bool) (r:VT):VT:=
 match b with
 |false=>r
 |true=>match r with
  |some (d,h)=>some (yI (zLj 64 d h).1,(zLj 64 d h).2)
  |none=>none
theorem zA.settleR {P:Program} {f:FuncId} {args:List D} {h:Heap} {b:Bool} {r:VT} {d:D} {h':HT} (hr:V.zVh b r=some (d,h')) (hv:∀d h',r=some (d,h')→zA P f args h fun a b=>a=d∧b=h'.heap):zA P f args h fun a b=>a=d∧b=h'.heap:=by
 cases b with
 |false=>exact hv d h' hr
 |true=>
  simp only[V.zVh] at hr;cases r with
  |none=>cases hr
  |some x=>
   obtain⟨d1,h1⟩:=x;cases hr;exact zA.strip ((zA.settleT 64 d1 h1 (hv d1 h1 rfl)).mono fun a b hab=>by rw[hab.1,hab.2];exact⟨rfl,rfl⟩)
def zIq {α:Type} :List (Nat×α)→Nat→Option α
 | [],_=>none
 |(k,x)::l,n=>match Nat.beq k n with
  |true=>some x
  |false=>zIq l n
def zY (P:Program) (g:Cfg) (fn:Func):Bool:=(match fn.body with
 |some co=>qM P g fn.ntmps co
 |none=>true)&& !(fn.name== "runtime.NumGoroutine")
def zEQ (P:Program):List (Nat× (Func×Cfg))→Prop
 | []=>True
 |(k,x)::l=>(P.funcs[k]? =some x.1∧zY P x.2 x.1=true)∧zEQ P l
theorem zJ8 {P:Program} :∀ {l:List (Nat× (Func×Cfg))},zEQ P l→∀g x,zIq l g=some x→P.funcs[g]? =some x.1∧zY P x.2 x.1=true
 | [],_,_,_,h=>by cases h
 |(k,x)::l,hg,g,y,h=>by
  simp only[zIq] at h;split at h
  ·rename_i hb;cases h;rw[←Nat.eq_of_beq_eq_true hb];exact hg.1
  ·exact zJ8 hg.2 g y h
def zUE (b:Bool) (as:List D):List D:=match b with
 |true=>yS as
 |false=>as
theorem zA.stripA {P:Program} {f:FuncId} {b:Bool} {args:List D} {h:Heap} {Q:D→Heap→Prop} (hv:zA P f (V.zUE b args) h Q):zA P f args h Q:=by
 cases b with
 |false=>exact hv
 |true=>exact⟨hv.1,fun w0 G M ρ w va hg0 hs hfr hr=>hv.2 w0 G M ρ w va hg0 hs hfr (zAS _ _ _ _ hr)⟩
abbrev zPh:=Option (D×Option (Nat×Obj))
def zZI (u:Option (Nat×Obj)) (h:Heap):Heap:=
 match u with
 |none=>h
 |some x=>h.set x.1 x.2
def HT.updO (h:HT) (u:Option (Nat×Obj)):HT:=
 match u with
 |none=>h
 |some x=>h.setO x.1 x.2
theorem HT.updO_heap (h:HT) (u:Option (Nat×Obj)):(h.updO u).heap=V.zZI u h.heap:=by
 cases u with
 |none=>rfl
 |some x=>exact h.setO_heap x.1 x.2
def zJ9 (o:Option D):zPh:=
 match o with
 |some d=>some (d,none)
 |none=>none
def zBy (P:Program) (tab:List (Nat× (Func×Cfg))) (sett:FuncId→Bool) (ext:FuncId→List D→(Nat→Option Obj)→zPh) (fuel:Nat):Nat→Inv
 |0,_,_,_,_=>none
 |k+1,env,f,args,h=>match f with
  | .fn (.func g) first cap=>match ext g (zUE (sett g) (first++args++cap)) h.at' with
   |some r=>some (r.1,h.updO r.2)
   |none=>match zIq tab g with
    |some x=>zVh (sett g) (zcz P (zBy P tab sett ext fuel k) x.2 fuel env x.1 (zUE (sett g) (first++args++cap)) h)
    |none=>none
  | .yld id=>match zZH env id with
   |some g=>zPg P (zBy P tab sett ext fuel k) g fuel env id args h
   |none=>none
  |_=>none
section
variable {P:Program} {inv:Inv} {g:Cfg} {n fuel:Nat} {env:Env}
def zHJ (P:Program) (inv:Inv):Prop:=∀env f args h d h',inv env f args h=some (d,h')→zHc P f args h.heap fun a b=>a=d∧b=h'.heap
theorem zMo {t:TypeId} {a d:D} {h h':Heap} (hle:HLe h h') (hv:zA9 P t a h=some d):zA9 P t a h'=some d:=by
 unfold zA9 at hv⊢;split at hv
 ·cases hv
 ·split at hv
  ·exact hv
  ·rename_i id off;cases ho:h.at' id with
   |none=>rw[ho] at hv;cases hv
   |some ob=>
    rw[ho] at hv;rw[hle id ob ho];exact hv
  ·cases hv
theorem zOI {t:TypeId} {m k d:D} {ok:Bool} {h h':Heap} (hle:HLe h h') (hv:wD P t m k ok h=some d):wD P t m k ok h'=some d:=by
 have key:∀es,zIO m h=some es→zIO m h'=some es:=fun es he=>by
  unfold zIO at he⊢;split at he
  ·exact he
  ·rename_i id;cases ho:h.at' id with
   |none=>rw[ho] at he;cases he
   |some ob=>
    rw[ho] at he;rw[hle id ob ho];exact he
  ·cases he
 unfold wD at hv⊢;cases h1:zO7 P t with
 |none=>rw[h1] at hv;cases hv
 |some x=>
  rw[h1] at hv;obtain⟨kt,e⟩:=x;simp only at hv⊢;cases h2:zO1 P kt with
  |none=>rw[h2] at hv;cases hv
  |some y=>
   rw[h2] at hv;obtain⟨ag,ks⟩:=y;simp only at hv⊢;cases h3:qK P e with
   |none=>rw[h3] at hv;cases hv
   |some z=>
    rw[h3] at hv;simp only at hv⊢;cases h4:zIO m h with
    |none=>rw[h4] at hv;cases hv
    |some es=>
     rw[h4] at hv;rw[key _ h4];exact hv
theorem zOJ {t:TypeId} {x d:D} {lo hi mx:Option D} {h h':Heap} (hle:HLe h h') (hv:yR P t x lo hi mx h=some d):yR P t x lo hi mx h'=some d:=by
 unfold yR at hv⊢;split at hv
 ·split at hv
  ·unfold zIN at hv⊢;split at hv
   ·rename_i hc;rw[if_pos hc];split at hv
    ·cases hv
    ·split at hv
     ·rename_i id off;cases ho:h.at' id with
      |none=>rw[ho] at hv;cases hv
      |some ob=>
       rw[ho] at hv;simp only[hle id ob ho];exact hv
     ·exact hv
     ·cases hv
   ·cases hv
  ·cases hv
 ·exact hv
theorem zDc {m:Bool} {nid:Nat} {o:Op} {ev:Operand→D} {h:Heap} {K:D→Heap→Prop} {f:Operand} {args:List Operand} (hc:yr o=some (f,args)):qW P m nid o ev h K=zHc P (ev f) (args.map ev) h K:=by
 unfold qW;rw[hc]
theorem zCY {m:Bool} {nid:Nat} {o:Op} {ev:Operand→D} {h h':Heap} {d:D} {K:D→Heap→Prop} (hc:yr o=none) (hv:vop P m nid o ev h=some (d,h')):qW P m nid o ev h K=K d h':=by
 unfold qW;rw[hc];simp only;rw[hv]
theorem zHq {m:Bool} {o:Op} {ev:Operand→D} {h h':HT} {d:D} {K:D→Heap→Prop} (hi:zHJ P inv) (hx:zb3 P (inv env) m o ev h=some (d,h')) (hk:K d h'.heap):qW P m h.heap.next o ev h.heap K:=by
 unfold zb3 at hx;cases hc:yr o with
 |some r=>
  obtain⟨f,args⟩:=r;rw[hc] at hx;rw[zDc hc];exact zHc.mono (fun a b hab=>by rw[hab.1,hab.2];exact hk) (hi _ _ _ _ _ _ hx)
 |none=>
  rw[hc] at hx;simp only at hx;rw[zCY (nid:=h.heap.next) hc (zPb hx)];exact hk
theorem zOK {S:List Nat} {h:Heap} {j:Nat} (hj:j∉S):(zE9 S h).at' j=HT.emp.at' j:=by
 have h1:HT.emp.at' j=none:=by
  have:=congrArg (fun x=>Heap.at' x j) HT.emp_heap;exact this
 rw[h1];simp[zE9,hj]
mutual
theorem zo {j k:Nat} (hjk:j≤k):∀d:D,below j d→below k d
 | .bool _,_=>trivial
 | .int _ _,_=>trivial
 | .str _,_=>trivial
 | .nilptr,_=>trivial
 | .ptr _ _,h=>Nat.lt_of_lt_of_le h hjk
 | .iptr cs _,h=>wF hjk cs h
 | .nilsl,_=>trivial
 | .sl _ xs tk,h=>by
  simp only[below] at h⊢;refine⟨zGA hjk xs h.1,?_⟩;have h2:=h.2;cases tk with
  |own t=>exact Nat.lt_of_lt_of_le h2 hjk
  |_=>trivial
 | .rs _ _ _ _,h=>Nat.lt_of_lt_of_le h hjk
 | .nilmap,_=>trivial
 | .map _,h=>Nat.lt_of_lt_of_le h hjk
 | .fn _ a c,h=>⟨wF hjk a h.1,wF hjk c h.2⟩
 | .yld _,h=>Nat.lt_of_lt_of_le h hjk
 | .nilfn,_=>trivial
 | .agg cs,h=>wF hjk cs h
 | .tuple cs,h=>wF hjk cs h
 | .iface _ d,h=>zo hjk d h
 | .niliface,_=>trivial
theorem wF {j k:Nat} (hjk:j≤k):∀ds:List D,zz j ds→zz k ds
 | [],_=>trivial
 |d::ds,h=>⟨zo hjk d h.1,wF hjk ds h.2⟩
theorem zGA {j k:Nat} (hjk:j≤k):∀xs:List (List D),zBG j xs→zBG k xs
 | [],_=>trivial
 |x::xs,h=>⟨wF hjk x h.1,zGA hjk xs h.2⟩
end
theorem zHr {n:Nat} :∀ (ds:List D),zSX n ds=true→zz n ds
 | [],_=>trivial
 |d::ds,h=>by
  simp only[zSX,Bool.and_eq_true] at h;refine⟨?_,zHr ds h.2⟩;have h1:=h.1;split at h1
  ·simp only[below];rw[Nat.blt_eq] at h1;exact h1
  ·exact zo (Nat.zero_le _) _ (wl _ h1)
theorem zGB {h:Heap} {ids:List Nat} {i:Nat} {ob:Obj} (hr:zUD h ids=true) (hi:i∈ids) (ho:h.at' i=some ob):i<h.next∧∃cs,ob= .row cs∧zz 0 cs:=by
 have:=List.all_eq_true.1 hr i hi;simp only[Bool.and_eq_true] at this;refine⟨by have h1:=this.1;rw[Nat.blt_eq] at h1;exact h1,?_⟩;have h2:=this.2;rw[ho] at h2;split at h2
 ·rename_i cs hcs;cases hcs;exact⟨cs,rfl,yg _ h2⟩
 ·cases h2
theorem zIr {h:Heap} {h':Nat→Option Obj} {ids:List Nat} {i:Nat} {ob:Obj} (hr:zMn h h' ids=true) (hi:i∈ids) (ho:h.at' i=some ob):h' i=some ob:=by
 have:=List.all_eq_true.1 hr i hi;rw[ho] at this;split at this
 ·rename_i cs hcs;cases hcs;split at this
  ·rename_i cs' hcs';rw[hcs',zEP _ _ this]
  ·cases this
 ·cases this
theorem zGC {o:Op} {ev:Operand→D} {h:Heap} {d:D} (hi:zHJ P inv) (hx:zSY P (inv env) o ev h=some d):zT7 P h o ev d:=by
 intro h' hle;unfold zSY at hx;cases hc:yr o with
 |some r=>
  obtain⟨f,args⟩:=r;rw[hc] at hx;rw[zDc hc];simp only at hx;split at hx
  ·rename_i g a c hf;split at hx
   ·rename_i hb;split at hx
    ·rename_i d0 h0 hr;split at hx
     ·rename_i hd;cases hx;have:=hi _ _ _ _ _ _ hr;rw[hf,HT.emp_heap] at this;rw[hf];exact(zA.frame (Q:=fun x=>x=z8 d0 h0.heap) (yg _ hb) (zA.mono (zA.settled_of this) fun x y hxy=>by rw[hxy];exact⟨wl _ hd,rfl⟩) h').mono fun x y hxy=>⟨hxy.2,hxy.1⟩
     ·cases hx
    ·cases hx
   ·split at hx
    ·rename_i hb;simp only[Bool.and_eq_true] at hb;split at hx
     ·rename_i d0 h0 hr;split at hx
      ·rename_i hd;simp only[Bool.and_eq_true] at hd;cases hx;have:=hi _ _ _ _ _ _ hr;rw[HT.upd_heap _ _ _ fun j hj=>zOK hj] at this;rw[hf] at this⊢;have hrest:∀i ob,(zE9 (zCo (a++args.map ev++c)) h).at' i=some ob→i∈zCo (a++args.map ev++c)∧h.at' i=some ob:=fun i ob e=>by
        simp only[zE9] at e;split at e
        ·rename_i hc;exact⟨by simpa using hc,e⟩
        ·cases e
       refine(zA.frameAt (Q:=fun x=>x=d) (h1:=zE9 (zCo (a++args.map ev++c)) h) (zHr _ hb.1) (fun i ob e=> ?_) (fun i ob e=> ?_) (zA.mono this fun x y hxy=> ?_) h' fun i ob e=>hle i ob (hrest i ob e).2).mono fun x y hxy=>⟨hxy.2,hxy.1⟩
       ·exact(zGB hb.2 (hrest i ob e).1 (hrest i ob e).2).1
       ·exact(zGB hb.2 (hrest i ob e).1 (hrest i ob e).2).2
       ·obtain⟨rfl,rfl⟩:=hxy;exact⟨fun i ob e=>zIr hd.2 (hrest i ob e).1 (hrest i ob e).2,wl _ hd.1,rfl⟩
      ·cases hx
     ·cases hx
    ·cases hx
  ·cases hx
 |none=>
  rw[hc] at hx;simp only at hx;split at hx
  ·rename_i hs;cases hvop:vop P false h.next o ev h with
   |none=>rw[hvop] at hx;cases hx
   |some r=>
    rw[hvop] at hx;cases hx;rcases Bool.or_eq_true _ _▸hs with hs|hs
    ·obtain⟨r',hr⟩:=zAR (P:=P) (ev:=ev) hs;rw[hr] at hvop;cases r' with
     |none=>cases hvop
     |some x=>
      cases hvop;rw[zCY hc (hr h'.next h')];exact⟨rfl,rfl⟩
    ·cases o<;>simp only[zAF] at hs<;>(try (cases hs;done))<;>simp only[vop] at hvop
     ·rename_i t a _;cases hl:zA9 P t (ev a) h with
      |none=>rw[hl] at hvop;cases hvop
      |some x=>
       rw[hl] at hvop;cases hvop;rw[zCY (d:=x) (h':=h') hc (by simp only[vop,zMo hle hl,Option.map_some])];exact⟨rfl,rfl⟩
     ·rename_i t x lo hi mx _;cases hl:yR P t (ev x) (lo.map ev) (hi.map ev) (mx.map ev) h with
      |none=>rw[hl] at hvop;cases hvop
      |some y=>
       rw[hl] at hvop;cases hvop;rw[zCY (d:=y) (h':=h') hc (by simp only[vop,zOJ hle hl,Option.map_some])];exact⟨rfl,rfl⟩
     ·rename_i t m k ok _;cases hl:wD P t (ev m) (ev k) ok h with
      |none=>rw[hl] at hvop;cases hvop
      |some x=>
       rw[hl] at hvop;cases hvop;rw[zCY (d:=x) (h':=h') hc (by simp only[vop,zOI hle hl,Option.map_some])];exact⟨rfl,rfl⟩
  ·cases hx
theorem zPi {m:Bool} {nid:Nat} {o:Op} {ev:Operand→D} {h:Heap} {d:D} (hc:(yr o).isSome=true) (hs:zT7 P h o ev d):qW P m nid o ev h fun d' h'=>d'=d∧h'=h:=by
 obtain⟨r,hr⟩:=Option.isSome_iff_exists.1 hc;obtain⟨f,args⟩:=r;have:=hs h fun _ _ e=>e;rw[zDc hr] at this⊢;exact this
theorem zER {mu:Tmp→Bool} {ops:Array Oper} (hi:zHJ P inv) {K:Frm→Heap→Prop} {Q:Exit→Frm→Heap→Prop} (hq:Q .normal=K):∀ (l:List Oper) (fr:TF) (h:HT) (e:Exit) (fr':TF) (h':HT),zZD P (inv env) mu ops l fr h=some (e,fr',h')→Q e fr'.fr h'.heap→
  zG9 P mu ops l K fr.fr h.heap
 | [],fr,h,e,fr',h',hx,hk=>by
  cases hx;rw[hq] at hk;exact hk
 |o::rest,fr,h,e,fr',h',hx,hk=>by
  simp only[zZD] at hx;simp only[zG9];cases hg:yi ops fr.fr o.guard with
  |true=>
   rw[hg] at hx;simp only at hx⊢;split at hx
   ·rename_i hx1;refine zHq hi hx1 ?_;rw[←TF.fr_putO];exact zER hi hq rest _ _ e fr' h' hx hk
   ·cases hx
  |false=>
   rw[hg] at hx;simp only at hx⊢;rw[←TF.fr_putO];exact zER hi hq rest _ _ e fr' h' hx hk
theorem HT.dels_at (h:HT) (j:Nat):∀is:List Nat,(h.dels is).at' j=if j∈is then none else h.at' j
 | []=>by simp[HT.dels]
 |i::is=>by
  simp only[HT.dels,HT.delO,HT.put_at,HT.dels_at h j is,List.mem_cons];by_cases hj:j=i
  ·subst hj;simp
  ·simp[hj]
theorem HT.dels_next (h:HT):∀is:List Nat,(h.dels is).next=h.next
 | []=>rfl
 |i::is=>by simp only[HT.dels,HT.delO,HT.put_next,HT.dels_next h is]
theorem HT.puts_next (h:HT) (h':Heap):∀is:List Nat,(h.puts h' is).next=h.next
 | []=>rfl
 |i::is=>by simp only[HT.puts,HT.put_next,HT.puts_next h h' is]
theorem zEr {f d:D} {args:List D} {h h':HT} {S:List Nat} {K:D→Heap→Prop} (hi:zHJ P inv) (hx:zPd (inv env) f args h S=some (d,h')) (hk:K d h'.heap):zHc P f args h.heap K∧∀i∈S,∀ob,h.at' i=some ob→h'.at' i=some ob:=by
 unfold zPd at hx;split at hx
 ·rename_i g a c;split at hx
  ·rename_i d0 h1 hr;cases hx;refine⟨?_,fun i hiS ob ho=> ?_⟩
   ·have hv:=hi _ _ _ _ _ _ hr;simp only[zHc] at hv⊢
    let h2:Nat→Option Obj:=fun i=>if i∈zDb h S then h.at' i else none
    have hh:h.heap=(h.dels (zDb h S)).heap.plus h2:=by
     unfold Heap.plus HT.heap;simp only[HT.dels_next];congr 1
     funext i
     simp only[HT.dels_at,h2];by_cases hm:i∈zDb h S<;>simp[hm]
    rw[hh];refine(zA.plus h2 (fun i ob e=> ?_) hv).mono fun a b hab=> ?_
    ·simp only[h2] at e;split at e
     ·rename_i hm;show(h.dels _).at' i=none;rw[HT.dels_at,if_pos hm]
     ·cases e
    ·obtain⟨h1',⟨rfl,rfl⟩,rfl,hn⟩:=hab
     have:(h1.puts h.heap (zDb h S)).heap=h1.heap.plus h2:=by
      unfold Heap.plus HT.heap;simp only[HT.puts_next];congr 1
      funext i
      rw[HT.puts_at];simp only[h2];by_cases hm:i∈zDb h S
      ·simp only[if_pos hm];have hlive:(h.at' i).isSome=true:=by
        unfold zDb at hm;exact(List.mem_filter.1 hm).2
       obtain⟨ob,ho⟩:=Option.isSome_iff_exists.1 hlive;have:=hn i ob (by simp only[h2];rw[if_pos hm];exact ho);have this:h1.at' i=none:=this;rw[this];rfl
      ·simp[hm]
     rw[this] at hk;exact hk
   ·rw[HT.puts_at,if_pos]
    ·exact ho
    ·unfold zDb;exact List.mem_filter.2 ⟨hiS,by simp[ho]⟩
  ·cases hx
 ·cases hx
theorem qj {mu:Tmp→Bool} {S:List Nat} {h0:Heap} (h0s:∀i ob,h0.at' i=some ob→i∈S) {bk:Nat→Bool} {ops:Array Oper} (hi:zHJ P inv) {K:Frm→Heap→Prop} {Q:Exit→Frm→Heap→Prop} (hq:Q .normal=K):∀ (l:List (Nat×Fl)) (fl:Bool) (fr:TF) (h:HT) (e:Exit) (fr':TF) (h':HT),(fl=true→HLe h0 h.heap)→
  zHI P (inv env) mu S h0 bk ops fl l fr h=some (e,fr',h')→Q e fr'.fr h'.heap→w7 P mu h0 bk ops fl l K fr.fr h.heap
 | [],fl,fr,h,e,fr',h',hf,hx,hk=>by
  cases hx;rw[hq] at hk;exact hk
 |(i,st)::rest,fl,fr,h,e,fr',h',hf,hx,hk=>by
  simp only[zHI] at hx;simp only[w7];have hf':(fl&& !bk i)=true→HLe h0 h.heap:=fun hb=>hf (by simp only[Bool.and_eq_true] at hb;exact hb.1);cases ho:ops[i]? with
  |none=>rw[ho] at hx;cases hx
  |some o=>
   rw[ho] at hx;simp only at hx⊢;unfold ux;cases hg:yi ops fr.fr o.guard with
   |false=>
    rw[hg] at hx;simp only at hx⊢;rw[←TF.fr_putO];exact⟨hf',qj h0s hi hq rest _ _ _ e fr' h' hf' hx hk⟩
   |true=>
    rw[hg] at hx;simp only at hx⊢;cases st with
    |al k=>simp only at hx;cases hx
    |qu=>
     simp only at hx⊢;split at hx
     ·rename_i hc;split at hx
      ·rename_i d hs;refine zAe ?_ (zPi hc (zGC hi hs));rintro d' h' ⟨rfl,rfl⟩;refine⟨rfl,hf',?_⟩;rw[←TF.fr_putO];exact qj h0s hi hq rest _ _ _ e fr' _ hf' hx hk
      ·cases hx
     ·cases hx
    |st=>
     simp only at hx⊢;split at hx
     ·rename_i d hs;refine⟨d,zGC hi hs,hf',?_⟩;rw[←TF.fr_putO];exact qj h0s hi hq rest _ _ _ e fr' h' hf' hx hk
     ·cases hx
    |no=>
     simp only at hx⊢;cases hfl:(fl&& !bk i) with
     |true=>
      rw[hfl] at hx;simp only at hx;have hle:=hf' hfl;cases hc:yr o.op with
      |none=>
       rw[hc] at hx;simp only at hx;split at hx
       ·rename_i hst;split at hx
        ·rename_i d h1 hv;rw[zCY (nid:=h.heap.next) hc hv];have hup:=h.upd_heap h1 (y8 o.op (zw fr.fr) h.next) fun j hj=>zIo hv hj;have hle1:HLe h0 h1:=by
          rcases Bool.or_eq_true _ _▸hst with hst|hst
          ·obtain⟨r,hr⟩:=zAR (P:=P) (ev:=zw fr.fr) hst;rw[hr] at hv;cases r with
           |none=>cases hv
           |some r=>cases hv;exact hle
          ·simp only[List.all_eq_true,Bool.not_eq_true',List.contains_eq_mem,decide_eq_false_iff_not] at hst;intro i ob e;rw[zIo hv fun hj=>hst i hj (h0s i ob e)];exact hle i ob e
         refine⟨fun _=>hle1,?_⟩;rw[←TF.fr_putO,←hup];exact qj h0s hi hq rest _ _ _ e fr' h' (fun _=>by rw[hup];exact hle1) hx hk
        ·cases hx
       ·cases hx
      |some r=>
       obtain⟨f,args⟩:=r;rw[hc] at hx;simp only at hx;split at hx
       ·rename_i d h1 hb;rw[zDc hc];have hle1:HLe h0 h1.heap:=fun i ob e=>(zEr (K:=fun _ _=>True) hi hb trivial).2 i (h0s i ob e) ob (hle i ob e);refine(zEr hi hb ?_).1;refine⟨fun _=>hle1,?_⟩;rw[←TF.fr_putO];exact qj h0s hi hq rest _ _ _ e fr' h' (fun _=>hle1) hx hk
       ·cases hx
     |false=>
      rw[hfl] at hx;simp only at hx;split at hx
      ·rename_i d h1 hx1;refine zHq hi hx1 ⟨fun hft=>(by cases hft),?_⟩;rw[←TF.fr_putO];exact qj h0s hi hq rest _ _ _ e fr' h' (fun hft=>by cases hft) hx hk
      ·cases hx
theorem zHs {mu:Tmp→Bool} {h0:Heap} {bk:Nat→Bool} {ops:Array Oper} {K:Frm→Heap→Prop} :∀ (l:List (Nat×Fl)) (fr:Frm) (h:Heap),w7 P mu h0 (fun _=>false) ops false l K fr h→w7 P mu h0 bk ops false l K fr h
 | [],_,_,hv=>hv
 |(i,st)::rest,fr,h,hv=>by
  simp only[w7,Bool.false_and] at hv⊢;split
  ·rename_i ho;rw[ho] at hv;exact hv
  ·rename_i o ho;rw[ho] at hv;exact zEH (fun d h' hx=>⟨hx.1,zHs rest _ _ hx.2⟩) hv
theorem zIs {mu:Tmp→Bool} {ops:Array Oper} {l:List (Nat×Fl)} (hi:zHJ P inv) {K:Frm→Heap→Prop} {Q:Exit→Frm→Heap→Prop} (hq:Q .normal=K) {fr:TF} {h:HT} {e:Exit} {fr':TF} {h':HT} (hx:zLi P (inv env) mu ops l fr h=some (e,fr',h')) (hk:Q e fr'.fr h'.heap):
  ∃h0,HLe h0 h.heap∧zCk P mu h0 (zSF P mu ops l (zE7 ops.toList 0 [])) ops (l.any (·.2.isSt)) l K fr.fr h.heap:=by
 have hr:∀S,HLe (zE9 S h.heap) h.heap:=fun S i ob e=>by
  simp only[zE9] at e;split at e
  ·exact e
  ·cases e
 have hs:∀S i ob,(zE9 S h.heap).at' i=some ob→i∈S:=fun S i ob e=>by
  simp only[zE9] at e;split at e
  ·rename_i hc;simpa using hc
  ·cases e
 unfold zLi at hx;cases hal:alN l with
 |succ m=>rw[hal] at hx;cases hx
 |zero=>
 rw[hal] at hx;simp only[zDT hal];simp only at hx;split at hx
 ·rename_i hany;rw[hany];exact⟨_,hr [],zHs _ _ _ (qj (hs []) hi hq _ _ _ _ _ _ _ (fun e=>by cases e) hx hk)⟩
 ·rename_i hany;rw[hany];exact⟨_,hr _,qj (hs _) hi hq _ _ _ _ _ _ _ (fun _=>hr _) hx hk⟩
theorem zOL {ro:Option Nat} {c:Code} {b:TF→HT→XR} {Q:Exit→Frm→Heap→Prop} (hb:∀fr h e fr' h' Q,b fr h=some (e,fr',h')→Q e fr'.fr h'.heap→vwp P g n ro c Q fr.fr h.heap) {fr:TF} {h:HT} {e:Exit} {fr':TF} {h':HT} {k:Nat} (hx:zZG b k fr h=some (e,fr',h')) (hq:Q e fr'.fr h'.heap):
  vwp P g n ro (.loop c) Q fr.fr h.heap:=by
 simp only[vwp];refine⟨fun k f0 h0=>∃fr h,fr.fr=f0∧h.heap=h0∧zZG b k fr h=some (e,fr',h'),⟨k,fr,h,rfl,rfl,hx⟩,fun k f0 h0 hk=> ?_⟩;obtain⟨fr,h,rfl,rfl,hk⟩:=hk;cases k with
 |zero=>cases hk
 |succ k=>
  simp only[zZG] at hk;split at hk
  ·cases hk
  ·rename_i e1 fr1 h1 hb1;refine hb _ _ _ _ _ _ hb1 ?_;split at hk
   ·exact⟨k,by omega,fr1,h1,rfl,rfl,hk⟩
   ·rename_i hne;cases hk;cases e with
    |normal=>exact absurd rfl hne
    |_=>exact hq
theorem y9 (hi:zHJ P inv):∀ (co:Code) (ro:Option Nat) (Q:Exit→Frm→Heap→Prop) (fr:TF) (h:HT) (e:Exit) (fr':TF) (h':HT),zBx P inv g n fuel ro env co fr h=some (e,fr',h')→Q e fr'.fr h'.heap→vwp P g n ro co Q fr.fr h.heap
 | .skip,ro,Q,fr,h,e,fr',h',hx,hq=>by cases hx;exact hq
 | .exit id,ro,Q,fr,h,e,fr',h',hx,hq=>by cases hx;exact hq
 | .ret,ro,Q,fr,h,e,fr',h',hx,hq=>by cases hx;exact hq
 | .region id ops draw,ro,Q,fr,h,e,fr',h',hx,hq=>by
  simp only[zBx] at hx;simp only[vwp];split at hx
  ·exact zER hi rfl _ _ _ _ _ _ hx hq
  ·exact zIs hi rfl hx hq
 | .seq a b,ro,Q,fr,h,e,fr',h',hx,hq=>by
  simp only[zBx] at hx;simp only[vwp];split at hx
  ·cases hx
  ·rename_i e1 fr1 h1 hx1;refine y9 hi a ro _ _ _ _ _ _ hx1 ?_;split at hx
   ·exact y9 hi b ro Q _ _ _ _ _ hx hq
   ·rename_i hne;cases hx;cases e with
    |normal=>exact absurd rfl hne
    |_=>exact hq
 | .cond c a b,ro,Q,fr,h,e,fr',h',hx,hq=>by
  simp only[zBx] at hx;simp only[vwp];split at hx
  ·rename_i hc;rw[hc];split at hx
   ·exact y9 hi a ro Q _ _ _ _ _ hx hq
   ·exact y9 hi b ro Q _ _ _ _ _ hx hq
  ·cases hx
 | .block id c,ro,Q,fr,h,e,fr',h',hx,hq=>by
  simp only[zBx] at hx;simp only[vwp];split at hx
  ·cases hx
  ·rename_i e1 fr1 h1 hx1;refine y9 hi c ro _ _ _ _ _ _ hx1 ?_;split at hx
   ·split at hx
    ·rename_i hid;cases hx;simp only[zDV,if_pos hid];exact hq
    ·rename_i hid;cases hx;simp only[zDV,if_neg hid];exact hq
   ·rename_i hne;cases hx;cases e with
    |exit i=>exact absurd rfl (hne i)
    |_=>exact hq
 | .loop c,ro,Q,fr,h,e,fr',h',hx,hq=>by
  simp only[zBx] at hx;exact zOL (fun fr h e fr' h' Q hx hq=>y9 hi c ro Q fr h e fr' h' hx hq) hx hq
 | .rangeFunc f ps as body,ro,Q,fr,h,e,fr',h',hx,hq=>by
  simp only[zBx] at hx;simp only[vwp];split at hx
  ·rename_i hro;refine⟨?_,?_⟩
   ·cases ro with
    |none=>trivial
    |some id=>
     simp only[roB] at hro⊢;split at hro
     ·rename_i r hr;exact⟨r,hr⟩
     ·cases hro
   ·split at hx
    ·rename_i g' first cap hf
     rw[hf];split at hx
     ·cases hx
     ·rename_i d1 h1 hinv;have:=hi _ _ _ _ _ _ hinv;rw[HT.newO_heap] at this;refine zA.mono this fun a b hab=> ?_;obtain⟨_,rfl⟩:=hab;split at hx
      ·rename_i r hr;refine⟨r,hr,?_⟩;split at hx
       ·cases hx
       ·rename_i hst;refine⟨hst,?_⟩;show zJ2 r.pending Q fr.fr (h1.heap.del h.next);rw[←HT.delO_heap];split at hx
        ·rename_i hp;cases hx;rw[hp];exact hq
        ·rename_i c hp;rw[hp];split at hx
         ·cases hx;exact hq
         ·cases hx;exact hq
         ·cases hx
      ·cases hx
    ·cases hx
  ·cases hx
 | .label _,ro,Q,fr,h,e,fr',h',hx,hq=>by cases hx;exact hq
 | .goto _,_,_,_,_,_,_,_,hx,_=>by cases hx
 | .scope c,ro,Q,fr,h,e,fr',h',hx,hq=>by
  simp only[zBx] at hx;simp only[vwp];split at hx
  ·cases hx
  ·rename_i e1 fr1 h1 hx1;refine y9 hi c ro _ _ _ _ _ _ hx1 ?_;split at hx
   ·cases hx
   ·rename_i hne;cases hx;cases e with
    |goto l=>exact absurd rfl (hne l)
    |_=>exact hq
 | .refuse ..,_,_,_,_,_,_,_,hx,_=>by cases hx
theorem zKA (hmix:P.follows .mixedOrders=true) (hi:zHJ P inv) {id:Nat} {args:List D} {h h':HT} {d:D} (hx:zPg P inv g fuel env id args h=some (d,h')):qR P id args h.heap fun a b=>a=d∧b=h'.heap:=by
 unfold zPg at hx;split at hx
 ·rename_i st pe fr ps as body n hL;split at hx
  ·rename_i hc;simp only[Bool.and_eq_true,decide_eq_true_eq] at hc;obtain⟨⟨⟨c1,c2⟩,c3⟩,c4⟩:=hc;refine qR.of_round (h:=h.heap) hmix hL c1 c2 c3 c4 ?_;split at hx
   ·rename_i e1 fr1 h1 hx1;rw[←TF.of_fr fr 8,←TF.fr_puts];refine y9 hi as (some id) _ _ _ _ _ _ hx1 ?_;split at hx
    ·split at hx
     ·rename_i L1 hL1;split at hx
      ·rename_i hst;refine⟨L1,hL1,hst,?_⟩;rw[←HT.setO_heap];split at hx
       ·rename_i e fr2 h2 hx2;refine y9 hi body (some id) _ _ _ _ _ _ hx2 ?_;split at hx
        ·rename_i L2 hL2;refine⟨L2,hL2,?_⟩;unfold zIh;split at hx
         ·cases hx;exact⟨rfl,by rw[HT.setO_heap]⟩
         ·cases hx;exact⟨rfl,by rw[HT.setO_heap]⟩
         ·cases hx;exact⟨rfl,by rw[HT.setO_heap]⟩
         ·cases hx
        ·cases hx
       ·cases hx
      ·cases hx
     ·cases hx
    ·cases hx
   ·cases hx
  ·cases hx
 ·cases hx
theorem zOM (hmix:P.follows .mixedOrders=true) (hi:zHJ P inv) {f:FuncId} {fn:Func} (hf:P.funcs[f]? =some fn) (hok:zY P g fn=true) {args:List D} {h h':HT} {d:D} (hx:zcz P inv g fuel env fn args h=some (d,h')):zA P f args h.heap fun a b=>a=d∧b=h'.heap:=by
 unfold zcz at hx;unfold zY at hok;split at hx
 ·cases hx
 ·rename_i co hb;rw[hb] at hok;simp only[Bool.and_eq_true,Bool.not_eq_true'] at hok;split at hx
  ·rename_i hc;simp only[decide_eq_true_eq] at hc;refine zA.of_body hmix hf hb hok.2 hok.1 hc ?_;split at hx
   ·rename_i e fr' h1 hx1;rw[←TF.of_fr (zIi args) 8];refine y9 hi co none _ _ _ _ _ _ hx1 ?_;unfold zUB;split at hx
    ·refine⟨trivial,?_⟩;cases hr:zAg P fr'.fr h1.heap fn.results.toList with
     |none=>rw[hr] at hx;cases hx
     |some ds=>rw[hr] at hx;cases hx;exact⟨rfl,rfl⟩
    ·refine⟨trivial,?_⟩;cases hr:zAg P fr'.fr h1.heap fn.results.toList with
     |none=>rw[hr] at hx;cases hx
     |some ds=>rw[hr] at hx;cases hx;exact⟨rfl,rfl⟩
    ·cases hx
   ·cases hx
  ·cases hx
end
theorem zES {P:Program} (hmix:P.follows .mixedOrders=true) {tab:List (Nat× (Func×Cfg))} (htab:zEQ P tab) {sett:FuncId→Bool} {ext:FuncId→List D→(Nat→Option Obj)→zPh}
  (hext:∀g args (h:Heap) r,ext g args h.at'=some r→zA P g args h fun a b=>a=r.1∧b=zZI r.2 h) {fuel:Nat} :∀k,zHJ P (zBy P tab sett ext fuel k)
 |0=>fun env f args h d h' hx=>by cases hx
 |k+1=>fun env f args h d h' hx=>by
  simp only[zBy] at hx;split at hx
  ·rename_i g first cap
   simp only[zHc];split at hx
   ·rename_i d0 he;cases hx;rw[HT.updO_heap];exact zA.stripA (hext _ _ h.heap _ he)
   ·split at hx
    ·rename_i x hf;obtain⟨g1,g2⟩:=zJ8 htab _ _ hf;exact zA.stripA<|zA.settleR hx fun d h' hx=>zOM hmix (zES hmix htab hext k) g1 g2 hx
    ·cases hx
  ·rename_i id;simp only[zHc];split at hx
   ·exact zKA hmix (zES hmix htab hext k) hx
   ·cases hx
  ·cases hx
theorem zA.of_run {P:Program} (hmix:P.follows .mixedOrders=true) {tab:List (Nat× (Func×Cfg))} (htab:zEQ P tab) {sett:FuncId→Bool} {ext:FuncId→List D→(Nat→Option Obj)→zPh}
  (hext:∀g args (h:Heap) r,ext g args h.at'=some r→zA P g args h fun a b=>a=r.1∧b=zZI r.2 h) {fuel k:Nat} {f:FuncId} {args:List D} {d:D} (hb:wk args=true) (hd:zCn d=true)
  (hx:(zBy P tab sett ext fuel k [] (.fn (.func f) [] []) args HT.emp).map (fun r=>z8 r.1 r.2.heap)=some d) (h:Heap):zA P f args h fun a b=>b=h∧a=d:=by
 cases hr:zBy P tab sett ext fuel k [] (.fn (.func f) [] []) args HT.emp with
 |none=>rw[hr] at hx;cases hx
 |some r=>
  obtain⟨d',h'⟩:=r;rw[hr] at hx;have hd':z8 d' h'.heap=d:=by simpa using hx
  have:=zES hmix htab hext k _ _ _ _ _ _ hr;simp only[zHc,List.nil_append,List.append_nil] at this;rw[HT.emp_heap] at this;exact zA.frame (Q:=fun a=>a=d) (yg _ hb) ((zA.settled_of this).mono fun a b hab=>by rw[hab,hd'];exact⟨wl _ hd,rfl⟩) h
def zD (m:List Nat) (d:List (Nat×List (Nat×Fl))):Cfg:=⟨fun t=>List.contains (α:=Nat) m t,fun i=>(zIq (α:=List (Nat×Fl)) d i).getD []⟩
def nr (a:Nat):Nat→List (Nat×Fl)
 |0=>[]
 |n+1=>(a, .no)::nr (a+1) n
end Go.V
end
