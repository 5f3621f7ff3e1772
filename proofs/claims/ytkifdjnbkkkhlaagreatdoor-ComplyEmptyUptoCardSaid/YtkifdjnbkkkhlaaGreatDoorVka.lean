/- Contracts of the functions that find violations, at no licenses. No condition. -/
import Derived.Test.YtkifdjnbkkkhlaaGreatDoorVp
import Derived.Test.YtkifdjnbkkkhlaaGreatDoorVhE
set_option linter.unusedSimpArgs false
set_option linter.unusedVariables false
set_option linter.constructorNameAsVariable false
set_option linter.deprecated false
namespace Go.V
open Go.Proofs
set_option maxRecDepth 100000
set_option linter.unusedSimpArgs false

/-! Facts of a case. -/
structure Fact where
  kind : Int
  comp : List UInt8
  out : List UInt8
  rel : Int
  way : Int
  duty : Int
  chg : Bool
  e0 : D
  e1 : D
  e2 : D
  e3 : D
  list : D

def Fact.cells (f : Fact) : List D := [.int .i64 f.kind, .str f.comp, .str f.out, .int .i64 f.rel, .int .i64 f.way, .int .i64 f.duty, .bool f.chg, f.e0, f.e1, f.e2, f.e3, f.list]
def Fact.Ok (f : Fact) : Prop := f.cells.all D.flat = true
theorem Fact.len (f : Fact) : f.cells.length = 12 := rfl
def facts (l : List Fact) : List (List D) := l.map Fact.cells
theorem facts_length (l : List Fact) : (facts l).length = l.length := List.length_map ..
theorem facts_get {l : List Fact} {i : Nat} (h : i < l.length) : (facts l)[i]? = some l[i].cells := by simp [facts, h]

/-- The indices of the facts for which p holds, from k on. -/
def idxFrom (p : Fact → Bool) : List Fact → Nat → List Nat
  | [], _ => []
  | f :: fs, k => if p f then k :: idxFrom p fs (k + 1) else idxFrom p fs (k + 1)

theorem idxFrom_append (p : Fact → Bool) : ∀ (l m : List Fact) (k : Nat), idxFrom p (l ++ m) k = idxFrom p l k ++ idxFrom p m (k + l.length)
  | [], m, k => by simp [idxFrom]
  | f :: l, m, k => by
    simp only [List.cons_append, idxFrom, idxFrom_append p l m (k + 1), List.length_cons]
    rw [show k + 1 + l.length = k + (l.length + 1) by omega]
    split <;> simp

theorem idxFrom_lt (p : Fact → Bool) : ∀ (l : List Fact) (k : Nat), ∀ i ∈ idxFrom p l k, k ≤ i ∧ i < k + l.length
  | [], k, i, h => by simp [idxFrom] at h
  | f :: l, k, i, h => by
    simp only [idxFrom] at h
    have ih := idxFrom_lt p l (k + 1)
    split at h
    · rcases List.mem_cons.1 h with rfl | h
      · simp
      · have := ih i h; simp; omega
    · have := ih i h; simp; omega

/-- How many come before fact i. -/
def idxN (p : Fact → Bool) (l : List Fact) (i : Nat) : Nat := (idxFrom p (l.take i) 0).length

theorem idxN_no {p : Fact → Bool} {l : List Fact} {i : Nat} (h : i < l.length) (hp : p l[i] = false) : idxN p l (i + 1) = idxN p l i := by
  unfold idxN
  rw [List.take_succ_eq_append_getElem h, idxFrom_append]
  simp [idxFrom, hp]
theorem idxN_yes {p : Fact → Bool} {l : List Fact} {i : Nat} (h : i < l.length) (hp : p l[i] = true) : idxN p l (i + 1) = idxN p l i + 1 ∧ (idxFrom p l 0)[idxN p l i]? = some i := by
  constructor
  · unfold idxN
    rw [List.take_succ_eq_append_getElem h, idxFrom_append]
    simp [idxFrom, hp]
  · unfold idxN
    have e : l = l.take i ++ l[i] :: l.drop (i + 1) := by rw [List.getElem_cons_drop, List.take_append_drop]
    have e2 : idxFrom p l 0 = idxFrom p (l.take i) 0 ++ idxFrom p (l[i] :: l.drop (i + 1)) (0 + (l.take i).length) := by
      rw [← idxFrom_append, ← e]
    rw [e2, List.getElem?_append_right (Nat.le_refl _), Nat.sub_self]
    have e3 : (l.take i).length = i := by rw [List.length_take]; omega
    simp [idxFrom, hp, e3]
theorem idxN_end {p : Fact → Bool} {l : List Fact} : idxN p l l.length = (idxFrom p l 0).length := by
  unfold idxN; rw [List.take_length]

/-- The iterator of the facts of a kind for which a function holds. -/
def factsFn (sc : List D) (kind : Int) (hf : D) : D := .fn (.func 259) [] [.iptr [.iptr sc 0] 0, .iptr [.int .i64 kind] 0, .iptr [hf] 0]

theorem c_facts (sc : List D) (kind : Int) (hf : D) (h : Heap) (h1 : hf.notTuple = true) (h2 : hf.cells = [hf]) : VCall Tryz.prog 178 [.iptr sc 0, .int .i64 kind, hf] h fun r h' => h' = h ∧ r = factsFn sc kind hf := by
  refine VCall.of_fn (g := cfg178) mix Tryz.func178 ok178 rfl rfl ?_
  simp only [Tryz.f178, Option.getD_some]
  simp only [go_sem, Nat.reduceEqDiff, ↓reduceIte, mu178, h1, h2, show (D.iptr sc 0).notTuple = true from rfl, show (D.iptr sc 0).cells = [.iptr sc 0] from rfl, factsFn]

set_option maxHeartbeats 1000000 in
/-- (*state).facts's iterator. R: the objects that the function looks at. -/
theorem c_facts1 {x : D} {sc : List D} {fs : List Fact} {kind : Int} {hf : D} {q : Fact → Bool} (hsc : sc[4]? = some x) (hx : IsSl 12 (facts fs) x) (hl : fs.length ≤ 1048576) (hok : ∀ f ∈ fs, f.Ok)
    {id : Nat} {Y : Nat → (Nat → Prop) → Heap → Prop} {Z : (Nat → Prop) → Heap → Prop}
    (y : Yld Tryz.prog id (idxFrom (fun f => f.kind == kind && q f) fs 0).length (fun i => [.int .i64 ((idxFrom (fun f => f.kind == kind && q f) fs 0).getD i 0 : Nat)]) Y Z)
    {S R : Nat → Prop} {h : Heap} (hR : ∀ i, R i → i < h.next ∧ ¬ S i) (hq : ∀ f ∈ fs, ∀ h2 : Heap, (∀ i, R i → h2.at' i = h.at' i) → VInv Tryz.prog hf [.agg f.cells] h2 fun r h3 => h3 = h2 ∧ r = .bool (q f)) (hY : Y 0 S h) :
    VCall Tryz.prog 259 [.yld id, .iptr [.iptr sc 0] 0, .iptr [.int .i64 kind] 0, .iptr [hf] 0] h fun _ h' => ∃ S', (∀ j, S' j → S j ∨ h.next ≤ j) ∧ But S h h' ∧ (Y (idxFrom (fun f => f.kind == kind && q f) fs 0).length S' h' ∨ Z S' h') := by
  refine VCall.of_fn (g := cfg259) mix Tryz.func259 ok259 rfl rfl ?_
  simp only [Tryz.f259, Option.getD_some]
  have hll : ((facts fs).length : Int) = fs.length := by rw [facts_length]
  simp only [go_sem, Nat.reduceEqDiff, ↓reduceIte, vnilCheck, vpart_false, Nat.zero_add, hsc, vlen_sl hx Tryz.underlying25, hll]
  refine vwp_range (fun i fr h' => fr 0 = .yld id ∧ fr 2 = .iptr [.int .i64 kind] 0 ∧ fr 3 = .iptr [hf] 0 ∧ fr 10 = x ∧ fr 11 = .int .i64 fs.length ∧ fr 12 = .int .i64 (i : Int) ∧ ∃ S', (∀ j, S' j → S j ∨ h.next ≤ j) ∧ But S h h' ∧ Y (idxN (fun f => f.kind == kind && q f) fs i) S' h') fs.length ?_ ?_
  · simp only [go_sem, Nat.reduceEqDiff, ↓reduceIte, true_and]
    exact ⟨rfl, S, fun j hj => .inl hj, But.refl S h, hY⟩
  rintro i fr h' hi ⟨f0, f2, f3, f10, f11, f12, S', hS, hbut, hYi⟩
  simp only [go_sem, Nat.reduceEqDiff, ↓reduceIte, f0, f2, f3, f10, f11, f12]
  by_cases hlt : i < fs.length
  · rw [decide_eq_true (by exact_mod_cast hlt)]
    have hm : fs[i] ∈ fs := List.getElem_mem hlt
    have hw : vpart true 12 fs[i].cells 0 = some (.agg fs[i].cells) := vpart_whole (Fact.len _) (by omega)
    have hst : ∀ (h : Heap) (id : Nat), vstore Tryz.prog 31 (.ptr id 0) (.agg fs[i].cells) (h.new id (.row [.int .i64 0, .str [], .str [], .int .i64 0, .int .i64 0, .int .i64 0, .bool false, .int .i64 0, .str [], .str [], .nilsl, .nilsl])) = some (h.new id (.row fs[i].cells)) := fun h id => vstore_new szT_31 (by omega) rfl (Fact.len _) (hok _ hm)
    have hex : Ext h' (h'.new h'.next (.row fs[i].cells)) := (Ext.refl h').new (Nat.le_refl _) _
    have hbut1 : But S h (h'.new h'.next (.row fs[i].cells)) := hbut.trans (hex.but S) fun i hi => .inl hi
    have hk0 : fs[i].cells[0]? = some (.int .i64 fs[i].kind) := rfl
    cases hk : (fs[i].kind == kind) with
    | false =>
      simp only [go_sem, Nat.reduceEqDiff, ↓reduceIte, f0, f2, f3, f10, f11, f12, vindexAddr_sl hx elemT_25 szT_31 (facts_get hlt), hw, hst, vpart_false, hk0, hk]
      refine ⟨hlt, by rw [wrap_succ (by unfold lim; omega)], S', hS, hbut1, ?_⟩
      rw [idxN_no hlt (by simp [hk])]
      exact y.ext hYi hex
    | true =>
      simp only [go_sem, Nat.reduceEqDiff, ↓reduceIte, f0, f2, f3, f10, f11, f12, vindexAddr_sl hx elemT_25 szT_31 (facts_get hlt), hw, hst, vpart_false, hk0, hk]
      refine VInv.mono (Q := fun r h3 => h3 = h'.new h'.next (.row fs[i].cells) ∧ r = .bool (q fs[i])) ?_ (hq _ hm _ fun j hj => ?_)
      rotate_left
      · obtain ⟨h1, h2⟩ := hR j hj
        exact hbut1.2 j h1 h2
      rintro r h3 ⟨rfl, rfl⟩
      cases hqq : q fs[i] with
      | false =>
        simp only [go_sem, Nat.reduceEqDiff, ↓reduceIte, f0, f2, f3, f10, f11, f12]
        refine ⟨hlt, by rw [wrap_succ (by unfold lim; omega)], S', hS, hbut1, ?_⟩
        rw [idxN_no hlt (by simp [hqq])]
        exact y.ext hYi hex
      | true =>
        obtain ⟨n1, n2⟩ := idxN_yes (p := fun f => f.kind == kind && q f) hlt (by simp [hk, hqq])
        have hnl := (List.getElem?_eq_some_iff.1 n2).1
        have hel : (idxFrom (fun f => f.kind == kind && q f) fs 0).getD (idxN (fun f => f.kind == kind && q f) fs i) 0 = i := by rw [List.getD_eq_getElem?_getD, n2]; rfl
        have hgo := y.go _ S' _ hnl (y.ext hYi hex)
        simp only [hel] at hgo
        simp only [go_sem, Nat.reduceEqDiff, ↓reduceIte, f0, f2, f3, f10, f11, f12]
        refine hgo.mono ?_
        rintro r h3 ⟨S2, hS2, hb2, hr⟩
        have hbut3 : But S h h3 := hbut1.trans hb2 hS
        have hsub : ∀ j, S2 j → S j ∨ h.next ≤ j := fun j hj => by
          rcases hS2 j hj with hj | hj
          · exact hS j hj
          · have h1 := hbut1.1
            exact .inr (by omega)
        rcases hr with ⟨rfl, hY2⟩ | ⟨rfl, hZ2⟩
        · simp only [vun, go_sem, Nat.reduceEqDiff, ↓reduceIte, f0, f2, f3, f10, f11, f12]
          exact ⟨hlt, by rw [wrap_succ (by unfold lim; omega)], S2, hsub, hbut3, by rw [n1]; exact hY2⟩
        · simp only [vun, go_sem, Nat.reduceEqDiff, ↓reduceIte]
          exact ⟨S2, hsub, hbut3, .inr hZ2⟩
  · have hie : i = fs.length := by omega
    subst hie
    rw [decide_eq_false (by omega)]
    simp only [go_sem, Nat.reduceEqDiff, ↓reduceIte]
    rw [idxN_end] at hYi
    exact ⟨S', hS, hbut, .inl hYi⟩
end Go.V
namespace Go.V
open Go.Proofs
set_option maxRecDepth 100000
set_option linter.unusedSimpArgs false

theorem c_none1 (f : Fact) (h : Heap) : VCall Tryz.prog 183 [.agg f.cells] h fun r h' => h' = h ∧ r = .bool true := by
  refine VCall.of_fn (g := cfg183) mix Tryz.func183 ok183 rfl rfl ?_
  simp only [Tryz.f183, Option.getD_some]
  simp only [go_sem, Nat.reduceEqDiff, ↓reduceIte, mu183]

theorem c_must1 (f : Fact) (h : Heap) : VCall Tryz.prog 181 [.agg f.cells] h fun r h' => h' = h ∧ r = .bool true := by
  refine VCall.of_fn (g := cfg181) mix Tryz.func181 ok181 rfl rfl ?_
  simp only [Tryz.f181, Option.getD_some]
  simp only [go_sem, Nat.reduceEqDiff, ↓reduceIte, mu181]

/-- The facts of a kind. -/
def ofKind (k : Int) (f : Fact) : Bool := f.kind == k && true

set_option maxHeartbeats 1000000 in
/-- (*state).none. -/
theorem c_none {x dl : D} {sc lics : List D} {lx : List (List D)} {fs : List Fact} (hdl : sc[0]? = some dl) (hlx : IsSl 4 lx dl) (hsc : sc[4]? = some x) (hx : IsSl 12 (facts fs) x) (hl : fs.length ≤ 1000) (hok : ∀ f ∈ fs, f.Ok)
    {found : D} {Y : List (List Int) → (Nat → Prop) → Heap → Prop} {mx : Nat} (hmx : 1 ≤ mx) (y : Fnd Tryz.prog mx found Y) (hfd : found.notTuple = true) (hfc : found.cells = [found]) {ks : List (List Int)} (hks : ks.length ≤ 1000) {S : Nat → Prop} {h : Heap} (hY : Y ks S h) :
    VCall Tryz.prog 141 [.iptr sc 0, found] h fun _ h' => ∃ S', (∀ i, S' i → S i ∨ h.next ≤ i) ∧ But S h h' ∧ Y (ks ++ if lx.length > 0 then [] else (idxFrom (ofKind 2) fs 0).map fun (i : Nat) => [(i : Int)]) S' h' := by
  refine VCall.of_fn (g := cfg141) mix Tryz.func141 ok141 rfl rfl ?_
  simp only [Tryz.f141, Option.getD_some]
  have e0 : decide ((lx.length : Int) > 0) = decide (lx.length > 0) := by
    by_cases e : lx.length > 0
    · rw [decide_eq_true e, decide_eq_true (by omega)]
    · rw [decide_eq_false e, decide_eq_false (by omega)]
  by_cases h0 : lx.length > 0
  · simp only [go_sem, Nat.reduceEqDiff, ↓reduceIte, mu141, hfd, hfc, vnilCheck, Nat.zero_add, vpart_false, hdl, vlen_sl hlx Tryz.underlying40, e0, decide_eq_true h0]
    refine ⟨S, fun i hi => .inl hi, But.refl S h, ?_⟩
    rw [if_pos h0, List.append_nil]
    exact hY
  · simp only [go_sem, Nat.reduceEqDiff, ↓reduceIte, mu141, hfd, hfc, vnilCheck, Nat.zero_add, vpart_false, hdl, vlen_sl hlx Tryz.underlying40, e0, decide_eq_false h0]
    refine (c_facts sc 2 (.fn (.func 183) [] []) h rfl rfl).mono ?_
    rintro r h ⟨rfl, rfl⟩
    simp only [go_sem, Nat.reduceEqDiff, ↓reduceIte, factsFn]
    generalize hL : LRec.mk _ _ _ _ _ _ _ = L
    have hpe : L.pending = none := by rw [← hL]
    have hst : L.st = .ready := by rw [← hL]
    have hil : (idxFrom (ofKind 2) fs 0).length ≤ fs.length := by
      have : ∀ (l : List Fact) k, (idxFrom (ofKind 2) l k).length ≤ l.length := fun l => by
        induction l with
        | nil => intro k; simp [idxFrom]
        | cons f l ih => intro k; simp only [idxFrom]; have := ih (k + 1); split <;> simp <;> omega
      exact this fs 0
    have yl : Yld Tryz.prog h.next (idxFrom (ofKind 2) fs 0).length (fun i => [.int .i64 ((idxFrom (ofKind 2) fs 0).getD i 0 : Nat)]) (YCall h.next L Y ks fun k => ((idxFrom (ofKind 2) fs 0).take k).map fun (i : Nat) => [(i : Int)]) (fun _ _ => False) := by
      refine ⟨fun k S h yc => yc.here y, fun k S h h' yc hn hk => yc.loc y hn hk, fun S h hz => hz.elim, fun S h h' hz => hz.elim, fun k S h3 hk yc => ?_⟩
      obtain ⟨i, hi⟩ : ∃ i, (idxFrom (ofKind 2) fs 0)[k]? = some i := ⟨_, List.getElem?_eq_getElem hk⟩
      have hget : (idxFrom (ofKind 2) fs 0).getD k 0 = i := by rw [List.getD_eq_getElem?_getD, hi]; rfl
      have hlt := (idxFrom_lt (ofKind 2) fs 0 i (List.mem_of_getElem? hi)).2
      simp only [hget]
      have yc0 := yc
      obtain ⟨a1, a2, _⟩ := yc0
      rw [← hL] at a2
      refine VYield.round (g := cfg141) mix a2 rfl (by kernel_rfl) (by kernel_rfl) (by kernel_rfl) ?_
      simp only [go_sem, Nat.reduceEqDiff, ↓reduceIte, mu141, vpart_false]
      refine ⟨a2, ?_⟩
      rw [vbuildSlice_one (x := .int .i64 (i : Int)) elemT_46 zeroT_3 szT_3 rfl rfl (by omega) (by omega) rfl rfl]
      simp only [go_sem, cells_int]
      refine VInv.mono (fun r h6 hq => ?_) (yc.step y hst hpe (l := [(i : Int)]) ?_ ?_ (by simp) (by simpa using hmx) ?_ (B := { L with st := .busy }) rfl (Ext.refl _) ?_ .full (fr := fun _ => undefD))
      · exact hq
      · simp only [List.take_add_one, hi, Option.toList_some, List.map_append, List.map_cons, List.map_nil]
      · simp only [List.length_append, List.length_map, List.length_take]; omega
      · intro n hn
        rcases List.mem_singleton.1 hn with rfl
        unfold fits
        exact wrap_i64 (by omega) (by omega)
      · rw [← hL]
        exact Ext.refl _
    refine (c_facts1 (q := fun _ => true) hsc hx (by omega) hok yl (S := fun i => i = h.next ∨ S i) (R := fun _ => False) (fun i hi => hi.elim) (fun f _ h2 _ => (show VInv Tryz.prog (.fn (.func 183) [] []) [.agg f.cells] h2 _ from c_none1 f h2)) ?_).mono ?_
    · refine ⟨by rw [next_new_eq]; omega, new_at _ _ _, S, ?_, fun e => Nat.lt_irrefl _ (y.here _ _ _ hY _ e), fun i => Iff.rfl⟩
      simp only [List.take_zero, List.map_nil, List.append_nil]
      exact y.ext hY ((Ext.refl h).new (Nat.le_refl _) _)
    · rintro r h2 ⟨S', hs, hb, hY2 | hz⟩
      · obtain ⟨a1, a2, S0, a3, a4, a5⟩ := hY2
        refine ⟨L, a2, by simp [hst], ?_⟩
        simp only [hpe, pendQ_none]
        simp only [go_sem, Nat.reduceEqDiff, ↓reduceIte]
        simp only [show (idxFrom (fun f => f.kind == 2 && true) fs 0) = idxFrom (ofKind 2) fs 0 from rfl, List.take_length] at a3
        have hn2 : h.next + 1 ≤ h2.next := by have := hb.1; rw [next_new_eq] at this; exact this
        refine ⟨S0, fun i hi => ?_, ⟨by simp only [next_del]; omega, fun i hi hn => ?_⟩, ?_⟩
        · rcases hs i ((a5 i).2 (.inr hi)) with (rfl | h1) | h1
          · exact absurd hi a4
          · exact .inl h1
          · rw [next_new_eq] at h1; exact .inr (by omega)
        · rw [del_keep (by omega), hb.2 i (by rw [next_new_eq]; omega) (fun e => e.elim (fun e => by omega) hn), new_keep (by omega)]
        · rw [if_neg h0]
          refine y.loc _ _ _ _ a3 (Nat.le_refl _) fun i hi => ?_
          exact del_keep fun e => a4 (by rw [← e]; exact hi)
      · exact hz.elim
end Go.V
namespace Go.V
open Go.Proofs
set_option maxRecDepth 100000
set_option linter.unusedSimpArgs false
set_option linter.unusedVariables false

/-- The state of a case without licenses, of which nothing is decided. -/
abbrev sc0 (x : D) (m1 m2 : Nat) : List D := [.nilsl, .nilsl, .nilsl, .nilsl, x, .map m1, .map m2]

theorem c_triples (sc : List D) (h : Heap) : VCall Tryz.prog 174 [.iptr sc 0] h fun r h' => h' = h ∧ r = .fn (.func 255) [] [.iptr [.iptr sc 0] 0] := by
  refine VCall.of_fn (g := cfg174) mix Tryz.func174 ok174 rfl rfl ?_
  simp only [Tryz.f174, Option.getD_some]
  simp only [go_sem, Nat.reduceEqDiff, ↓reduceIte, mu174, show (D.iptr sc 0).notTuple = true from rfl, show (D.iptr sc 0).cells = [.iptr sc 0] from rfl]

set_option maxHeartbeats 1000000 in
/-- No triples. -/
theorem c_triples1_none {x : D} {m1 m2 : Nat} {fs : List Fact} (hx : IsSl 12 (facts fs) x) (hl : fs.length ≤ 1000) (hok : ∀ f ∈ fs, f.Ok) {id : Nat} {h : Heap} (hm : m1 < h.next) (he : h.at' m1 = some (.map [])) :
    VCall Tryz.prog 255 [.yld id, .iptr [.iptr (sc0 x m1 m2) 0] 0] h fun _ h' => Ext h h' := by
  refine VCall.of_fn (g := cfg255) mix Tryz.func255 ok255 rfl rfl ?_
  simp only [Tryz.f255, Option.getD_some]
  have hll : ((facts fs).length : Int) = fs.length := by rw [facts_length]
  simp only [go_sem, Nat.reduceEqDiff, ↓reduceIte, mu255, vnilCheck, vpart_false, Nat.zero_add, vlen_sl hx Tryz.underlying25, hll, show (D.yld id).notTuple = true from rfl, show (D.yld id).cells = [.yld id] from rfl]
  refine vwp_range (fun i fr h' => fr 1 = .iptr [.iptr (sc0 x m1 m2) 0] 0 ∧ fr 12 = x ∧ fr 13 = .int .i64 fs.length ∧ fr 14 = .int .i64 (i : Int) ∧ Ext h h') fs.length ?_ ?_
  · simp only [go_sem, Nat.reduceEqDiff, ↓reduceIte, true_and]
    exact ⟨rfl, Ext.refl _⟩
  rintro i fr h' hi ⟨f1, f12, f13, f14, hext⟩
  simp only [go_sem, Nat.reduceEqDiff, ↓reduceIte, f1, f12, f13, f14]
  by_cases hlt : i < fs.length
  · rw [decide_eq_true (by exact_mod_cast hlt)]
    have hm' : fs[i] ∈ fs := List.getElem_mem hlt
    have hw : vpart true 12 fs[i].cells 0 = some (.agg fs[i].cells) := vpart_whole (Fact.len _) (by omega)
    have hst : ∀ (h : Heap) (id : Nat), vstore Tryz.prog 31 (.ptr id 0) (.agg fs[i].cells) (h.new id (.row [.int .i64 0, .str [], .str [], .int .i64 0, .int .i64 0, .int .i64 0, .bool false, .int .i64 0, .str [], .str [], .nilsl, .nilsl])) = some (h.new id (.row fs[i].cells)) := fun h id => vstore_new szT_31 (by omega) rfl (Fact.len _) (hok _ hm')
    have hst2 : vstore Tryz.prog 31 (.ptr (h'.new h'.next (.row [.int .i64 0])).next 0) (.agg fs[i].cells) ((h'.new h'.next (.row [.int .i64 (i : Int)])).new (h'.new h'.next (.row [.int .i64 (i : Int)])).next (.row [.int .i64 0, .str [], .str [], .int .i64 0, .int .i64 0, .int .i64 0, .bool false, .int .i64 0, .str [], .str [], .nilsl, .nilsl])) = some ((h'.new h'.next (.row [.int .i64 (i : Int)])).new (h'.new h'.next (.row [.int .i64 (i : Int)])).next (.row fs[i].cells)) := hst _ _
    simp only [go_sem, Nat.reduceEqDiff, ↓reduceIte, f1, f12, f13, f14, vindexAddr_sl hx elemT_25 szT_31 (facts_get hlt), hw, hst2, vpart_false, mu255, vstore_new2 (P := Tryz.prog) (t := 3) (x := .int .i64 (i : Int)) szT_3 rfl rfl]
    have e1 : (h'.new h'.next (.row [.int .i64 (i : Int)])).next = h'.next + 1 := next_new_eq _ _
    have hmm : ((h'.new h'.next (.row [.int .i64 (i : Int)])).new (h'.new h'.next (.row [.int .i64 (i : Int)])).next (.row fs[i].cells)).at' m1 = some (.map []) := by
      rw [new2_keep _ _ (by have := hext.1; omega), hext.2 _ hm]; exact he
    refine vwp_plan Heap.emp [(0, .no, false), (4, .no, false), (1, .no, false), (2, .no, false), (3, .no, false), (5, .no, false), (6, .no, false), (7, .no, false), (8, .no, false), (9, .no, false), (10, .no, false)] (by kernel_rfl) (by kernel_rfl) (fun i ob e => by cases e) ?_
    simp only [go_sem, Nat.reduceEqDiff, ↓reduceIte, f1, f12, f13, f14, vnilCheck, vpart_false, Nat.zero_add, new2_at, vlookup_empty (k := .int .i64 (i : Int)) hmm mapT_129 keyT_3 zeroT_121 rfl rfl, vfound]
    refine ⟨hlt, by rw [wrap_succ (by unfold lim; omega)], ?_⟩
    exact (hext.new hext.1 _).new (by rw [next_new_eq]; have := hext.1; omega) _
  · rw [decide_eq_false (by omega)]
    simp only [go_sem, Nat.reduceEqDiff, ↓reduceIte]
    exact hext

/-- Rows that look at triples. -/
theorem c_forbid0 {x found : D} {m1 m2 : Nat} {fs : List Fact} (hx : IsSl 12 (facts fs) x) (hl : fs.length ≤ 1000) (hok : ∀ f ∈ fs, f.Ok) {h : Heap} (hm : m1 < h.next) (he : h.at' m1 = some (.map [])) (hfd : found.notTuple = true) (hfc : found.cells = [found]) :
    VCall Tryz.prog 136 [.iptr (sc0 x m1 m2) 0, found] h fun _ h' => Ext h h' := by
  refine VCall.of_fn (g := cfg136) mix Tryz.func136 ok136 rfl rfl ?_
  simp only [Tryz.f136, Option.getD_some]
  simp only [go_sem, Nat.reduceEqDiff, ↓reduceIte, mu136, hfd, hfc, vpart_false, show (D.iptr (sc0 x m1 m2) 0).notTuple = true from rfl, show (D.iptr (sc0 x m1 m2) 0).cells = [.iptr (sc0 x m1 m2) 0] from rfl]
  refine (c_triples _ h).mono ?_
  rintro r h ⟨rfl, rfl⟩
  simp only [go_sem, Nat.reduceEqDiff, ↓reduceIte]
  refine (c_triples1_none hx hl hok (m2 := m2) (by rw [next_new_eq]; omega) (by rw [new_keep (by omega)]; exact he)).mono ?_
  rintro _ h' hx'
  obtain ⟨a1, a2⟩ := ext_loop hx'
  refine ⟨_, a1, by simp, ?_⟩
  simp only [pendQ_none, go_sem, Nat.reduceEqDiff, ↓reduceIte]
  exact a2
theorem c_share0 {x found : D} {m1 m2 : Nat} {fs : List Fact} (hx : IsSl 12 (facts fs) x) (hl : fs.length ≤ 1000) (hok : ∀ f ∈ fs, f.Ok) {h : Heap} (hm : m1 < h.next) (he : h.at' m1 = some (.map [])) (hfd : found.notTuple = true) (hfc : found.cells = [found]) :
    VCall Tryz.prog 137 [.iptr (sc0 x m1 m2) 0, found] h fun _ h' => Ext h h' := by
  refine VCall.of_fn (g := cfg137) mix Tryz.func137 ok137 rfl rfl ?_
  simp only [Tryz.f137, Option.getD_some]
  simp only [go_sem, Nat.reduceEqDiff, ↓reduceIte, mu137, hfd, hfc, vpart_false, show (D.iptr (sc0 x m1 m2) 0).notTuple = true from rfl, show (D.iptr (sc0 x m1 m2) 0).cells = [.iptr (sc0 x m1 m2) 0] from rfl]
  refine (c_triples _ h).mono ?_
  rintro r h ⟨rfl, rfl⟩
  simp only [go_sem, Nat.reduceEqDiff, ↓reduceIte]
  refine (c_triples1_none hx hl hok (m2 := m2) (by rw [next_new_eq]; omega) (by rw [new_keep (by omega)]; exact he)).mono ?_
  rintro _ h' hx'
  obtain ⟨a1, a2⟩ := ext_loop hx'
  refine ⟨_, a1, by simp, ?_⟩
  simp only [pendQ_none, go_sem, Nat.reduceEqDiff, ↓reduceIte]
  exact a2
set_option maxHeartbeats 1000000 in
theorem c_lack0 {x found : D} {m1 m2 : Nat} {fs : List Fact} (hx : IsSl 12 (facts fs) x) (hl : fs.length ≤ 1000) (hok : ∀ f ∈ fs, f.Ok) {h : Heap} (hm : m1 < h.next) (he : h.at' m1 = some (.map [])) (hfd : found.notTuple = true) (hfc : found.cells = [found]) :
    VCall Tryz.prog 138 [.iptr (sc0 x m1 m2) 0, found] h fun _ h' => Ext h h' := by
  refine VCall.of_fn (g := cfg138) mix Tryz.func138 ok138 rfl rfl ?_
  simp only [Tryz.f138, Option.getD_some]
  simp only [go_sem, Nat.reduceEqDiff, ↓reduceIte, mu138, hfd, hfc, vpart_false, show (D.iptr (sc0 x m1 m2) 0).notTuple = true from rfl, show (D.iptr (sc0 x m1 m2) 0).cells = [.iptr (sc0 x m1 m2) 0] from rfl]
  refine (c_triples _ h).mono ?_
  rintro r h ⟨rfl, rfl⟩
  simp only [go_sem, Nat.reduceEqDiff, ↓reduceIte]
  refine (c_triples1_none hx hl hok (m2 := m2) (by rw [next_new_eq]; omega) (by rw [new_keep (by omega)]; exact he)).mono ?_
  rintro _ h' hx'
  obtain ⟨a1, a2⟩ := ext_loop hx'
  refine ⟨_, a1, by simp, ?_⟩
  simp only [pendQ_none, go_sem, Nat.reduceEqDiff, ↓reduceIte]
  exact a2
set_option maxHeartbeats 1000000 in
theorem c_apart0 {x found : D} {m1 m2 : Nat} {fs : List Fact} (hx : IsSl 12 (facts fs) x) (hl : fs.length ≤ 1000) (hok : ∀ f ∈ fs, f.Ok) {h : Heap} (hm : m1 < h.next) (he : h.at' m1 = some (.map [])) (hfd : found.notTuple = true) (hfc : found.cells = [found]) :
    VCall Tryz.prog 139 [.iptr (sc0 x m1 m2) 0, found] h fun _ h' => Ext h h' := by
  refine VCall.of_fn (g := cfg139) mix Tryz.func139 ok139 rfl rfl ?_
  simp only [Tryz.f139, Option.getD_some]
  simp only [go_sem, Nat.reduceEqDiff, ↓reduceIte, mu139, hfd, hfc, vpart_false, show (D.iptr (sc0 x m1 m2) 0).notTuple = true from rfl, show (D.iptr (sc0 x m1 m2) 0).cells = [.iptr (sc0 x m1 m2) 0] from rfl]
  refine (c_triples _ h).mono ?_
  rintro r h ⟨rfl, rfl⟩
  simp only [go_sem, Nat.reduceEqDiff, ↓reduceIte]
  refine (c_triples1_none hx hl hok (m2 := m2) (by rw [next_new_eq]; omega) (by rw [new_keep (by omega)]; exact he)).mono ?_
  rintro _ h' hx'
  obtain ⟨a1, a2⟩ := ext_loop hx'
  refine ⟨_, a1, by simp, ?_⟩
  simp only [pendQ_none, go_sem, Nat.reduceEqDiff, ↓reduceIte]
  exact a2
end Go.V
namespace Go.V
open Go.Proofs
set_option maxRecDepth 100000
set_option linter.unusedSimpArgs false
set_option linter.unusedVariables false

set_option maxHeartbeats 1000000 in
/-- (*state).must where no own license is decided. -/
theorem c_must0 {x found : D} {m1 m2 : Nat} {fs : List Fact} (hx : IsSl 12 (facts fs) x) (hl : fs.length ≤ 1000) (hok : ∀ f ∈ fs, f.Ok)
    {Y : List (List Int) → (Nat → Prop) → Heap → Prop} {mx : Nat} (y : Fnd Tryz.prog mx found Y) (hfd : found.notTuple = true) (hfc : found.cells = [found]) {ks : List (List Int)} (hks : ks.length ≤ 1000) {S : Nat → Prop} {h : Heap} (hY : Y ks S h)
    (hm : m2 < h.next) (he : h.at' m2 = some (.map [])) (hn : ¬ S m2) :
    VCall Tryz.prog 140 [.iptr (sc0 x m1 m2) 0, found] h fun _ h' => ∃ S', (∀ i, S' i → S i ∨ h.next ≤ i) ∧ But S h h' ∧ Y ks S' h' := by
  refine VCall.of_fn (g := cfg140) mix Tryz.func140 ok140 rfl rfl ?_
  simp only [Tryz.f140, Option.getD_some]
  simp only [go_sem, Nat.reduceEqDiff, ↓reduceIte, mu140, hfd, hfc, vpart_false, show (D.iptr (sc0 x m1 m2) 0).notTuple = true from rfl, show (D.iptr (sc0 x m1 m2) 0).cells = [.iptr (sc0 x m1 m2) 0] from rfl]
  refine (c_facts (sc0 x m1 m2) 3 (.fn (.func 181) [] []) h rfl rfl).mono ?_
  rintro r h ⟨rfl, rfl⟩
  simp only [go_sem, Nat.reduceEqDiff, ↓reduceIte, factsFn]
  generalize hL : LRec.mk _ _ _ _ _ _ _ = L
  have hpe : L.pending = none := by rw [← hL]
  have hst : L.st = .ready := by rw [← hL]
  have y2 := y.keep m2 (.map [])
  have yl : Yld Tryz.prog h.next (idxFrom (fun f => f.kind == 3 && true) fs 0).length (fun i => [.int .i64 ((idxFrom (fun f => f.kind == 3 && true) fs 0).getD i 0 : Nat)]) (YCall h.next L (YKeep m2 (.map []) Y) ks fun _ => []) (fun _ _ => False) := by
    refine ⟨fun k S h yc => yc.here y2, fun k S h h' yc hn hk => yc.loc y2 hn hk, fun S h hz => hz.elim, fun S h h' hz => hz.elim, fun k S h3 hk yc => ?_⟩
    obtain ⟨i, hi⟩ : ∃ i, (idxFrom (fun f => f.kind == 3 && true) fs 0)[k]? = some i := ⟨_, List.getElem?_eq_getElem hk⟩
    have hget : (idxFrom (fun f => f.kind == 3 && true) fs 0).getD k 0 = i := by rw [List.getD_eq_getElem?_getD, hi]; rfl
    have hlt := (idxFrom_lt (fun f => f.kind == 3 && true) fs 0 i (List.mem_of_getElem? hi)).2
    rw [Nat.zero_add] at hlt
    simp only [hget]
    have yc0 := yc
    obtain ⟨a1, a2, S0, ⟨S1, b1, b2, b3, b4, b5⟩, a4, a5⟩ := yc0
    have hne : m2 ≠ h.next := fun e => a4 ((b5 _).2 (.inl e.symm))
    rw [← hL] at a2
    refine VYield.round (g := cfg140) mix a2 rfl (by kernel_rfl) (by kernel_rfl) (by kernel_rfl) ?_
    have hst3 : ∀ (H : Heap), vstore Tryz.prog 3 (.ptr H.next 0) (.int .i64 (i : Int)) (H.new H.next (.row [.int .i64 0])) = some (H.new H.next (.row [.int .i64 (i : Int)])) := fun H => by
      rw [vstore_cell (new_at _ _ _) szT_3 (by simp) rfl rfl, new_set]; rfl
    simp only [go_sem, Nat.reduceEqDiff, ↓reduceIte, mu140, vpart_false, hst3]
    refine ⟨by rw [new_keep (by omega)]; exact a2, ?_⟩
    generalize hB : LRec.mk _ _ _ _ _ _ _ = B
    have hat : ((h3.new h3.next (.row [.int .i64 (i : Int)])).set h.next (.loop B)).at' h3.next = some (.row [.int .i64 (i : Int)]) := by rw [set_keep (by omega), new_at]
    have hma : ((h3.new h3.next (.row [.int .i64 (i : Int)])).set h.next (.loop B)).at' m2 = some (.map []) := by rw [set_keep hne, new_keep (by omega), b3]
    have hf2 : fs[i].cells[2]? = some (.str fs[i].out) := rfl
    refine vwp_plan Heap.emp [(0, .no, false), (4, .no, false), (8, .no, false), (1, .no, false), (2, .no, false), (3, .no, false), (5, .no, false), (6, .no, false), (7, .no, false), (9, .no, false), (10, .no, false), (11, .no, false), (12, .no, false), (13, .no, false), (14, .no, false), (15, .no, false), (16, .no, false), (17, .no, false)] (by kernel_rfl) (by kernel_rfl) (fun i ob e => by cases e) ?_
    simp only [go_sem, Nat.reduceEqDiff, ↓reduceIte, vnilCheck, vpart_false, Nat.zero_add, hat, vlookup_empty (k := .str fs[i].out) hma mapT_130 keyT_9 zeroT_9 rfl rfl, vfound, vindexAddr_sl hx elemT_25 szT_31 (facts_get hlt), hf2]
    simp only [go_sem, Nat.reduceEqDiff, ↓reduceIte, vextract]
    generalize hH : (h3.new h3.next (.row [.int .i64 (i : Int)])).set h.next (.loop B) = H
    refine vwp_cut (fun fr h' => fr 40 = .bool true ∧ h' = H) ?_ ?_
    · refine vwp_plan Heap.emp [(0, .no, false), (1, .no, false), (2, .no, false), (3, .no, false), (7, .no, false), (4, .no, false), (5, .no, false), (6, .no, false), (8, .no, false), (9, .no, false), (10, .no, false), (11, .no, false), (12, .no, false), (13, .no, false)] (by kernel_rfl) (by kernel_rfl) (fun i ob e => by cases e) ?_
      simp only [go_sem, Nat.reduceEqDiff, ↓reduceIte, vun]
    rintro fr' h' ⟨f40, rfl⟩
    simp only [go_sem, Nat.reduceEqDiff, ↓reduceIte, f40]
    subst hH
    exact YCall.quiet y2 yc hst hpe rfl (B := B) (by rw [← hB, ← hL]) (.inr ⟨_, (Ext.refl _).new (Nat.le_refl _) _, Ext.refl _⟩) (set_at_same _ _ _)
  refine (c_facts1 (q := fun _ => true) rfl hx (by omega) hok yl (S := fun i => i = h.next ∨ (i = m2 ∨ S i)) (R := fun _ => False) (fun i hi => hi.elim) (fun f _ h2 _ => (show VInv Tryz.prog (.fn (.func 181) [] []) [.agg f.cells] h2 _ from c_must1 f h2)) ?_).mono ?_
  · refine ⟨by rw [next_new_eq]; omega, new_at _ _ _, fun i => i = m2 ∨ S i, ?_, fun e => e.elim (by omega) fun e => Nat.lt_irrefl _ (y.here _ _ _ hY _ e), fun i => Iff.rfl⟩
    simp only [List.append_nil]
    exact y2.ext (YKeep.start hY hm he hn) ((Ext.refl h).new (Nat.le_refl _) _)
  · rintro r h2 ⟨S', hs, hb, hY2 | hz⟩
    · obtain ⟨a1, a2, S0, a3, a4, a5⟩ := hY2
      refine ⟨L, a2, by simp [hst], ?_⟩
      simp only [hpe, pendQ_none]
      simp only [go_sem, Nat.reduceEqDiff, ↓reduceIte]
      simp only [List.append_nil] at a3
      have hn2 : h.next + 1 ≤ h2.next := by have := hb.1; rw [next_new_eq] at this; exact this
      have a3' : YKeep m2 (.map []) Y ks S0 (h2.del h.next) := y2.loc _ _ _ _ a3 (Nat.le_refl _) fun i hi => del_keep fun e => a4 (by rw [← e]; exact hi)
      refine YKeep.stop (S := S) (S' := S0) hm he (fun i hi => ?_) ⟨by simp only [next_del]; omega, fun i hi hn => ?_⟩ a3'
      · rcases hs i ((a5 i).2 (.inr hi)) with (rfl | h1) | h1
        · exact absurd hi a4
        · exact .inl h1
        · rw [next_new_eq] at h1; exact .inr (by omega)
      · rw [del_keep (by omega), hb.2 i (by rw [next_new_eq]; omega) (fun e => e.elim (fun e => by omega) hn), new_keep (by omega)]
    · exact hz.elim
end Go.V
namespace Go.V
open Go.Proofs
set_option maxRecDepth 100000
set_option linter.unusedSimpArgs false
set_option linter.unusedVariables false

/-! Comparing violations. -/
def cmpI (a b : Int) : Int := if a < b then -1 else if a > b then 1 else 0
def cmpL : List Int → List Int → Int
  | [], [] => 0
  | [], _ :: _ => -1
  | _ :: _, [] => 1
  | a :: l, b :: m => if cmpI a b = 0 then cmpL l m else cmpI a b
def orL : List Int → Int
  | [] => 0
  | a :: l => if a = 0 then orL l else a

theorem cmpL_drop {l m : List Int} : ∀ {i : Nat}, i < l.length → (hm : i < m.length) → cmpL (l.drop i) (m.drop i) = if cmpI (l.getD i 0) (m.getD i 0) = 0 then cmpL (l.drop (i + 1)) (m.drop (i + 1)) else cmpI (l.getD i 0) (m.getD i 0) := by
  intro i hl hm
  rw [List.drop_eq_getElem_cons hl, List.drop_eq_getElem_cons hm]
  simp [cmpL, List.getD_eq_getElem?_getD, hl, hm]
theorem cmpL_cases (l m : List Int) : cmpL l m = -1 ∨ cmpL l m = 0 ∨ cmpL l m = 1 := by
  induction l generalizing m with
  | nil => cases m <;> simp [cmpL]
  | cons a l ih =>
    cases m with
    | nil => simp [cmpL]
    | cons b m =>
      simp only [cmpL]
      split
      · exact ih m
      · unfold cmpI; split <;> (try split) <;> simp

theorem c_isNaN (a : Int) (h : Heap) : VCall Tryz.prog 122 [.int .i64 a] h fun r h' => h' = h ∧ r = .bool false := by
  refine VCall.of_fn (g := cfg122) mix Tryz.func122 ok122 rfl rfl ?_
  simp only [Tryz.f122, Option.getD_some]
  simp only [go_sem, Nat.reduceEqDiff, ↓reduceIte, bne_self_eq_false, and_self]

theorem c_cmpI (a b : Int) (h : Heap) : VCall Tryz.prog 76 [.int .i64 a, .int .i64 b] h fun r h' => h' = h ∧ r = .int .i64 (cmpI a b) := by
  refine VCall.of_fn (g := cfg76) mix Tryz.func76 ok76 rfl rfl ?_
  simp only [Tryz.f76, Option.getD_some]
  simp only [go_sem, Nat.reduceEqDiff, ↓reduceIte]
  refine (c_isNaN a h).mono ?_
  rintro r h ⟨rfl, rfl⟩
  simp only [go_sem, Nat.reduceEqDiff, ↓reduceIte]
  refine (c_isNaN b h).mono ?_
  rintro r h ⟨rfl, rfl⟩
  simp only [go_sem, Nat.reduceEqDiff, ↓reduceIte]
  cases e1 : decide (a < b) with
  | true =>
    simp only [go_sem, Nat.reduceEqDiff, ↓reduceIte]
    simp [cmpI, of_decide_eq_true e1]
  | false =>
    simp only [go_sem, Nat.reduceEqDiff, ↓reduceIte]
    cases e2 : decide (a > b) with
    | true =>
      simp only [go_sem, Nat.reduceEqDiff, ↓reduceIte]
      simp [cmpI, of_decide_eq_false e1, of_decide_eq_true e2]
    | false =>
      simp only [go_sem, Nat.reduceEqDiff, ↓reduceIte]
      simp [cmpI, of_decide_eq_false e1, of_decide_eq_false e2]

theorem c_or {l : List Int} {d : D} (hd : IsSl 1 (ints l) d) (hl : l.length ≤ 1048576) (h : Heap) : VCall Tryz.prog 75 [d] h fun r h' => h' = h ∧ r = .int .i64 (orL l) := by
  refine VCall.of_fn (g := cfg75) mix Tryz.func75 ok75 rfl rfl ?_
  simp only [Tryz.f75, Option.getD_some]
  have hll : ((ints l).length : Int) = l.length := by rw [ints_length]
  simp only [go_sem, Nat.reduceEqDiff, ↓reduceIte, vlen_sl hd Tryz.underlying46, hll]
  refine vwp_range (fun i fr h' => fr 3 = .int .i64 0 ∧ fr 6 = d ∧ fr 7 = .int .i64 l.length ∧ fr 8 = .int .i64 (i : Int) ∧ h' = h ∧ orL (l.drop i) = orL l) l.length ?_ ?_
  · simp only [go_sem, Nat.reduceEqDiff, ↓reduceIte, true_and, List.drop_zero]
    trivial
  rintro i fr h' hi ⟨f3, f6, f7, f8, rfl, ho⟩
  simp only [go_sem, Nat.reduceEqDiff, ↓reduceIte, f3, f6, f7, f8]
  by_cases hlt : i < l.length
  · rw [decide_eq_true (by exact_mod_cast hlt)]
    rw [List.drop_eq_getElem_cons hlt] at ho
    simp only [orL] at ho
    simp only [go_sem, Nat.reduceEqDiff, ↓reduceIte, f3, f6, f7, f8, vindexAddr_sl hd elemT_46 szT_3 (ints_get hlt), vpart_false]
    by_cases h0 : l[i] = 0
    · rw [show (l[i] != 0) = false by simp [h0]]
      simp only [go_sem, Nat.reduceEqDiff, ↓reduceIte, f3, f6, f7, f8]
      rw [if_pos h0] at ho
      exact ⟨hlt, by rw [wrap_succ (by unfold lim; omega)], ho⟩
    · rw [show (l[i] != 0) = true by simp [h0]]
      simp only [go_sem, Nat.reduceEqDiff, ↓reduceIte]
      rw [if_neg h0] at ho
      rw [ho]
  · have hie : i = l.length := by omega
    subst hie
    rw [decide_eq_false (by omega)]
    simp only [go_sem, Nat.reduceEqDiff, ↓reduceIte, f3]
    rw [List.drop_length] at ho
    rw [← ho]; trivial

theorem c_cmpL {l m : List Int} {d e : D} (hd : IsSl 1 (ints l) d) (he : IsSl 1 (ints m) e) (hl : l.length ≤ 1048576) (h : Heap) : VCall Tryz.prog 132 [d, e] h fun r h' => h' = h ∧ r = .int .i64 (cmpL l m) := by
  refine VCall.of_fn (g := cfg132) mix Tryz.func132 ok132 rfl rfl ?_
  simp only [Tryz.f132, Option.getD_some]
  have hll : ((ints l).length : Int) = l.length := by rw [ints_length]
  have hml : ((ints m).length : Int) = m.length := by rw [ints_length]
  simp only [go_sem, Nat.reduceEqDiff, ↓reduceIte, vlen_sl hd Tryz.underlying46, hll]
  refine vwp_range (fun i fr h' => fr 0 = d ∧ fr 1 = e ∧ fr 9 = d ∧ fr 10 = .int .i64 l.length ∧ fr 11 = .int .i64 (i : Int) ∧ h' = h ∧ i ≤ m.length ∧ cmpL (l.drop i) (m.drop i) = cmpL l m) l.length ?_ ?_
  · simp only [go_sem, Nat.reduceEqDiff, ↓reduceIte, true_and, List.drop_zero]
    exact ⟨rfl, Nat.zero_le _⟩
  rintro i fr h' hi ⟨f0, f1, f9, f10, f11, rfl, him, ho⟩
  simp only [go_sem, Nat.reduceEqDiff, ↓reduceIte, f0, f1, f9, f10, f11]
  by_cases hlt : i < l.length
  · rw [decide_eq_true (by exact_mod_cast hlt)]
    simp only [go_sem, Nat.reduceEqDiff, ↓reduceIte, f0, f1, f9, f10, f11, vindexAddr_sl hd elemT_46 szT_3 (ints_get hlt), vpart_false, vlen_sl he Tryz.underlying46, hml]
    by_cases hge : i ≥ m.length
    · rw [decide_eq_true (by omega)]
      have hmi : m.length = i := by omega
      simp only [go_sem, Nat.reduceEqDiff, ↓reduceIte]
      rw [List.drop_eq_getElem_cons hlt, List.drop_eq_nil_of_le hge] at ho
      rw [← ho]; trivial
    · rw [decide_eq_false (by omega)]
      have hmlt : i < m.length := by omega
      rw [cmpL_drop hlt hmlt] at ho
      simp only [List.getD_eq_getElem?_getD, List.getElem?_eq_getElem hlt, List.getElem?_eq_getElem hmlt, Option.getD_some] at ho
      simp only [go_sem, Nat.reduceEqDiff, ↓reduceIte, f0, f1, f9, f10, f11, vindexAddr_sl he elemT_46 szT_3 (ints_get hmlt), vpart_false]
      refine (c_cmpI _ _ _).mono ?_
      rintro r h ⟨rfl, rfl⟩
      simp only [go_sem, Nat.reduceEqDiff, ↓reduceIte]
      by_cases h0 : cmpI l[i] m[i] = 0
      · rw [if_pos h0] at ho
        rw [show (cmpI l[i] m[i] != 0) = false by simp [h0]]
        simp only [go_sem, Nat.reduceEqDiff, ↓reduceIte, f0, f1, f9, f10, f11]
        exact ⟨hlt, by rw [wrap_succ (by unfold lim; omega)], by omega, ho⟩
      · rw [if_neg h0] at ho
        rw [show (cmpI l[i] m[i] != 0) = true by simp [h0]]
        simp only [go_sem, Nat.reduceEqDiff, ↓reduceIte]
        rw [ho]
  · have hie : i = l.length := by omega
    subst hie
    rw [List.drop_length] at ho
    rw [decide_eq_false (by omega)]
    simp only [go_sem, Nat.reduceEqDiff, ↓reduceIte, f0, f1, vlen_sl hd Tryz.underlying46, hll, vlen_sl he Tryz.underlying46, hml]
    by_cases hlm : l.length < m.length
    · rw [decide_eq_true (by exact_mod_cast hlm)]
      simp only [go_sem, Nat.reduceEqDiff, ↓reduceIte]
      rw [List.drop_eq_getElem_cons hlm] at ho
      rw [← ho]; trivial
    · rw [decide_eq_false (by omega)]
      simp only [go_sem, Nat.reduceEqDiff, ↓reduceIte]
      rw [List.drop_eq_nil_of_le (by omega)] at ho
      rw [← ho]; trivial

/-- A violation: its row, its facts. -/
structure Vio where
  row : Int
  facts : List Int
/-- Cells of a violation. -/
def Vio.Is (v : Vio) (cs : List D) : Prop := ∃ d, cs = [.int .i64 v.row, d] ∧ IsSl 1 (ints v.facts) d ∧ v.facts.length ≤ 1048576
def cmpV (v w : Vio) : Int := orL [cmpI v.row w.row, cmpL v.facts w.facts]

theorem c_compare {v w : Vio} {cv cw : List D} (hv : v.Is cv) (hw : w.Is cw) (h : Heap) : VCall Tryz.prog 87 [.agg cv, .agg cw] h fun r h' => h' = h ∧ r = .int .i64 (cmpV v w) := by
  obtain ⟨d, rfl, hd, hdl⟩ := hv
  obtain ⟨e, rfl, he, hel⟩ := hw
  refine VCall.of_fn (g := cfg87) mix Tryz.func87 ok87 rfl rfl ?_
  simp only [Tryz.f87, Option.getD_some]
  simp only [go_sem, Nat.reduceEqDiff, ↓reduceIte, mu87]
  refine vwp_plan h [(0, .no, true), (1, .no, true), (2, .no, true), (3, .no, true), (5, .no, true), (6, .st, true), (7, .no, true), (8, .st, true), (4, .no, true), (9, .no, true), (10, .no, true), (11, .no, true), (12, .no, true)] (by kernel_rfl) (by kernel_rfl) (fun _ _ e => e) ?_
  simp only [go_sem, Nat.reduceEqDiff, ↓reduceIte, vpart_false, Nat.zero_add]
  refine ((c_cmpI _ _ _).mono ?_)
  rintro r h ⟨rfl, rfl⟩
  simp only [go_sem, Nat.reduceEqDiff, ↓reduceIte, vpart_false, Nat.zero_add]
  refine ((c_cmpL hd he hdl _).mono ?_)
  rintro r h ⟨rfl, rfl⟩
  rw [mu87, show List.contains (α := Nat) [] 15 = false from rfl, vbuildSlice_two (x := .int .i64 (cmpI v.row w.row)) (y := .int .i64 (cmpL v.facts w.facts)) elemT_46 zeroT_3 szT_3 rfl rfl (by omega) (by omega) rfl rfl rfl rfl]
  simp only [go_sem, cells_int]
  refine (c_or (l := [cmpI v.row w.row, cmpL v.facts w.facts]) (IsSl.mk _) (by simp) _).mono ?_
  rintro r h2 ⟨rfl, rfl⟩
  exact ⟨fun _ _ e => e, fun _ _ e => e, rfl, rfl⟩

theorem c_equal {v w : Vio} {cv cw : List D} (hv : v.Is cv) (hw : w.Is cw) (h : Heap) : VCall Tryz.prog 46 [.agg cv, .agg cw] h fun r h' => h' = h ∧ r = .bool (cmpV v w == 0) := by
  have lv : cv.length = 2 := by obtain ⟨d, rfl, _⟩ := hv; rfl
  have lw : cw.length = 2 := by obtain ⟨d, rfl, _⟩ := hw; rfl
  refine VCall.of_fn (g := cfg46) mix Tryz.func46 ok46 rfl rfl ?_
  simp only [Tryz.f46, Option.getD_some]
  simp only [go_sem, Nat.reduceEqDiff, ↓reduceIte, mu46, vpart_whole lv, vpart_whole lw, Nat.zero_lt_succ]
  refine (c_compare hv hw _).mono ?_
  rintro r h ⟨rfl, rfl⟩
  simp only [go_sem, Nat.reduceEqDiff, ↓reduceIte]
end Go.V
