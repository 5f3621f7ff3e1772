/- Rules for walks that split by themselves, for lists that a function builds, and for functions of the library that read memory or a table. No condition. -/
import Derived.Test.YtnfmcjeamolljaaGreatDoorVhE
import Derived.Lib.Join
import Derived.Lib.ItoaMem
import Derived.Lib.AppendIntMem
set_option linter.unusedSimpArgs false
set_option linter.unusedVariables false
set_option linter.constructorNameAsVariable false
set_option linter.deprecated false
namespace Go.V

/-! What comes behind a call is not looked at before the call's result is known. -/
structure Hid (K : D → Heap → Prop) where
def hide (K : D → Heap → Prop) (_ : Hid K) : D → Heap → Prop := K
@[go_sem ↓] theorem hide_eq (K : D → Heap → Prop) (w : Hid K) (d : D) (h : Heap) : hide K w d h = K d h := (rfl)
@[go_sem ↓] theorem VInv_hide {P : Program} {h : Heap} {k : D → Heap → Prop} (f : FuncId) (a c args : List D) : VInv P (.fn (.func f) a c) args h k = VCall P f (a ++ args ++ c) h (hide k ⟨⟩) := (rfl)

structure HidS (k : D → Prop) where
def onSH (o : Option D) (k : D → Prop) (_ : HidS k) : Prop := onS o k
@[go_sem ↓] theorem onS_hide (o : Option D) (k : D → Prop) : onS o k = onSH o k ⟨⟩ := (rfl)
@[go_sem ↓] theorem onSH_some (d : D) (k : D → Prop) (w : HidS k) : onSH (some d) k w = k d := (rfl)
structure HidR (k : D → Heap → Prop) where
def onRH (o : VR) (k : D → Heap → Prop) (_ : HidR k) : Prop := onR o k
@[go_sem ↓] theorem onR_hide (o : VR) (k : D → Heap → Prop) : onR o k = onRH o k ⟨⟩ := (rfl)
@[go_sem ↓] theorem onRH_some (d : D) (h : Heap) (k : D → Heap → Prop) (w : HidR k) : onRH (some (d, h)) k w = k d h := (rfl)
structure HidH (k : Heap → Prop) where
def onHH (o : Option Heap) (k : Heap → Prop) (_ : HidH k) : Prop := onH o k
@[go_sem ↓] theorem onH_hide (o : Option Heap) (k : Heap → Prop) : onH o k = onHH o k ⟨⟩ := (rfl)
@[go_sem ↓] theorem onHH_some (h : Heap) (k : Heap → Prop) (w : HidH k) : onHH (some h) k w = k h := (rfl)
structure HidP (x y : Prop) where
def gifH (g : Bool) (x y : Prop) (_ : HidP x y) : Prop := gif g x y
@[go_sem ↓] theorem gif_hide (g : Bool) (x y : Prop) : gif g x y = gifH g x y ⟨⟩ := (rfl)
@[go_sem ↓] theorem gifH_true (x y : Prop) (w : HidP x y) : gifH true x y w = x := (rfl)
@[go_sem ↓] theorem gifH_false (x y : Prop) (w : HidP x y) : gifH false x y w = y := (rfl)
def onBH (d : D) (x y : Prop) (_ : HidP x y) : Prop := onB d x y
@[go_sem ↓] theorem onB_hide (d : D) (x y : Prop) : onB d x y = onBH d x y ⟨⟩ := (rfl)
@[go_sem ↓] theorem onBH_true (x y : Prop) (w : HidP x y) : onBH (.bool true) x y w = x := (rfl)
@[go_sem ↓] theorem onBH_false (x y : Prop) (w : HidP x y) : onBH (.bool false) x y w = y := (rfl)
end Go.V
namespace Go.V

/-! A walk that splits where a condition is not known, and loops that count. -/
theorem onBH_case {b : Bool} {x y : Prop} {w : HidP x y} (h1 : b = true → x) (h2 : b = false → y) : onBH (.bool b) x y w := by
  cases b
  · exact h2 rfl
  · exact h1 rfl
theorem onBH_caseN {b : Bool} {x y : Prop} {w : HidP x y} (h1 : b = false → x) (h2 : b = true → y) : onBH (.bool (!b)) x y w := by
  cases b
  · exact h1 rfl
  · exact h2 rfl
theorem gifH_caseT {b : Bool} {x y : Prop} {w : HidP x y} (h1 : b = true → x) (h2 : b = false → y) : gifH (b == true) x y w := by
  cases b
  · exact h2 rfl
  · exact h1 rfl
theorem gifH_caseF {b : Bool} {x y : Prop} {w : HidP x y} (h1 : b = false → x) (h2 : b = true → y) : gifH (b == false) x y w := by
  cases b
  · exact h1 rfl
  · exact h2 rfl
theorem gifH_caseNT {b : Bool} {x y : Prop} {w : HidP x y} (h1 : b = false → x) (h2 : b = true → y) : gifH ((!b) == true) x y w := by
  cases b
  · exact h1 rfl
  · exact h2 rfl
theorem gifH_caseNF {b : Bool} {x y : Prop} {w : HidP x y} (h1 : b = true → x) (h2 : b = false → y) : gifH ((!b) == false) x y w := by
  cases b
  · exact h2 rfl
  · exact h1 rfl
@[go_sem] theorem vun_not (b : Bool) : vun .not (.bool b) = some (.bool (!b)) := (rfl)

section
variable {P : Program} {g : Cfg} {n : Nat} {ro : Option Nat} {c : Code} {Q : Exit → Frm → Heap → Prop} {fr : Frm} {h : Heap}
/-- A loop that counts up to len: its rounds, and its end. -/
theorem vwp_count (J : Nat → Frm → Heap → Prop) (len : Nat) (hlen : len ≤ 1073741824) (hJ0 : J 0 fr h)
    (step : ∀ i fr h, i < len → decide ((i : Int) < (len : Int)) = true → IntKind.i64.wrap ((i : Int) + 1) = ((i + 1 : Nat) : Int) → J i fr h → vwp P g n ro c (thenQ (J (i + 1)) Q) fr h)
    (last : ∀ fr h, decide ((len : Int) < (len : Int)) = false → J len fr h → vwp P g n ro c (thenQ (fun _ _ => False) Q) fr h) : vwp P g n ro (.loop c) Q fr h := by
  refine vwp_range J len hJ0 fun i fr h hi hJ => ?_
  by_cases hlt : i < len
  · refine vwp_mono c ?_ fr h (step i fr h hlt (decide_eq_true (by omega)) (wrap_succ (by unfold lim; omega)) hJ)
    intro e fr' h' hq
    cases e with
    | normal => exact ⟨hlt, hq⟩
    | _ => exact hq
  · have he : i = len := by omega
    subst he
    refine vwp_mono c ?_ fr h (last fr h (decide_eq_false (by omega)) hJ)
    intro e fr' h' hq
    cases e with
    | normal => exact hq.elim
    | _ => exact hq
end

section
variable {P : Program} {t e : TypeId} {s : List UInt8} {h : Heap}
theorem vslice_str_mid (ha : arrT P t = none) (hu : P.underlying t = some .string) {k k' : IntKind} {m n : Nat} (hm : m ≤ n) (hn : n ≤ s.length) : vsliceA P t (.str s) (some (.int k (m : Int))) (some (.int k' (n : Int))) none h = some (.str ((s.take n).drop m)) := by
  simp [vsliceA, ha, vslice, hu, vbounds, hiOf, loOf, hn, hm]
theorem vstr_add {a b : List UInt8} (hl : a.length + b.length ≤ 1073741824) : vstr .add a b = some (.str (a ++ b)) := by
  simp only [vstr]; rw [if_pos (by unfold lim; omega)]
@[go_sem ↓] theorem vstr_geq (a b : List UInt8) : vstr .geq a b = some (.bool (!lstr a b)) := (rfl)
@[go_sem ↓] theorem vstr_gtr (a b : List UInt8) : vstr .gtr a b = some (.bool !(lstr a b || a == b)) := (rfl)
end
end Go.V
namespace Go.V

/-! Lists that a function builds. -/
/-- The list d is built since h0. -/
def Own (h0 h : Heap) (sz : Nat) (xs : List (List D)) (d : D) : Prop := Ext h0 h ∧ OwnSl h sz xs d ∧ ∀ i, tokOf d i → h0.next ≤ i

section
variable {h0 h h' : Heap} {sz : Nat} {xs : List (List D)} {d : D}
theorem Own.start (he : Ext h0 h) (sz : Nat) : Own h0 h sz [] .nilsl := ⟨he, .inl ⟨rfl, rfl⟩, fun _ hi => hi.elim⟩
theorem Own.isSl (ho : Own h0 h sz xs d) : IsSl sz xs d := ho.2.1.isSl
theorem Own.fin (ho : Own h0 h sz xs d) (hx : ∀ x ∈ xs, PlainC x) : Ext h0 h ∧ below h0.next (strip d) ∧ Fin sz xs (strip d) :=
  ⟨ho.1, below_mono (Nat.zero_le _) _ (ho.2.1.fin hx).1, (ho.2.1.fin hx).2⟩
theorem Own.ext (ho : Own h0 h sz xs d) (he : Ext h h') : Own h0 h' sz xs d :=
  ⟨ho.1.trans he, ho.2.1.keep he.2 he.1, ho.2.2⟩
theorem Own.flat (ho : Own h0 h sz xs d) : d.flat = true ∧ d.cells = [d] ∧ d.notTuple = true := by
  rcases ho.2.1 with ⟨rfl, _⟩ | ⟨t, rfl, _⟩ <;> exact ⟨rfl, rfl, rfl⟩
theorem Own.app {P : Program} {ys : List (List D)} {tk : Tk} {t e : TypeId} {K : D → Heap → Prop} (ho : Own h0 h sz xs d) (he : elemT P t = some e) (hz : zokT P e = true) (hs : szT P e = sz) (hp : 0 < sz) (hys : ∀ y ∈ ys, y.length = sz) (hy0 : ys ≠ [])
    (hb : (xs.length + ys.length) * bytesT P e ≤ lim) (hl : xs.length + ys.length ≤ lim) (hK : ∀ d' h', Own h0 h' sz (xs ++ ys) d' → K d' h') : onR (vappend P false h.next t d (.sl sz ys tk) h) K :=
  ho.2.1.app2 he hz hs hp hys hy0 hb hl fun d' h' o n keep tk c f => hK d' h' ⟨⟨Nat.le_trans ho.1.1 n, fun i hi => by rw [keep i (Nat.lt_of_lt_of_le hi ho.1.1) (fun q => by have := ho.2.2 i q; omega)]; exact ho.1.2 i hi⟩, o, fun i hi => Nat.le_trans ho.1.1 (tk i hi)⟩
theorem Own.appH {P : Program} {ys : List (List D)} {tk : Tk} {t e : TypeId} {K : D → Heap → Prop} {w : HidR K} (ho : Own h0 h sz xs d) (he : elemT P t = some e) (hz : zokT P e = true) (hs : szT P e = sz) (hp : 0 < sz) (hys : ∀ y ∈ ys, y.length = sz) (hy0 : ys ≠ [])
    (hb : (xs.length + ys.length) * bytesT P e ≤ lim) (hl : xs.length + ys.length ≤ lim) (hK : ∀ d' h', Own h0 h' sz (xs ++ ys) d' → K d' h') : onRH (vappend P false h.next t d (.sl sz ys tk) h) K w := ho.app he hz hs hp hys hy0 hb hl hK
end

/-! Bytes and numbers. -/
theorem u8_eq (b c : UInt8) : ((b.toNat : Int) == (c.toNat : Int)) = (b == c) := by
  by_cases e : b = c
  · simp [e]
  · rw [beq_eq_false_iff_ne.2 e, beq_eq_false_iff_ne.2 (fun h => e (UInt8.toNat_inj.1 (by omega)))]
theorem dec_nat (a b : Nat) : decide ((a : Int) > (b : Int)) = decide (a > b) := by
  by_cases e : a > b
  · rw [decide_eq_true e, decide_eq_true (by omega)]
  · rw [decide_eq_false e, decide_eq_false (by omega)]
theorem any_at {α : Type} {p : α → Bool} {l : List α} {i : Nat} (hi : i < l.length) (hp : p l[i] = true) : l.any p = true := List.any_eq_true.2 ⟨_, List.getElem_mem hi, hp⟩
theorem any_no {α : Type} {p : α → Bool} {l : List α} (h : ∀ j (hj : j < l.length), j < l.length → p l[j] = false) : l.any p = false := by
  rw [List.any_eq_false]
  intro x hx
  obtain ⟨j, hj, rfl⟩ := List.mem_iff_getElem.1 hx
  rw [h j hj hj]; exact Bool.false_ne_true
theorem all_next {α : Type} {p : α → Bool} {l : List α} {i : Nat} (hi : i < l.length) (hj : ∀ j (hj : j < l.length), j < i → p l[j] = false) (hp : p l[i] = false) : ∀ j (hj : j < l.length), j < i + 1 → p l[j] = false := fun j hjl hji => by
  rcases Nat.lt_succ_iff_lt_or_eq.1 hji with hji | rfl
  · exact hj j hjl hji
  · exact hp
end Go.V
namespace Go.V
open Go.RowKit (Below)

/-! Functions of the library that read memory or a table. -/
theorem VCall.of_lib2 {P : Program} {f : FuncId} {ds : List D} {d : D} (he : entersT P f = true)
    (hc : ∀ (M : Imm) (ρ : Ren) (va : Array Value) (w : World), (∀ b o v, M b o = some v → w.cell? ⟨b, o, none⟩ = some v) → (∀ g, P.globalNamed tabName = some g → Lib.TabIs P w tabName .u64 Lib.pow10Tab) → relL M ρ ds va.toList →
      Calls P f va w fun e w' => ∃ v, e = .returned v ∧ Below w.heap.size w w' ∧ ∀ (M' : Imm) (ρ' : Ren), rel M' ρ' d v) (h : Heap) :
    VCall P f ds h fun a b => a = d ∧ b = h := by
  refine ⟨he, fun w0 G M ρ w va hg0 hs hfr hr => (hc M ρ va w hs.imm (fun g hg => hg0.here hs.below hg) hr).mono fun e w' hq => ?_⟩
  obtain ⟨v, rfl, hb, hv⟩ := hq
  exact ⟨v, M, ρ, d, h, rfl, MLe.refl _, RLe.refl _, hs.world hb, hfr, hv M ρ, rfl, rfl⟩

theorem cell_lt {w : World} {b o : Nat} {v : Value} (h : w.cell? ⟨b, o, none⟩ = some v) : b < w.heap.size := by
  unfold World.cell? at h
  simp only at h
  split at h
  · rename_i hh
    exact (Array.getElem?_eq_some_iff.1 hh).1
  · cases h

theorem libJoin_ok {P : Program} {f : FuncId} (he : entersT P f = true)
    (h0 : ∀ (a : Option Addr) (c : Nat) (sep : ByteArray) (w : World), Calls P f #[.slice a 0 c, .string sep] w fun e w' => e = .returned (.string ⟨#[]⟩) ∧ w' = w)
    (hc : ∀ (bk o c : Nat) (xs : List ByteArray) (sep : ByteArray) (w : World), (∀ (j : Nat) x, xs[j]? = some x → w.cell? ⟨bk, o + j, none⟩ = some (.string x)) → bk < w.heap.size → xs.length ≤ 140737488355328 → xs.length ≤ c →
      (Lib.join (xs.map (·.data.toList)) sep.data.toList).length ≤ 140737488355328 → Calls P f #[.slice (some ⟨bk, o, none⟩) xs.length c, .string sep] w fun e w' => e = .returned (.string ⟨(Lib.join (xs.map (·.data.toList)) sep.data.toList).toArray⟩) ∧ Below w.heap.size w w')
    {l : List (List UInt8)} {d : D} (hd : IsSl 1 (l.map fun s => [D.str s]) d) {sep : List UInt8} (hl : (Lib.join l sep).length ≤ lim) (h : Heap) : VCall P f [d, .str sep] h fun a b => a = .str (Lib.join l sep) ∧ b = h := by
  have fin : ∀ (M' : Imm) (ρ' : Ren), rel M' ρ' (.str (Lib.join l sep)) (.string ⟨(Lib.join l sep).toArray⟩) := fun M' ρ' => by
    simp only [rel]
    exact ⟨_, rfl, by simp, hl⟩
  refine VCall.of_lib2 he (fun M ρ va w himm _ hr => ?_) h
  simp only [relL] at hr
  obtain ⟨v, vs, e, hv, v2, vs2, e2, hv2, e3⟩ := hr
  subst e3
  subst e2
  simp only [rel] at hv2
  obtain ⟨sb, rfl, rfl, hsl⟩ := hv2
  have ev : va = #[v, .string sb] := Array.ext' (by simpa using e)
  subst ev
  rcases hd with ⟨rfl, hn⟩ | ⟨tk, rfl⟩
  · have hl0 : l = [] := List.map_eq_nil_iff.1 hn
    subst hl0
    simp only [rel] at hv
    subst hv
    refine (h0 none 0 sb w).mono fun e w' hq => ?_
    obtain ⟨rfl, rfl⟩ := hq
    exact ⟨_, rfl, Below.refl _ _, fin⟩
  · simp only [rel] at hv
    obtain ⟨_, hlen, b, p, cap, ⟨sp, rfl, hsp⟩, hcap, hE, _⟩ := hv
    rw [List.length_map] at hlen hcap ⊢
    cases l with
    | nil =>
      refine (h0 (some ⟨b, p, sp⟩) cap sb w).mono fun e w' hq => ?_
      obtain ⟨rfl, rfl⟩ := hq
      exact ⟨_, rfl, Below.refl _ _, fin⟩
    | cons x r =>
      have hs : sp = none := hsp.resolve_right (by simp only [List.length_cons] at hcap; omega)
      subst hs
      let xs : List ByteArray := (x :: r).map fun s => ⟨s.toArray⟩
      have hxs : xs.map (·.data.toList) = x :: r := by simp [xs, List.map_map, Function.comp_def]
      have hxl : xs.length = (x :: r).length := by simp only [xs, List.length_map]
      have hcells : ∀ (j : Nat) y, xs[j]? = some y → w.cell? ⟨b, p + j, none⟩ = some (.string y) := fun j y hj => by
        simp only [xs, List.getElem?_map, Option.map_eq_some_iff] at hj
        obtain ⟨s, hs, rfl⟩ := hj
        obtain ⟨_, hC⟩ := relE_get hE j [D.str s] (by rw [List.getElem?_map, hs]; rfl)
        obtain ⟨_, v, hM, hv⟩ := relC_get hC 0 (.str s) rfl
        simp only [rel] at hv
        obtain ⟨bb, rfl, rfl, _⟩ := hv
        rw [Nat.mul_one, Nat.add_zero] at hM
        exact himm _ _ _ hM
      have hbk : b < w.heap.size := cell_lt (hcells 0 _ rfl)
      have := hc b p cap xs sb w hcells hbk (by rw [hxl]; unfold lim at hlen; exact hlen) (by rw [hxl]; exact hcap) (by rw [hxs]; unfold lim at hl; exact hl)
      rw [hxl, hxs] at this
      refine this.mono fun e w' hq => ?_
      obtain ⟨rfl, hb⟩ := hq
      exact ⟨_, rfl, hb, fin⟩

theorem libItoa_ok {P : Program} {f : FuncId} (he : entersT P f = true) {g : Nat} (hg : P.globalNamed tabName = some g)
    (hc : ∀ (n : Int), -9223372036854775808 ≤ n → n ≤ 9223372036854775807 → ∀ w : World, Lib.TabIs P w tabName .u64 Lib.pow10Tab → Calls P f #[.int .i64 n] w fun e w' => e = .returned (.string ⟨(Lib.itoa n).toArray⟩) ∧ ∃ k os, w' = Go.Sort.grow (w.drewN k) os)
    {n : Int} (h1 : -9223372036854775808 ≤ n) (h2 : n ≤ 9223372036854775807) (hl : (Lib.itoa n).length ≤ lim) (h : Heap) : VCall P f [.int .i64 n] h fun a b => a = .str (Lib.itoa n) ∧ b = h := by
  refine VCall.of_lib2 he (fun M ρ va w himm ht hr => ?_) h
  simp only [relL, rel] at hr
  obtain ⟨v, vs, e, ⟨rfl, hf⟩, rfl⟩ := hr
  have ev : va = #[.int .i64 n] := Array.ext' (by simpa using e)
  subst ev
  refine (hc n h1 h2 w (ht g hg)).mono fun e w' hq => ?_
  obtain ⟨rfl, k, os, rfl⟩ := hq
  refine ⟨_, rfl, Lib.below_grow _ _ (Nat.le_refl _) _ _, fun M' ρ' => ?_⟩
  simp only [rel]
  exact ⟨_, rfl, by simp, hl⟩
end Go.V
namespace Go.V

/-! Several lists that a function builds. -/
def Owns (h0 h : Heap) (sz : Nat) (L : List (List (List D) × D)) : Prop :=
  (∀ p ∈ L, OwnSl h sz p.1 p.2 ∧ ∀ i, tokOf p.2 i → h0.next ≤ i) ∧ L.Pairwise fun p q => ∀ i, tokOf p.2 i → ¬ tokOf q.2 i

section
variable {h0 h h' : Heap} {sz : Nat} {L : List (List (List D) × D)}
theorem Owns.loc (ho : Owns h0 h sz L) (hn : h.next ≤ h'.next) (hk : ∀ i, h.at' i = some .tok → h'.at' i = h.at' i) : Owns h0 h' sz L :=
  ⟨fun p hp => ⟨(ho.1 p hp).1.loc hn fun i hi => hk i ((ho.1 p hp).1.tok hi).2, (ho.1 p hp).2⟩, ho.2⟩
theorem Owns.set (ho : Owns h0 h sz L) {id : Nat} {o o' : Obj} (hi : h.at' id = some o) (hne : o ≠ .tok) : Owns h0 (h.set id o') sz L :=
  ho.loc (Nat.le_refl _) fun i ht => set_keep fun e => by subst e; rw [hi] at ht; exact hne (Option.some.inj ht)
theorem Owns.new (ho : Owns h0 h sz L) {id : Nat} (hid : h.at' id = none) (o : Obj) : Owns h0 (h.new id o) sz L :=
  ho.loc (next_new _ _ _) fun i ht => new_keep fun e => by subst e; rw [hid] at ht; cases ht
theorem Owns.sl (ho : Owns h0 h sz L) {xs : List (List D)} {d : D} (hp : (xs, d) ∈ L) : OwnSl h sz xs d := (ho.1 _ hp).1
theorem Owns.flat (ho : Owns h0 h sz L) {xs : List (List D)} {d : D} (hp : (xs, d) ∈ L) : d.flat = true ∧ d.cells = [d] ∧ d.notTuple = true := by
  rcases (ho.1 _ hp).1 with ⟨e, _⟩ | ⟨t, e, _⟩ <;> simp only at e <;> subst e <;> exact ⟨rfl, rfl, rfl⟩
theorem Owns.appAt {P : Program} {pre post : List (List (List D) × D)} {xs ys : List (List D)} {d : D} {tk : Tk} {t e : TypeId} {K : D → Heap → Prop} (ho : Owns h0 h sz (pre ++ (xs, d) :: post)) (hn : h0.next ≤ h.next) (he : elemT P t = some e) (hz : zokT P e = true) (hs : szT P e = sz) (hp : 0 < sz) (hys : ∀ y ∈ ys, y.length = sz) (hy0 : ys ≠ [])
    (hb : (xs.length + ys.length) * bytesT P e ≤ lim) (hl : xs.length + ys.length ≤ lim) (hK : ∀ d' h', Owns h0 h' sz (pre ++ (xs ++ ys, d') :: post) → h.next ≤ h'.next → (∀ i, i < h.next → (i < h0.next ∨ h.at' i ≠ some .tok) → h'.at' i = h.at' i) → d'.cells = [d'] → d'.flat = true → K d' h') : onR (vappend P false h.next t d (.sl sz ys tk) h) K := by
  have hd := ho.1 (xs, d) (by simp)
  refine hd.1.app2 he hz hs hp hys hy0 hb hl fun d' h' o n keep tkn c f => hK d' h' ?_ n (fun i hi hne => keep i hi fun e => hne.elim (fun q => by have := hd.2 i e; omega) fun q => q (hd.1.tok e).2) c f
  have hpw := ho.2
  rw [List.pairwise_append, List.pairwise_cons] at hpw
  obtain ⟨w1, ⟨w2, w3⟩, w4⟩ := hpw
  have old : ∀ p, p ∈ pre ∨ p ∈ post → OwnSl h sz p.1 p.2 ∧ (∀ i, tokOf p.2 i → h0.next ≤ i) ∧ ∀ i, tokOf p.2 i → ¬ tokOf d i := fun p hp => by
    have hm : p ∈ pre ++ (xs, d) :: post := by rcases hp with hp | hp <;> simp [hp]
    refine ⟨(ho.1 p hm).1, (ho.1 p hm).2, fun i hi => ?_⟩
    rcases hp with hp | hp
    · exact w4 p hp (xs, d) (by simp) i hi
    · exact fun q => w2 p hp i q hi
  refine ⟨fun p hp => ?_, ?_⟩
  · rcases List.mem_append.1 hp with hp | hp
    · obtain ⟨a1, a2, a3⟩ := old p (.inl hp)
      exact ⟨a1.loc n fun i hi => keep i (a1.tok hi).1 (a3 i hi), a2⟩
    · rcases List.mem_cons.1 hp with rfl | hp
      · exact ⟨o, fun i hi => Nat.le_trans hn (tkn i hi)⟩
      · obtain ⟨a1, a2, a3⟩ := old p (.inr hp)
        exact ⟨a1.loc n fun i hi => keep i (a1.tok hi).1 (a3 i hi), a2⟩
  · rw [List.pairwise_append, List.pairwise_cons]
    refine ⟨w1, ⟨fun p hp i hi hq => ?_, w3⟩, fun p hp q hq => ?_⟩
    · have := tkn i hi
      have := ((old p (.inr hp)).1.tok hq).1
      omega
    · rcases List.mem_cons.1 hq with rfl | hq
      · intro i hi hj
        have := tkn i hj
        have := ((old p (.inl hp)).1.tok hi).1
        omega
      · exact w4 p hp q (List.mem_cons_of_mem _ hq)
end

/-! Rules for scopes and labels. -/
section
variable {P : Program} {g : Cfg} {n : Nat} {ro : Option Nat} {Q : Exit → Frm → Heap → Prop} {fr : Frm} {h : Heap}
@[go_sem ↓] theorem vwp_scope (c : Code) : vwp P g n ro (.scope c) Q fr h = vwp P g n ro c (scopeQ Q) fr h := (rfl)
@[go_sem ↓] theorem vwp_label (i : Nat) : vwp P g n ro (.label i) Q fr h = Q .normal fr h := (rfl)
@[go_sem ↓] theorem scopeQ_normal : scopeQ Q .normal fr h = Q .normal fr h := (rfl)
@[go_sem ↓] theorem scopeQ_ret : scopeQ Q .ret fr h = Q .ret fr h := (rfl)
@[go_sem ↓] theorem scopeQ_exit (i : Nat) : scopeQ Q (.exit i) fr h = Q (.exit i) fr h := (rfl)
end
end Go.V
namespace Go.V
open Go.RowKit (Below)
open Go.Shelf Go.Proofs

/-! The string of a builder that holds nothing. -/
theorem stringNil_ok {P : Program} {ρ0 : Go.Shelf.Ren} (L : Lays.n169 P ρ0) (X : Builder.Extra P ρ0) (he : entersT P (ρ0.f 169) = true) {id : Nat} {a : D} {h : Heap} (hi : h.at' id = some (.trow (ρ0.t 72) true [a, .nilsl])) :
    VCall P (ρ0.f 169) [.ptr id 0] h fun r h' => h' = h ∧ r = .str [] := by
  refine ⟨he, fun w0 G M ρ w va hg0 hs hfr hr => ?_⟩
  simp only [relL, rel] at hr
  obtain ⟨v, vs, hva, ⟨l, hl, rfl⟩, rfl⟩ := hr
  have hva' : va = #[.pointer (some ⟨l.blk, 0, none⟩)] := Array.ext' (by simpa using hva)
  subst hva'
  obtain ⟨l', g1, g2, hM, c, e0, hw, hls, hlen, hcells, hty, hfu⟩ := hs.live id _ hi
  rw [hl] at g1; cases g1
  have hsz : c.size = 2 := hfu rfl
  obtain ⟨_, u, hu1, hu2⟩ := hcells 0 a rfl
  obtain ⟨_, x, hx1, hx2⟩ := hcells 1 .nilsl rfl
  simp only [rel] at hx2
  subst hx2
  have hc : c = #[u, .slice none 0 0] := by
    apply Array.ext
    · simp [hsz]
    · intro i h1 h2
      rw [hsz] at h1
      match i, h1 with
      | 0, _ => simpa [Array.getElem?_eq_getElem (show 0 < c.size by omega)] using hu1
      | 1, _ => simpa [Array.getElem?_eq_getElem (show 1 < c.size by omega)] using hx1
  rw [hc, hty] at hw
  refine (Any.Builder_String_nil L X w.heap.size l.blk u w hw).mono fun e w' hq => ?_
  obtain ⟨rfl, hb⟩ := hq
  refine ⟨_, M, ρ, .str [], h, rfl, MLe.refl _, RLe.refl _, hs.world hb, hfr, ?_, rfl, rfl⟩
  simp only [rel]
  exact ⟨⟨#[]⟩, rfl, rfl, by simp⟩
end Go.V
