/- From a contract on abstract values to a row, and rules of evaluation. No condition. -/
import Derived.Test.YtnfmcjeamolljaaGreatDoorVhC
import Derived.Carry
import Derived.ChangeArms
import Derived.ChangeSame
import Derived.Test.YtnfmcjeamolljaaGreatDoorVhB
import Derived.KernelRfl
import Derived.Shelf.Strings.Search1
import Derived.Shelf.Strings.Count
import Derived.Shelf.Strings.SlTrimAscii
import Derived.Sort.Row
set_option linter.unusedSimpArgs false
set_option linter.unusedVariables false
set_option linter.constructorNameAsVariable false
set_option linter.deprecated false
namespace Go.V
open Go.RowKit (Below)

/-! The arguments of a statement, bb they are read, bb abstract values. -/
def mapO {α β : Type} (f : α → Option β) : List α → Option (List β)
  | [] => some []
  | a :: bb => match f a with
    | none => none
    | some b => match mapO f bb with
      | none => none
      | some bs => some (b :: bs)

theorem mapO_get {α β : Type} {f : α → Option β} : ∀ {bb : List α} {bs : List β}, mapO f bb = some bs → bs.length = bb.length ∧ ∀ (i : Nat) (b : β), bs[i]? = some b → ∃ a, bb[i]? = some a ∧ f a = some b
  | [], bs, h => by cases h; exact ⟨rfl, fun i b hb => by simp at hb⟩
  | a :: bb, bs, h => by
    simp only [mapO] at h
    split at h
    · cases h
    · rename_i b hb
      split at h
      · cases h
      · rename_i bs' hbs
        cases h
        obtain ⟨h1, h2⟩ := mapO_get hbs
        refine ⟨by simp [h1], fun i b' hi => ?_⟩
        cases i with
        | zero => cases hi; exact ⟨a, rfl, hb⟩
        | succ i => simpa using h2 i b' (by simpa using hi)

section
variable {H : Type}

def celF (P : Program) (r : TypeId → DataW H → Option (List D)) : List Field → Nat → List (DataW H) → Option (List D)
  | [], _, [] => some []
  | f :: fs, off, d :: ds => if f.offset = off then (match r f.type d with
    | some c => if c.length = P.cellsOf f.type then (celF P r fs (off + c.length) ds).map (c ++ ·) else none
    | none => none) else none
  | _, _, _ => none

def celD (P : Program) : Nat → TypeId → DataW H → Option (List D)
  | 0, _, _ => none
  | k + 1, t, d => match P.underlying t with
    | some .bool => match d with
      | .lit (.bool b) => some [.bool b]
      | _ => none
    | some (.int _) => match d with
      | .lit (.int k n) => some [.int k n]
      | _ => none
    | some .string => match d with
      | .lit (.string l) => if l.length ≤ lim then some [.str l] else none
      | _ => none
    | some (.slice e) => match d with
      | .nil => some [.nilsl]
      | .slice elems _ => if decide (0 < P.cellsOf e) && decide (elems.length ≤ lim) then (match mapO (celD P k e) elems with
        | some xs => if xs.all (fun x => x.length == P.cellsOf e) then some [.sl (P.cellsOf e) xs .no] else none
        | none => none) else none
      | _ => none
    | some (.struct fs) => match d with
      | .agg parts => match celF P (celD P k) fs.toList 0 parts with
        | some ds => if ds.length = P.cellsOf t then some ds else none
        | none => none
      | _ => none
    | _ => none

def cellsM (w : World) : Imm := fun b o => w.cell? ⟨b, o, none⟩

variable {enc : TypeId × Value → H} {P : Program} {w : World} {base : Nat} {held : Bool} {ρ : Ren}

theorem cells?_get {a : Addr} {n : Nat} {cs : List Value} (h : w.cells? base a n = some cs) : cs.length = n ∧ ∀ i, i < n → w.cell? (a.add i) = cs[i]? := by
  unfold World.cells? at h
  split at h
  · refine ⟨by simpa using mapM_some_length h, fun i hi => mapM_some_get h i i (by simp [hi])⟩
  · cases h

theorem spot_none {a : Addr} {v : Value} (h : w.cell? a = some v) : a.spot = none := by
  unfold World.cell? at h
  split at h
  · split at h
    · cases h
    · rename_i hs
      cases ha : a.spot with
      | none => rfl
      | some x => rw [ha] at hs; exact absurd rfl hs
  · cases h

theorem add_plain (b p i : Nat) : (⟨b, p, none⟩ : Addr).add i = ⟨b, p + i, none⟩ := add_none b p i

theorem celF_rel {r : TypeId → DataW H → Option (List D)} {n : Nat} (ih : ∀ t cs x ds, DataW.trod enc P w base (fun _ => true) held n t cs = some x → r t x.1 = some ds → relL (cellsM w) ρ ds cs ∧ ds.all D.flat = true) {cs : List Value} {total : Nat} (htot : cs.length = total) :
    ∀ (fs : List Field) (off : Nat) (xs : List (DataW H × List MemPlace)) (ds : List D), (∀ (i : Nat) (f : Field), fs[i]? = some f → DataW.trod enc P w base (fun _ => true) held n f.type ((cs.drop f.offset).take (P.cellsOf f.type)) = xs[i]?) → xs.length = fs.length →
      celF P r fs off (xs.map (·.1)) = some ds → off + ds.length = total → relL (cellsM w) ρ ds (cs.drop off) ∧ ds.all D.flat = true
  | [], off, [], ds, _, _, h, ht => by
    simp only [List.map_nil, celF] at h
    cases h
    simp only [List.length_nil, Nat.add_zero] at ht
    refine ⟨?_, rfl⟩
    simp only [relL]
    apply List.eq_nil_of_length_eq_zero
    simp; omega
  | f :: fs, off, x :: xs, ds, hx, hl, h, ht => by
    simp only [List.map_cons, celF] at h
    split at h
    · rename_i hoff
      split at h
      · rename_i c hc
        split at h
        · rename_i hcl
          obtain ⟨rest, hr, rfl⟩ := Option.map_eq_some_iff.1 h
          have h0 := hx 0 f rfl
          simp only [List.getElem?_cons_zero] at h0
          obtain ⟨k1, k2⟩ := ih _ _ _ _ h0 hc
          have hrest := celF_rel ih htot fs (off + c.length) xs rest (fun i g hg => by
            have := hx (i + 1) g (by simpa using hg)
            simpa using this) (by simpa using hl) hr (by rw [List.length_append] at ht; omega)
          refine ⟨?_, by rw [List.all_append, k2, hrest.2]; rfl⟩
          have hsp : cs.drop off = (cs.drop off).take c.length ++ cs.drop (off + c.length) := by
            rw [← List.drop_drop, List.take_append_drop]
          rw [hsp]
          refine relL_append ?_ hrest.1
          rw [← hoff, hcl]
          exact k1
        · cases h
      · cases h
    · cases h
  | [], _, _ :: _, _, _, hl, _, _ => by simp at hl
  | _ :: _, _, [], _, _, hl, _, _ => by simp at hl

/-- What is read as data is related to the data's abstract value. -/
theorem open_rel : ∀ (k n : Nat) (t : TypeId) (cs : List Value) (x : DataW H × List MemPlace) (ds : List D),
    DataW.trod enc P w base (fun _ => true) held n t cs = some x → celD P k t x.1 = some ds → relL (cellsM w) ρ ds cs ∧ ds.all D.flat = true
  | 0, _, _, _, _, _, _, h => by cases h
  | k + 1, n, t, cs, x, ds, h, hc => by
    simp only [celD] at hc
    split at hc
    · rename_i hu
      obtain ⟨b, rfl, rfl⟩ := DataW.trod_bool hu h
      cases hc
      exact ⟨⟨_, _, rfl, rel_bool b, rfl⟩, rfl⟩
    · rename_i q hu
      obtain ⟨m, rfl, rfl, hw⟩ := DataW.trod_int hu h
      cases hc
      refine ⟨⟨_, _, rfl, rel_int ?_, rfl⟩, rfl⟩
      rw [fits_iff]
      simpa [Lit.wf] using hw
    · rename_i hu
      obtain ⟨s, rfl, rfl, hs⟩ := DataW.trod_string hu h
      simp only at hc
      split at hc
      · rename_i hlim
        cases hc
        refine ⟨⟨_, _, rfl, ?_, rfl⟩, rfl⟩
        simp only [rel]
        exact ⟨s, rfl, rfl, hlim⟩
      · cases hc
    · rename_i e hu
      rcases DataW.trod_slice hu h with ⟨rfl, rfl⟩ | ⟨a, len, cap, elems, rest, m, rfl, rfl, rfl, hb, hle, hmax, hlen, hel, hsp, _⟩
      · cases hc
        exact ⟨⟨_, _, rfl, by simp only [rel], rfl⟩, rfl⟩
      · simp only at hc
        split at hc
        · rename_i hcond
          simp only [Bool.and_eq_true, decide_eq_true_eq, List.length_map] at hcond
          obtain ⟨h0, hlim⟩ := hcond
          split at hc
          · rename_i xs hxs
            split at hc
            · rename_i hall
              cases hc
              obtain ⟨hxl, hxg⟩ := mapO_get hxs
              rw [List.length_map] at hxl
              have first : ∀ i y, (w.cells? base (a.add (i * P.cellsOf e)) (P.cellsOf e)).bind (DataW.trod enc P w base (fun _ => true) held m e) = some y → i = 0 → a.spot = none := fun i y hy hi => by
                obtain ⟨cs', hcs, _⟩ := Option.bind_eq_some_iff.1 hy
                obtain ⟨g1, g2⟩ := cells?_get hcs
                have := g2 0 h0
                subst hi
                rw [show (a.add (0 * P.cellsOf e)).add 0 = a by simp [Addr.add]] at this
                cases hcs0 : cs'[0]? with
                | none => rw [List.getElem?_eq_none_iff] at hcs0; omega
                | some v => rw [hcs0] at this; exact spot_none this
              have hspot : a.spot = none ∨ cap = 0 := by
                by_cases hl0 : 0 < len
                · left
                  have := hel 0 hl0
                  cases he0 : elems[0]? with
                  | none => rw [List.getElem?_eq_none_iff] at he0; omega
                  | some y => rw [he0] at this; exact first 0 y this rfl
                · by_cases hc0 : cap = 0
                  · exact .inr hc0
                  · left
                    obtain ⟨r1, r2⟩ := hsp rfl
                    have := r2 0 (by omega)
                    cases he0 : rest[0]? with
                    | none => rw [List.getElem?_eq_none_iff] at he0; omega
                    | some y => rw [he0] at this; exact first _ y this (by omega)
              refine ⟨⟨_, _, rfl, ?_, rfl⟩, rfl⟩
              simp only [rel]
              obtain ⟨b, p, sp⟩ := a
              refine ⟨h0, by omega, b, p, cap, ⟨sp, by rw [hxl, hlen], hspot⟩, by omega, relE_of_get fun i z hz => ?_, trivial⟩
              have hzl : z.length = P.cellsOf e := by simpa using List.all_eq_true.1 hall z (List.mem_of_getElem? hz)
              refine ⟨hzl, ?_⟩
              obtain ⟨d, hd, hdz⟩ := hxg i z hz
              rw [List.getElem?_map] at hd
              cases hy : elems[i]? with
              | none => rw [hy] at hd; cases hd
              | some y =>
                rw [hy] at hd
                cases hd
                have hi : i < len := by have := (List.getElem?_eq_some_iff.1 hy).1; omega
                have hsn : sp = none := hspot.resolve_right (by omega)
                subst hsn
                have := hel i hi
                rw [hy] at this
                obtain ⟨cs', hcs, htr⟩ := Option.bind_eq_some_iff.1 this
                obtain ⟨g1, g2⟩ := cells?_get hcs
                obtain ⟨k1, k2⟩ := open_rel k m e cs' y z htr hdz
                refine relC_of_get fun j d hj => ⟨List.all_eq_true.1 k2 d (List.mem_of_getElem? hj), ?_⟩
                obtain ⟨v, v1, v2⟩ := relL_get k1 j d hj
                refine ⟨v, ?_, v2⟩
                have hjl : j < P.cellsOf e := by have := (List.getElem?_eq_some_iff.1 hj).1; omega
                have := g2 j hjl
                rw [add_plain, add_plain] at this
                unfold cellsM
                rw [← v1, ← this]
            · cases hc
          · cases hc
        · cases hc
    · rename_i fs hu
      obtain ⟨xs, m, rfl, rfl, hlen, hxl, hx⟩ := DataW.trod_struct hu h
      simp only at hc
      split at hc
      · rename_i ds' hds
        split at hc
        · rename_i hl
          cases hc
          have := celF_rel (ρ := ρ) (n := m) (fun t cs x ds h1 h2 => open_rel k m t cs x ds h1 h2) hlen fs.toList 0 xs ds (fun i f hf => hx i f (by simpa using hf)) (by rw [Array.length_toList]; exact hxl) hds (by rw [Nat.zero_add]; exact hl)
          simpa using this
        · cases hc
      · cases hc
    · cases hc

theorem keptBut_of {W W' : World} (hb : Below W.heap.size W W') (may : MemPlace → Prop) : W.keptBut W' may := by
  refine ⟨hb.os, hb.output, fun i hi => ?_⟩
  rw [hb.block i hi]
  cases W.heap[i]? with
  | none => trivial
  | some o =>
    cases o with
    | cells c t fr => exact ⟨rfl, rfl, rfl, fun _ _ => rfl⟩
    | map es clock => exact .inr ⟨rfl, rfl⟩
    | _ => rfl

theorem frozen_of {W W' : World} (hb : Below W.heap.size W W') {a : Addr} (ha : a.block < W.heap.size) : W'.frozen? a = W.frozen? a := by
  unfold World.frozen?
  rw [hb.block _ ha]

theorem sameAt_of {W W' : World} (hb : Below W.heap.size W W') {p : MemPlace} (hp : p.block < W.heap.size) : W.sameAt W' p := hb.same hp

theorem trodAll_stays {W W' : World} (hl : laidOutB P = true) {sp' : Nat → Bool} (hb : Below W.heap.size W W') : ∀ {ts : List TypeId} {vs : List Value} {ds : List (DataW H)} {ps : List MemPlace}, (∀ t ∈ ts, P.readableRec t = true ∧ t < P.types.size) →
    DataW.TrodAll enc P W 0 (fun _ => true) true ts vs ds ps → (∀ p ∈ ps, p.block < W.heap.size) → (∀ p ∈ ps, sp' p.block = true) → DataW.TrodAll enc P W' 0 sp' true ts vs ds ps
  | [], [], [], _, _, h, _, _ => h
  | t :: ts, v :: vs, d :: ds, ps, ht, h, hlt, hs => by
    simp only [DataW.TrodAll] at h ⊢
    obtain ⟨p, q, h1, h2, rfl⟩ := h
    exact ⟨p, q, WideElems.Trod_stays hl (ht t (by simp)).1 (ht t (by simp)).2 h1 (fun x hx => sameAt_of hb (hlt x (by simp [hx]))) (fun x hx => hs x (by simp [hx])),
      trodAll_stays hl hb (fun t' ht' => ht t' (by simp [ht'])) h2 (fun x hx => hlt x (by simp [hx])) (fun x hx => hs x (by simp [hx])), rfl⟩
  | [], _ :: _, _, _, _, h, _, _ => by simp [DataW.TrodAll] at h
  | [], [], _ :: _, _, _, h, _, _ => by simp [DataW.TrodAll] at h
  | _ :: _, [], _, _, _, h, _, _ => by simp [DataW.TrodAll] at h
  | _ :: _, _ :: _, [], _, _, h, _, _ => by simp [DataW.TrodAll] at h

/-- What a statement asks at the end: true, and the arguments read as before. -/
theorem post_true {f : Func} {s : ChangeSpec} {apart fresh handsOn again : Bool} {W W' : World} {args : Array Value} {ds gs : List (DataW H)} {before : List MemPlace} {tb : TypeId} (hl : laidOutB P = true) (hts : ∀ t ∈ f.params.toList, P.readableRec t = true ∧ t < P.types.size)
    (hvars : s.vars = []) (hfn : s.fn H ds = { results := [.lit (.bool true)], args := ds }) (hres : f.resultTypes = #[tb]) (htb : P.underlying tb = some .bool)
    (hW : DataW.Whole enc P f.params.toList s.vars apart W args.toList ds gs before) (hb : Below W.heap.size W W') : s.post enc P f apart fresh handsOn again W args (.bool true) W' := by
  have hW' := hW
  obtain ⟨p, q, h1, h2, hps, hz, hn⟩ := hW
  rw [hvars] at h2
  obtain ⟨rfl, rfl⟩ := ChangeShapes.trodVars_none h2
  simp only [List.append_nil] at hps
  subst hps
  have hlt : ∀ x ∈ before, x.block < W.heap.size := hW'.lt
  have hargs : ∀ sp : Nat → Bool, (∀ x ∈ before, sp x.block = true) → DataW.TrodAll enc P W' 0 sp true f.params.toList args.toList ds before := fun sp hs => trodAll_stays hl hb hts h1 hlt hs
  have hr : ∀ (b : Nat) (sp : Nat → Bool) (hd : Bool), DataW.TrodAll enc P W' b sp hd f.resultTypes.toList ((Value.bool true).resultList f.resultTypes.size) [.lit (.bool true)] [] := fun b sp hd => by
    rw [hres]
    show DataW.TrodAll enc P W' b sp hd [tb] [.bool true] _ _
    refine ⟨[], [], ⟨1, ?_⟩, rfl, rfl⟩
    simp [DataW.trod, htb, Value.cells]
  have hall : DataW.TrodAll enc P W' 0 (fun _ => true) true (f.resultTypes.toList ++ f.params.toList) ((Value.bool true).resultList f.resultTypes.size ++ args.toList) ([.lit (.bool true)] ++ ds) ([] ++ before) :=
    ChangeShapes.trodAll_append (hargs _ fun _ _ => rfl) (hr _ _ _)
  refine ⟨ds, [], before, [], before, [], hW', ?_, ?_, ?_, keptBut_of hb _, fun _ => ⟨fun j t r h1 h2 => ?_, [.lit (.bool true)] ++ ds, [], [] ++ before, ⟨[] ++ before, [], hall, ?_, by simp, ?_, ?_⟩, fun x hx _ => by simpa using hx⟩⟩
  · rw [List.append_nil, hfn]; exact hr _ _ _
  · rw [List.append_nil, hfn]; exact hargs _ fun x hx => by simpa using hlt x hx
  · rw [List.append_nil, hfn, hvars]; rfl
  · rw [hres] at h1 h2
    have hj : j = 0 := by
      have := (Array.getElem?_eq_some_iff.1 h1).1
      simp at this
      omega
    subst hj
    have e1 : t = tb := by simpa using h1.symm
    have e2 : r = .bool true := by simpa [Value.resultList] using h2.symm
    rw [e1, e2]
    simp [Value.okWide, htb, Cell.okWide, Cell.ok]
  · rw [hvars]; rfl
  · intro b off hp
    have hp' : MemPlace.cell b off ∈ before := by simpa using hp
    rw [frozen_of hb (hlt _ hp')]
    exact hz b off (by simpa using hp')
  · intro ha
    simpa using hn ha

def argD (P : Program) (k : Nat) (t : TypeId) (d : DataW H) : Option D :=
  match celD P k t d with
  | none => none
  | some ds => match agT P t with
    | some ag => if ag then some (.agg ds) else (match ds with
      | [x] => some x
      | _ => none)
    | none => none

def ArgsAre (P : Program) : List TypeId → List (DataW H) → List D → Prop
  | [], [], [] => True
  | t :: ts, d :: ds, x :: xs => (∃ k, argD P k t d = some x) ∧ ArgsAre P ts ds xs
  | _, _, _ => False

theorem okWide_cells {r : Reach} {t : TypeId} {v : Value} (hok : Value.okWide P w r base t v) : (∃ cs, v = .agg cs) ∨ v.cells = #[v] := by
  cases v <;> first | exact .inr rfl | exact .inl ⟨_, rfl⟩

theorem arg_rel {r : Reach} {b : Nat} {t : TypeId} {v : Value} {d : DataW H} {ps : List MemPlace} {k : Nat} {da : D} (hok : Value.okWide P w r b t v) (htr : DataW.Trod enc P w base (fun _ => true) held t v d ps) (ha : argD P k t d = some da) : rel (cellsM w) ρ da v := by
  obtain ⟨n, hn⟩ := htr
  unfold argD at ha
  split at ha
  · cases ha
  · rename_i ds hds
    obtain ⟨k1, k2⟩ := open_rel (ρ := ρ) k n t v.cells.toList (d, ps) ds hn hds
    split at ha
    · rename_i ag hag
      unfold agT at hag
      split at ha
      · rename_i hagt
        subst hagt
        cases ha
        simp only [rel]
        unfold Value.okWide at hok
        split at hag
        · rename_i fs hu
          rw [hu] at hok
          obtain ⟨cs, rfl, _⟩ := hok
          exact ⟨cs, rfl, k1, k2⟩
        · rename_i q e hu
          rw [hu] at hok
          obtain ⟨cs, rfl, _⟩ := hok
          exact ⟨cs, rfl, k1, k2⟩
        · cases hag
        · cases hag
      · rename_i hagf
        split at ha
        · cases ha
          rcases okWide_cells hok with ⟨cs, rfl⟩ | hc
          · exfalso
            unfold Value.okWide at hok
            have hag' : ag = false := by simpa using hagf
            subst hag'
            split at hag
            · cases hag
            · cases hag
            · rename_i u hs harr hu
              rw [hu] at hok
              split at hok
              · rename_i fs e; cases e; exact absurd hu (by first | exact hs _ | exact fun h => by simp_all)
              · rename_i q e' e; cases e; exact absurd hu (by first | exact harr _ _ | exact fun h => by simp_all)
              · unfold Cell.okWide at hok
                rw [hu] at hok
                cases u <;> simp [Cell.ok, hu] at hok
            · cases hag
          · rw [hc] at k1
            simp only [relL] at k1
            obtain ⟨v', vs', e, h1, h2⟩ := k1
            subst h2
            have : v' = v := by simpa using e.symm
            rw [← this]; exact h1
        · cases ha
    · cases ha

theorem args_rel {r : Reach} {b : Nat} : ∀ {ts : List TypeId} {vs : List Value} {ds : List (DataW H)} {ps : List MemPlace} {das : List D}, (∀ (j : Nat) t v, ts[j]? = some t → vs[j]? = some v → Value.okWide P w r b t v) →
    DataW.TrodAll enc P w base (fun _ => true) held ts vs ds ps → ArgsAre P ts ds das → relL (cellsM w) ρ das vs
  | [], [], [], _, [], _, _, _ => rfl
  | t :: ts, v :: vs, d :: ds, ps, x :: xs, hok, h, ha => by
    simp only [DataW.TrodAll] at h
    obtain ⟨p, q, h1, h2, _⟩ := h
    simp only [ArgsAre] at ha
    obtain ⟨⟨k, hx⟩, hxs⟩ := ha
    exact ⟨v, vs, rfl, arg_rel (hok 0 t v rfl rfl) h1 hx, args_rel (fun j t' v' e1 e2 => hok (j + 1) t' v' (by simpa using e1) (by simpa using e2)) h2 hxs⟩
  | [], _ :: _, _, _, _, _, h, _ => by simp [DataW.TrodAll] at h
  | [], [], _ :: _, _, _, _, h, _ => by simp [DataW.TrodAll] at h
  | _ :: _, [], _, _, _, _, h, _ => by simp [DataW.TrodAll] at h
  | _ :: _, _ :: _, [], _, _, _, h, _ => by simp [DataW.TrodAll] at h
  | [], [], [], _, _ :: _, _, _, ha => by simp [ArgsAre] at ha
  | _ :: _, _ :: _, _ :: _, _, [], _, _, ha => by simp [ArgsAre] at ha

/-- A statement's contract, from the abstract one. -/
theorem law_contract {W : World} {f : FuncId} {fn : Func} {s : ChangeSpec} {apart fresh handsOn again : Bool} {b : Nat} {args : Array Value} {ds gs : List (DataW H)} {before : List MemPlace} {tb : TypeId} {das : List D} (hl : laidOutB P = true)
    (hts : ∀ t ∈ fn.params.toList, P.readableRec t = true ∧ t < P.types.size) (hvars : s.vars = []) (hfn : s.fn H ds = { results := [.lit (.bool true)], args := ds }) (hres : fn.resultTypes = #[tb]) (htb : P.underlying tb = some .bool)
    (hval : ∀ (j : Nat) t v, fn.params[j]? = some t → args[j]? = some v → Value.okWide P W .any b t v) (hW : DataW.Whole enc P fn.params.toList s.vars apart W args.toList ds gs before)
    (hda : ArgsAre P fn.params.toList ds das) (hgood : ∀ g, P.globalNamed tabName = some g → Lib.TabIs P W tabName .u64 Lib.pow10Tab) (hv : VCall P f das Heap.emp fun d _ => d = .bool true) :
    Calls P f args W fun e W' => ∃ v, e = .returned v ∧ s.post enc P fn apart fresh handsOn again W args v W' := by
  have hW' := hW
  obtain ⟨p, q, h1, _⟩ := hW
  have hr : relL (cellsM W) (fun _ => none) das args.toList := args_rel (fun j t v e1 e2 => hval j t v (by simpa using e1) (by simpa using e2)) h1 hda
  let B : Base := ⟨W, cellsM W, fun b => b < W.heap.size, fun _ hb => hb⟩
  have hs : Sim B [] (cellsM W) (fun _ => none) Heap.emp W :=
    { below := ⟨rfl, rfl, rfl, Nat.le_refl _, fun _ _ => rfl⟩, imm := fun b o v e => e, live := fun i ob e => (by cases e), apart := fun i j oi oj li lj e => (by cases e), gdef := fun b hb => (by cases hb), old := fun b o v _ e => e }
  refine (hv.2 B [] _ _ W args (Good.start hgood) hs (fun _ _ => rfl) hr).mono fun e W' hq => ?_
  obtain ⟨v, M', ρ', d, h', rfl, _, _, k3, _, k5, rfl⟩ := hq
  simp only [rel] at k5
  subst k5
  exact ⟨_, rfl, post_true hl hts hvars hfn hres htb hW' ⟨k3.below.os, k3.below.tape, k3.below.output, k3.below.size, fun b hb => k3.below.block b hb⟩⟩

/-! What is read has an abstract value, if nothing is too long. -/
mutual
def small : DataW H → Bool
  | .lit l => match l with
    | .string s => decide (s.length ≤ lim)
    | _ => true
  | .nil => true
  | .ptr _ => true
  | .slice elems _ => decide (elems.length ≤ lim) && smallAll elems
  | .agg parts => smallAll parts
  | .iface _ _ => true
  | .map _ => true
  | .held _ => true
def smallAll : List (DataW H) → Bool
  | [] => true
  | d :: ds => small d && smallAll ds
end

theorem smallAll_get : ∀ {ds : List (DataW H)}, smallAll ds = true → ∀ d ∈ ds, small d = true
  | [], _, _, h => by cases h
  | d :: ds, hs, x, hx => by
    simp only [smallAll, Bool.and_eq_true] at hs
    rcases List.mem_cons.1 hx with rfl | hx
    · exact hs.1
    · exact smallAll_get hs.2 x hx

def contig (P : Program) : List Field → Nat → Nat → Bool
  | [], off, n => off == n
  | f :: fs, off, n => f.offset == off && contig P fs (off + P.cellsOf f.type) n

/-- Types of truth values, numbers, strings, slices and structs of such. -/
def plainS (P : Program) (S : List TypeId) : Bool := S.all fun t => match P.underlying t with
  | some .bool => P.cellsOf t == 1
  | some (.int _) => P.cellsOf t == 1
  | some .string => P.cellsOf t == 1
  | some (.slice e) => S.contains e && decide (0 < P.cellsOf e) && P.cellsOf t == 1
  | some (.struct fs) => contig P fs.toList 0 (P.cellsOf t) && fs.toList.all fun f => S.contains f.type
  | _ => false

theorem mapO_some {α β : Type} {f : α → Option β} : ∀ {bb : List α}, (∀ a ∈ bb, ∃ b, f a = some b) → ∃ bs, mapO f bb = some bs
  | [], _ => ⟨[], rfl⟩
  | a :: bb, h => by
    obtain ⟨b, hb⟩ := h a (by simp)
    obtain ⟨bs, hbs⟩ := mapO_some (f := f) (bb := bb) fun x hx => h x (by simp [hx])
    exact ⟨b :: bs, by simp [mapO, hb, hbs]⟩

theorem celF_some {S : List TypeId} {r : TypeId → DataW H → Option (List D)} {n : Nat} (ih : ∀ t cs x, t ∈ S → DataW.trod enc P w base (fun _ => true) held n t cs = some x → small x.1 = true → ∃ ds, r t x.1 = some ds ∧ ds.length = P.cellsOf t) {cs : List Value} {total : Nat} :
    ∀ (fs : List Field) (off : Nat) (xs : List (DataW H × List MemPlace)), (∀ (i : Nat) (f : Field), fs[i]? = some f → DataW.trod enc P w base (fun _ => true) held n f.type ((cs.drop f.offset).take (P.cellsOf f.type)) = xs[i]?) → xs.length = fs.length →
      (∀ f ∈ fs, f.type ∈ S) → contig P fs off total = true → (∀ x ∈ xs, small x.1 = true) → ∃ ds, celF P r fs off (xs.map (·.1)) = some ds ∧ off + ds.length = total
  | [], off, [], _, _, _, hc, _ => ⟨[], rfl, by simpa [contig] using hc⟩
  | f :: fs, off, x :: xs, hx, hl, hS, hc, hsm => by
    simp only [contig, Bool.and_eq_true, beq_iff_eq] at hc
    have h0 := hx 0 f rfl
    simp only [List.getElem?_cons_zero] at h0
    obtain ⟨c, hc1, hc2⟩ := ih _ _ _ (hS f (by simp)) h0 (hsm x (by simp))
    obtain ⟨rest, hr1, hr2⟩ := celF_some ih fs (off + c.length) xs (fun i g hg => by
      have := hx (i + 1) g (by simpa using hg)
      simpa using this) (by simpa using hl) (fun g hg => hS g (by simp [hg])) (by rw [hc2]; exact hc.2) (fun y hy => hsm y (by simp [hy]))
    refine ⟨c ++ rest, ?_, by rw [List.length_append]; omega⟩
    simp only [List.map_cons, celF, if_pos hc.1, hc1, if_pos hc2, hr1, Option.map_some]
  | [], _, _ :: _, _, hl, _, _, _ => by simp at hl
  | _ :: _, _, [], _, hl, _, _, _ => by simp at hl

theorem celD_some {S : List TypeId} (hp : plainS P S = true) : ∀ (n : Nat) (t : TypeId) (cs : List Value) (x : DataW H × List MemPlace), t ∈ S → DataW.trod enc P w base (fun _ => true) held n t cs = some x → small x.1 = true → ∃ ds, celD P n t x.1 = some ds ∧ ds.length = P.cellsOf t
  | 0, _, _, _, _, h, _ => by simp [DataW.trod] at h
  | n + 1, t, cs, x, ht, h, hs => by
    have hpt := List.all_eq_true.1 hp t ht
    split at hpt
    · rename_i hu
      obtain ⟨b, rfl, rfl⟩ := DataW.trod_bool hu h
      exact ⟨[.bool b], by simp only [celD, hu], by have := beq_iff_eq.1 hpt; exact this.symm⟩
    · rename_i q hu
      obtain ⟨m, rfl, rfl, hw⟩ := DataW.trod_int hu h
      exact ⟨[.int q m], by simp only [celD, hu], by have := beq_iff_eq.1 hpt; exact this.symm⟩
    · rename_i hu
      obtain ⟨b, rfl, rfl, _⟩ := DataW.trod_string hu h
      have hl : b.data.toList.length ≤ lim := by simpa [small] using hs
      exact ⟨[.str b.data.toList], by simp only [celD, hu, if_pos hl], by have := beq_iff_eq.1 hpt; exact this.symm⟩
    · rename_i e hu
      simp only [Bool.and_eq_true, decide_eq_true_eq, beq_iff_eq, List.contains_eq_mem] at hpt
      obtain ⟨⟨he, h0⟩, h1⟩ := hpt
      rcases DataW.trod_slice hu h with ⟨rfl, rfl⟩ | ⟨a, len, cap, elems, rest, m, hm, rfl, rfl, hb, hle, hmax, hlen, hel, _⟩
      · exact ⟨[.nilsl], by simp only [celD, hu], h1.symm⟩
      · have hmn : m = n := by omega
        subst hmn
        simp only [small, Bool.and_eq_true, decide_eq_true_eq, List.length_map] at hs
        have each : ∀ (i : Nat) (y : DataW H × List MemPlace), elems[i]? = some y → ∃ ds, celD P m e y.1 = some ds ∧ ds.length = P.cellsOf e := fun i y hy => by
          have hi : i < len := by have := (List.getElem?_eq_some_iff.1 hy).1; omega
          have := hel i hi
          rw [hy] at this
          obtain ⟨cs', _, htr⟩ := Option.bind_eq_some_iff.1 this
          exact celD_some hp m e cs' y he htr (smallAll_get hs.2 _ (List.mem_map.2 ⟨y, List.mem_of_getElem? hy, rfl⟩))
        obtain ⟨xs, hxs⟩ := mapO_some (f := celD P m e) (bb := elems.map (·.1)) fun d hd => by
          obtain ⟨y, hy, rfl⟩ := List.mem_map.1 hd
          obtain ⟨i, hi⟩ := List.mem_iff_getElem?.1 hy
          obtain ⟨ds, g1, _⟩ := each i y hi
          exact ⟨ds, g1⟩
        have hall : xs.all (fun x => x.length == P.cellsOf e) = true := List.all_eq_true.2 fun z hz => by
          obtain ⟨i, hi⟩ := List.mem_iff_getElem?.1 hz
          obtain ⟨d, hd, hdz⟩ := (mapO_get hxs).2 i z hi
          rw [List.getElem?_map] at hd
          cases hy : elems[i]? with
          | none => rw [hy] at hd; cases hd
          | some y =>
            rw [hy] at hd
            cases hd
            obtain ⟨ds, g1, g2⟩ := each i y hy
            rw [hdz] at g1
            cases g1
            simpa using g2
        refine ⟨[.sl (P.cellsOf e) xs .no], by simp only [celD, hu, hxs, hall, List.length_map, decide_eq_true h0, decide_eq_true hs.1, Bool.and_self, if_true], h1.symm⟩
    · rename_i fs hu
      simp only [Bool.and_eq_true, List.all_eq_true, List.contains_eq_mem, decide_eq_true_eq] at hpt
      obtain ⟨xs, m, hm, rfl, hlen, hxl, hx⟩ := DataW.trod_struct hu h
      have hmn : m = n := by omega
      subst hmn
      simp only [small] at hs
      obtain ⟨ds, g1, g2⟩ := celF_some (r := celD P m) (n := m) (fun t cs x h1 h2 h3 => celD_some hp m t cs x h1 h2 h3) (cs := cs) fs.toList 0 xs (fun i f hf => hx i f (by simpa using hf)) (by rw [Array.length_toList]; exact hxl) hpt.2 hpt.1 (fun y hy => smallAll_get hs _ (List.mem_map.2 ⟨y, hy, rfl⟩))
      rw [Nat.zero_add] at g2
      exact ⟨ds, by simp only [celD, hu, g1, if_pos g2], g2⟩
    · cases hpt

/-- The types of arguments: struct types, or types of one cell. -/
def argT (P : Program) (S : List TypeId) (t : TypeId) : Bool := S.contains t && (match agT P t with
  | some ag => ag || P.cellsOf t == 1
  | none => false)

theorem args_are {S : List TypeId} (hp : plainS P S = true) : ∀ {ts : List TypeId} {vs : List Value} {ds : List (DataW H)} {ps : List MemPlace}, (∀ t ∈ ts, argT P S t = true) → DataW.TrodAll enc P w base (fun _ => true) held ts vs ds ps → smallAll ds = true → ∃ das, ArgsAre P ts ds das
  | [], [], [], _, _, _, _ => ⟨[], trivial⟩
  | t :: ts, v :: vs, d :: ds, ps, ht, h, hs => by
    simp only [DataW.TrodAll] at h
    obtain ⟨p, q, ⟨n, h1⟩, h2, _⟩ := h
    simp only [smallAll, Bool.and_eq_true] at hs
    obtain ⟨xs, hxs⟩ := args_are hp (fun t' ht' => ht t' (by simp [ht'])) h2 hs.2
    have hat := ht t (by simp)
    unfold argT at hat
    simp only [Bool.and_eq_true, List.contains_eq_mem, decide_eq_true_eq] at hat
    obtain ⟨cs, k1, k2⟩ := celD_some hp n t v.cells.toList (d, p) hat.1 h1 hs.1
    have hat2 := hat.2
    split at hat2
    · rename_i ag hag
      cases ag with
      | true => exact ⟨.agg cs :: xs, ⟨n, by unfold argD; simp only at k1; rw [k1]; simp only [hag]; rfl⟩, hxs⟩
      | false =>
        have h1c : P.cellsOf t = 1 := by simpa using hat2
        rw [h1c] at k2
        match cs, k2 with
        | [c], _ => exact ⟨c :: xs, ⟨n, by unfold argD; simp only at k1; rw [k1]; simp only [hag]; rfl⟩, hxs⟩
    · cases hat2
  | [], _ :: _, _, _, _, h, _ => by simp [DataW.TrodAll] at h
  | [], [], _ :: _, _, _, h, _ => by simp [DataW.TrodAll] at h
  | _ :: _, [], _, _, _, h, _ => by simp [DataW.TrodAll] at h
  | _ :: _, _ :: _, [], _, _, h, _ => by simp [DataW.TrodAll] at h
end
end Go.V
namespace Go.V

/-! Rules of evaluation. -/
def onS (o : Option D) (k : D → Prop) : Prop :=
  match o with
  | some d => k d
  | none => False

def onR (o : VR) (k : D → Heap → Prop) : Prop :=
  match o with
  | some (d, h) => k d h
  | none => False

def onH (o : Option Heap) (k : Heap → Prop) : Prop :=
  match o with
  | some h => k h
  | none => False

/-! What comes later is not looked at before its time. -/
@[congr] theorem onS_congr {o o' : Option D} {k : D → Prop} (h : o = o') : onS o k = onS o' k := by rw [h]
@[congr] theorem onR_congr {o o' : VR} {k : D → Heap → Prop} (h : o = o') : onR o k = onR o' k := by rw [h]
@[congr] theorem onH_congr {o o' : Option Heap} {k : Heap → Prop} (h : o = o') : onH o k = onH o' k := by rw [h]
@[congr] theorem VCall_congr {P : Program} {f : FuncId} {args args' : List D} {h h' : Heap} {K : D → Heap → Prop} (ha : args = args') (hh : h = h') : VCall P f args h K = VCall P f args' h' K := by rw [ha, hh]
@[congr] theorem VYield_congr {P : Program} {id : Nat} {args args' : List D} {h h' : Heap} {K : D → Heap → Prop} (ha : args = args') (hh : h = h') : VYield P id args h K = VYield P id args' h' K := by rw [ha, hh]
@[congr] theorem VInv_congr {P : Program} {f f' : D} {args args' : List D} {h h' : Heap} {K : D → Heap → Prop} (hf : f = f') (ha : args = args') (hh : h = h') : VInv P f args h K = VInv P f' args' h' K := by rw [hf, ha, hh]

@[go_sem ↓] theorem onS_some (d : D) (k : D → Prop) : onS (some d) k = k d := (rfl)
@[go_sem ↓] theorem onR_some (d : D) (h : Heap) (k : D → Heap → Prop) : onR (some (d, h)) k = k d h := (rfl)
@[go_sem ↓] theorem onH_some (h : Heap) (k : Heap → Prop) : onH (some h) k = k h := (rfl)

section rules
variable {P : Program} {g : Cfg} {n : Nat} {ro : Option Nat} {mu : Tmp → Bool} {ops : Array Oper} {rest : List Oper} {K : Frm → Heap → Prop} {fr : Frm} {h : Heap} {dst : Option Tmp} {ty : TypeId} {pos : String} {after : Array Edge} {gd : Option (Nat × Bool)} {Q : Exit → Frm → Heap → Prop}
  {m : Bool} {nid : Nat} {k : D → Heap → Prop}

@[go_sem ↓] theorem vwp_seq (a b : Code) : vwp P g n ro (.seq a b) Q fr h = vwp P g n ro a (thenQ (vwp P g n ro b Q) Q) fr h := (rfl)
@[go_sem ↓] theorem vwp_region (id : Nat) (l : List Oper) : vwp P g n ro (.region id l.toArray false) Q fr h = vops P g.mu l.toArray l (Q .normal) fr h := (rfl)
theorem vwp_draw (id : Nat) (ops : Array Oper) : vwp P g n ro (.region id ops true) Q fr h = ∃ h0, HLe h0 h ∧ vdrawS P g.mu h0 (bkOf P g.mu ops (g.dr id) (masks ops.toList 0 [])) ops ((g.dr id).any (·.2.isSt)) (g.dr id) (Q .normal) fr h := (rfl)
@[go_sem ↓] theorem vwp_skip : vwp P g n ro .skip Q fr h = Q .normal fr h := (rfl)
@[go_sem ↓] theorem vwp_ret : vwp P g n ro .ret Q fr h = Q .ret fr h := (rfl)
@[go_sem ↓] theorem vwp_exit (i : Nat) : vwp P g n ro (.exit i) Q fr h = Q (.exit i) fr h := (rfl)
@[go_sem ↓] theorem vwp_block (id : Nat) (c : Code) : vwp P g n ro (.block id c) Q fr h = vwp P g n ro c (blockQ id Q) fr h := (rfl)

def onB (d : D) (x y : Prop) : Prop :=
  match d with
  | .bool b => match b with
    | true => x
    | false => y
  | _ => False

@[go_sem ↓] theorem vwp_cond (c : Operand) (a b : Code) : vwp P g n ro (.cond c a b) Q fr h = onB (opnd fr c) (vwp P g n ro a Q fr h) (vwp P g n ro b Q fr h) := by
  simp only [vwp]; rfl
@[congr] theorem onB_congr {d d' : D} {x y : Prop} (h : d = d') : onB d x y = onB d' x y := by rw [h]
@[go_sem ↓] theorem onB_true (x y : Prop) : onB (.bool true) x y = x := (rfl)
@[go_sem ↓] theorem onB_false (x y : Prop) : onB (.bool false) x y = y := (rfl)
theorem onB_and (b : Bool) (x y : Prop) : onB (.bool b) x y = ((b = true → x) ∧ (b = false → y)) := by
  cases b <;> simp [onB]

@[go_sem ↓] theorem thenQ_normal (Kn : Frm → Heap → Prop) : thenQ Kn Q .normal fr h = Kn fr h := (rfl)
@[go_sem ↓] theorem thenQ_ret (Kn : Frm → Heap → Prop) : thenQ Kn Q .ret fr h = Q .ret fr h := (rfl)
@[go_sem ↓] theorem thenQ_exit (Kn : Frm → Heap → Prop) (i : Nat) : thenQ Kn Q (.exit i) fr h = Q (.exit i) fr h := (rfl)
@[go_sem ↓] theorem blockQ_normal (i : Nat) : blockQ i Q .normal fr h = Q .normal fr h := (rfl)
@[go_sem ↓] theorem blockQ_ret (i : Nat) : blockQ i Q .ret fr h = Q .ret fr h := (rfl)
@[go_sem ↓] theorem blockQ_exit (i j : Nat) : blockQ i Q (.exit j) fr h = if j = i then Q .normal fr h else Q (.exit j) fr h := (rfl)

@[go_sem ↓] theorem vops_nil : vops P mu ops [] K fr h = K fr h := (rfl)
@[go_sem ↓] theorem vops_plain (op : Op) : vops P mu ops (⟨dst, op, ty, pos, after, none⟩ :: rest) K fr h = vop1 P (muOf mu dst) h.next op (opnd fr) h fun d h' => vops P mu ops rest K (putF fr dst d) h' := (rfl)
/-- A guarded operation: what comes is looked at when the guard is known. -/
def gif (g : Bool) (x y : Prop) : Prop :=
  match g with
  | true => x
  | false => y
@[congr] theorem gif_congr {g g' : Bool} {x y : Prop} (h : g = g') : gif g x y = gif g' x y := by rw [h]
@[go_sem ↓] theorem gif_true (x y : Prop) : gif true x y = x := (rfl)
@[go_sem ↓] theorem gif_false (x y : Prop) : gif false x y = y := (rfl)
@[go_sem ↓] theorem vops_guard (op : Op) (j : Nat) (b : Bool) : vops P mu ops (⟨dst, op, ty, pos, after, some (j, b)⟩ :: rest) K fr h =
    gif (guardOk ops fr (some (j, b))) (vop1 P (muOf mu dst) h.next op (opnd fr) h fun d h' => vops P mu ops rest K (putF fr dst d) h') (vops P mu ops rest K (putF fr dst undefD) h) := by
  simp only [vops, gif]
  cases guardOk ops fr (some (j, b)) <;> rfl

@[go_sem ↓] theorem opnd_tmp (t : Tmp) : opnd fr (.tmp t) = fr t := (rfl)
@[go_sem ↓] theorem opnd_int (k : IntKind) (n : Int) : opnd fr (.const (.int k n)) = .int k n := (rfl)
@[go_sem ↓] theorem opnd_bool (b : Bool) : opnd fr (.const (.bool b)) = .bool b := (rfl)
@[go_sem ↓] theorem opnd_func (f : Nat) : opnd fr (.func f) = .fn (.func f) [] [] := (rfl)
@[go_sem ↓] theorem opnd_str (s : ByteArray) : opnd fr (.const (.string s)) = .str s.data.toList := (rfl)
@[go_sem ↓] theorem opnd_nilptr : opnd fr (.const (.pointer none)) = .nilptr := (rfl)
@[go_sem ↓] theorem opnd_nilsl : opnd fr (.const (.slice none 0 0)) = .nilsl := (rfl)
@[go_sem ↓] theorem opnd_nilmap : opnd fr (.const (.map none)) = .nilmap := (rfl)
@[go_sem ↓] theorem opnd_nilfn : opnd fr (.const .nilFunc) = .nilfn := (rfl)
@[go_sem ↓] theorem opnd_niliface : opnd fr (.const .nilIface) = .niliface := (rfl)
@[go_sem ↓] theorem opnd_agg (l : List Value) : opnd fr (.const (.agg l.toArray)) = .agg (cstL l) := (rfl)
@[go_sem ↓] theorem opnd_tuple (l : List Value) : opnd fr (.const (.tuple l.toArray)) = .tuple (cstL l) := (rfl)
@[go_sem ↓] theorem putF_some (t i : Tmp) (d : D) : putF fr (some t) d i = if i = t then d else fr i := (rfl)
@[go_sem ↓] theorem putF_none (d : D) : putF fr none d = fr := (rfl)

@[go_sem ↓] theorem v_move (x : Operand) : vop1 P m nid (.move x) (opnd fr) h k = k (opnd fr x) h := (rfl)
@[go_sem ↓] theorem v_assign (x : Operand) : vop1 P m nid (.assign x) (opnd fr) h k = k (opnd fr x) h := (rfl)
@[go_sem ↓] theorem v_call (f : Operand) (args : List Operand) (ats : Array TypeId) : vop1 P m nid (.call ⟨.value f, args.toArray, ats⟩) (opnd fr) h k = VInv P (opnd fr f) (args.map (opnd fr)) h k := (rfl)
@[go_sem ↓] theorem VInv_fn (f : FuncId) (a c args : List D) : VInv P (.fn (.func f) a c) args h k = VCall P f (a ++ args ++ c) h k := (rfl)
@[go_sem ↓] theorem VInv_yld (id : Nat) (args : List D) : VInv P (.yld id) args h k = VYield P id args h k := (rfl)

theorem vop1_S {op : Op} {ev : Operand → D} {o : Option D} (h1 : callOf op = none) (h2 : vop P m nid op ev h = o.map (·, h)) : vop1 P m nid op ev h k = onS o (k · h) := by
  unfold vop1
  rw [h1, h2]
  cases o <;> rfl
theorem vop1_H {op : Op} {ev : Operand → D} {o : Option Heap} (h1 : callOf op = none) (h2 : vop P m nid op ev h = o.map (undefD, ·)) : vop1 P m nid op ev h k = onH o (k undefD ·) := by
  unfold vop1
  rw [h1, h2]
  cases o <;> rfl
theorem vop1_R {op : Op} {ev : Operand → D} {o : VR} (h1 : callOf op = none) (h2 : vop P m nid op ev h = o) : vop1 P m nid op ev h k = onR o k := by
  unfold vop1
  rw [h1, h2]
  cases o <;> rfl

@[go_sem ↓] theorem v_bin (op : BinOp) (t u : TypeId) (x y : Operand) : vop1 P m nid (.binOp op t x y u) (opnd fr) h k = onS (vbin P op t (isC x || isC y) (opnd fr x) (opnd fr y)) (k · h) := vop1_S rfl rfl
@[go_sem ↓] theorem v_un (op : UnOp) (t : TypeId) (x : Operand) : vop1 P m nid (.unOp op t x) (opnd fr) h k = onS (vun op (opnd fr x)) (k · h) := vop1_S rfl rfl
@[go_sem ↓] theorem v_pick (c x y : Operand) : vop1 P m nid (.pick c x y) (opnd fr) h k = onB (opnd fr c) (k (opnd fr x) h) (k (opnd fr y) h) := by
  simp only [vop1, callOf, vop, onB]
  cases opnd fr c with
  | bool b => cases b <;> rfl
  | _ => rfl
@[go_sem ↓] theorem v_alloc (t : TypeId) : vop1 P m nid (.alloc t) (opnd fr) h k = onR (vop P m nid (.alloc t) (opnd fr) h) k := vop1_R rfl rfl
@[go_sem ↓] theorem v_box (t : TypeId) (x : Operand) : vop1 P m nid (.box t x) (opnd fr) h k = onR (vop P m nid (.box t x) (opnd fr) h) k := vop1_R rfl rfl
@[go_sem ↓] theorem v_build (t : TypeId) (ps : List (Nat × Operand)) : vop1 P m nid (.build t ps.toArray) (opnd fr) h k = onS (vbuild P t (ps.map fun p => (p.1, opnd fr p.2))) (k · h) := vop1_S rfl rfl
@[go_sem ↓] theorem v_buildSlice (t : TypeId) (n : Nat) (ps : List (Nat × Operand)) : vop1 P m nid (.buildSlice t n ps.toArray) (opnd fr) h k = onR (vbuildSlice P m nid t n (ps.map fun p => (p.1, opnd fr p.2)) h) k := vop1_R rfl rfl
@[go_sem ↓] theorem v_load (t : TypeId) (x : Operand) : vop1 P m nid (.load t x) (opnd fr) h k = onS (vload P t (opnd fr x) h) (k · h) := vop1_S rfl rfl
@[go_sem ↓] theorem v_store (t : TypeId) (x y : Operand) : vop1 P m nid (.store t x y) (opnd fr) h k = onH (vstore P t (opnd fr x) (opnd fr y) h) (k undefD ·) := vop1_H rfl rfl
@[go_sem ↓] theorem v_nilCheck (x : Operand) : vop1 P m nid (.nilCheck x) (opnd fr) h k = onS (vnilCheck (opnd fr x)) (k · h) := vop1_S rfl rfl
@[go_sem ↓] theorem v_convert (s t : TypeId) (x : Operand) : vop1 P m nid (.convert s t x) (opnd fr) h k = onS (vconvO P s t (opnd fr x) h) (k · h) := vop1_S rfl rfl
@[go_sem ↓] theorem vconvO_int (P : Program) (s t : TypeId) (k : IntKind) (n : Int) (h : Heap) : vconvO P s t (.int k n) h = vconvert P s t (.int k n) := (rfl)
@[go_sem ↓] theorem vconvO_str (P : Program) (s t : TypeId) (x : List UInt8) (h : Heap) : vconvO P s t (.str x) h = vconvert P s t (.str x) := (rfl)
@[go_sem ↓] theorem vconvO_sl (P : Program) (s t : TypeId) (sz : Nat) (xs : List (List D)) (tk : Tk) (h : Heap) : vconvO P s t (.sl sz xs tk) h = vconvert P s t (.sl sz xs tk) := (rfl)
@[go_sem ↓] theorem vconvO_ptr (P : Program) (s t : TypeId) (id : Nat) (h : Heap) : vconvO P s t (.ptr id 0) h = vconvP P s t id h := (rfl)
@[go_sem ↓] theorem v_makeFunc (f : FuncId) (a c : List Operand) : vop1 P m nid (.makeFunc (.func f) a.toArray c.toArray) (opnd fr) h k = k (.fn (.func f) (a.map (opnd fr)) (c.map (opnd fr))) h := (rfl)
@[go_sem ↓] theorem v_makeMap (t : TypeId) : vop1 P m nid (.makeMap t none) (opnd fr) h k = k (.map nid) (h.new nid (.map [])) := (rfl)
@[go_sem ↓] theorem v_makeSlice (t : TypeId) (x y : Operand) : vop1 P m nid (.makeSlice t x y) (opnd fr) h k = onR (vmakeSlice P m nid t (opnd fr x) (opnd fr y) h) k := vop1_R rfl rfl
@[go_sem ↓] theorem v_slice (t : TypeId) (x : Operand) (lo hi mx : Option Operand) : vop1 P m nid (.slice t x lo hi mx) (opnd fr) h k = onS (vsliceA P t (opnd fr x) (lo.map (opnd fr)) (hi.map (opnd fr)) (mx.map (opnd fr)) h) (k · h) := vop1_S rfl rfl
@[go_sem ↓] theorem v_fieldAddr (t : TypeId) (x : Operand) (f : Nat) : vop1 P m nid (.fieldAddr t x f) (opnd fr) h k = onS (vfieldAddr P t (opnd fr x) f) (k · h) := vop1_S rfl rfl
@[go_sem ↓] theorem v_field (t : TypeId) (x : Operand) (f : Nat) : vop1 P m nid (.field t x f) (opnd fr) h k = onS (vfield P t (opnd fr x) f) (k · h) := vop1_S rfl rfl
@[go_sem ↓] theorem v_indexAddr (t : TypeId) (x i : Operand) : vop1 P m nid (.indexAddr t x i) (opnd fr) h k = onS (vindexAddr P t (opnd fr x) (opnd fr i)) (k · h) := vop1_S rfl rfl
@[go_sem ↓] theorem v_index (t : TypeId) (x i : Operand) : vop1 P m nid (.index t x i) (opnd fr) h k = onS (vindex P t (opnd fr x) (opnd fr i)) (k · h) := vop1_S rfl rfl
@[go_sem ↓] theorem v_lookup (t : TypeId) (x y : Operand) (ok : Bool) : vop1 P m nid (.lookup t x y ok) (opnd fr) h k = onS (vlookup P t (opnd fr x) (opnd fr y) ok h) (k · h) := vop1_S rfl rfl
@[go_sem ↓] theorem v_mapUpdate (t : TypeId) (x y z : Operand) : vop1 P m nid (.mapUpdate t x y z) (opnd fr) h k = onH (vmapUpdate P t (opnd fr x) (opnd fr y) (opnd fr z) h) (k undefD ·) := vop1_H rfl rfl
@[go_sem ↓] theorem v_insert (t : TypeId) (x y z : Operand) : vop1 P m nid (.insert t x y z) (opnd fr) h k = onH (vmapUpdate P t (opnd fr x) (opnd fr y) (opnd fr z) h) (k undefD ·) := vop1_H rfl rfl
@[go_sem ↓] theorem v_range (t : TypeId) (x : Operand) : vop1 P m nid (.range t x) (opnd fr) h k = onR (vrange P nid t (opnd fr x) h) k := vop1_R rfl rfl
@[go_sem ↓] theorem v_next (x : Operand) (b : Bool) : vop1 P m nid (.next x b) (opnd fr) h k = onR (vnext (opnd fr x) b h) k := vop1_R rfl rfl
@[go_sem ↓] theorem v_extract (x : Operand) (i : Nat) : vop1 P m nid (.extract x i) (opnd fr) h k = onS (vextract (opnd fr x) i) (k · h) := vop1_S rfl rfl
@[go_sem ↓] theorem v_makeInterface (t : TypeId) (x : Operand) : vop1 P m nid (.makeInterface t x) (opnd fr) h k = onR (vop P m nid (.makeInterface t x) (opnd fr) h) k := vop1_R rfl rfl
@[go_sem ↓] theorem v_len (t : TypeId) (x : Operand) : vop1 P m nid (.call ⟨.builtin .len, #[x], #[t]⟩) (opnd fr) h k = onS (vlen P t (opnd fr x) h) (k · h) := vop1_S rfl rfl
@[go_sem ↓] theorem v_append (t u : TypeId) (x y : Operand) : vop1 P m nid (.call ⟨.builtin .append, #[x, y], #[t, u]⟩) (opnd fr) h k = onR (if spreadT P u then vappendT P m nid t (opnd fr x) (opnd fr y) h else vappendZ P m nid t u (opnd fr x) (opnd fr y) h) k := vop1_R rfl rfl
@[go_sem ↓] theorem vappendT_f (t : TypeId) (s x : D) : vappendT P false nid t s x h = vappend P false nid t s x h := (rfl)
@[go_sem ↓] theorem vappendT_t (t : TypeId) (s x : D) : vappendT P true nid t s x h = vappend P true nid t s x (truncRs s x h) := (rfl)
@[go_sem ↓] theorem truncRs_nil (x : D) : truncRs .nilsl x h = h := (rfl)
@[go_sem ↓] theorem truncRs_sl (sz : Nat) (xs : List (List D)) (tk : Tk) (x : D) : truncRs (.sl sz xs tk) x h = h := (rfl)
@[go_sem ↓] theorem v_min (ats : Array TypeId) (x y : Operand) : vop1 P m nid (.call ⟨.builtin .min, #[x, y], ats⟩) (opnd fr) h k = onS (vmin (opnd fr x) (opnd fr y)) (k · h) := vop1_S rfl rfl
@[go_sem ↓] theorem v_max (x y : Operand) (ats : Array TypeId) : vop1 P m nid (.call ⟨.builtin .max, #[x, y], ats⟩) (opnd fr) h k = onS (vmax (opnd fr x) (opnd fr y)) (k · h) := by
  refine vop1_S rfl ?_
  simp only [vop, vbuiltin, vmaxs, List.map_cons, List.map_nil]
  cases vmax (opnd fr x) (opnd fr y) <;> rfl
@[go_sem ↓] theorem v_max4 (x y z u : Operand) (ats : Array TypeId) : vop1 P m nid (.call ⟨.builtin .max, #[x, y, z, u], ats⟩) (opnd fr) h k = onS (vmaxs (opnd fr x) [opnd fr y, opnd fr z, opnd fr u]) (k · h) := vop1_S rfl rfl

@[go_sem ↓] theorem frame_nil (i : Nat) : frame [] i = undefD := (rfl)
@[go_sem ↓] theorem frame_zero (d : D) (ds : List D) : frame (d :: ds) 0 = d := (rfl)
@[go_sem ↓] theorem frame_succ (d : D) (ds : List D) (i : Nat) : frame (d :: ds) (i + 1) = frame ds i := (rfl)

def onL (o : Option (List D)) (k : List D → Prop) : Prop :=
  match o with
  | some ds => k ds
  | none => False
@[congr] theorem onL_congr {o o' : Option (List D)} {k : List D → Prop} (h : o = o') : onL o k = onL o' k := by rw [h]
@[go_sem ↓] theorem onL_some (ds : List D) (k : List D → Prop) : onL (some ds) k = k ds := (rfl)
@[go_sem ↓] theorem endQ_ret (rs : List ResultVar) (q : D → Heap → Prop) : endQ P rs q .ret fr h = onL (vresL P fr h rs) fun ds => q (oneOf ds) h := by
  unfold endQ onL
  cases vresL P fr h rs <;> simp
@[go_sem ↓] theorem endQ_normal (rs : List ResultVar) (q : D → Heap → Prop) : endQ P rs q .normal fr h = onL (vresL P fr h rs) fun ds => q (oneOf ds) h := by
  unfold endQ onL
  cases vresL P fr h rs <;> simp
@[go_sem ↓] theorem vresL_nil (k : List D → Prop) : onL (vresL P fr h []) k = k [] := (rfl)
@[go_sem ↓] theorem vresL_tmp (t : Tmp) (rs : List ResultVar) (k : List D → Prop) : onL (vresL P fr h (.tmp t :: rs)) k = onL (vresL P fr h rs) fun ds => k (fr t :: ds) := by
  simp only [vresL, vres1]
  cases vresL P fr h rs <;> rfl
@[go_sem ↓] theorem vresL_cell (a : Tmp) (t : TypeId) (rs : List ResultVar) (k : List D → Prop) : onL (vresL P fr h (.cell a t :: rs)) k = onS (vload P t (fr a) h) fun d => onL (vresL P fr h rs) fun ds => k (d :: ds) := by
  simp only [vresL, vres1]
  cases vload P t (fr a) h with
  | none => rfl
  | some d => cases vresL P fr h rs <;> rfl
@[go_sem ↓] theorem oneOf_one (d : D) : oneOf [d] = d := (rfl)
@[go_sem ↓] theorem oneOf_two (d d' : D) (ds : List D) : oneOf (d :: d' :: ds) = .tuple (d :: d' :: ds) := (rfl)
@[go_sem ↓] theorem oneOf_nil : oneOf [] = .tuple [] := (rfl)
end rules
end Go.V
namespace Go.V

/-! Slices that are read: nil, or a slice that does not change. -/
def IsSl (sz : Nat) (xs : List (List D)) (d : D) : Prop := (d = .nilsl ∧ xs = []) ∨ ∃ tk, d = .sl sz xs tk

section
variable {P : Program} {sz : Nat} {xs : List (List D)} {d : D} {t e : TypeId} {h : Heap}

theorem IsSl.mk (tk : Tk) : IsSl sz xs (.sl sz xs tk) := .inr ⟨tk, rfl⟩
theorem IsSl.nil : IsSl sz [] .nilsl := .inl ⟨rfl, rfl⟩

theorem vlen_sl (hd : IsSl sz xs d) (hu : P.underlying t = some (.slice e)) : vlen P t d h = some (.int .i64 xs.length) := by
  rcases hd with ⟨rfl, rfl⟩ | ⟨tk, rfl⟩ <;> simp [vlen, hu]

theorem vindexAddr_sl (hd : IsSl sz xs d) (he : elemT P t = some e) (hz : szT P e = sz) {k : IntKind} {i : Nat} {x : List D} (hx : xs[i]? = some x) : vindexAddr P t d (.int k i) = some (.iptr x 0) := by
  rcases hd with ⟨rfl, rfl⟩ | ⟨tk, rfl⟩
  · simp at hx
  · simp [vindexAddr, he, hz, hx]
end

@[go_sem ↓] theorem vbin_int (P : Program) (op : BinOp) (t : TypeId) (c : Bool) (k k' : IntKind) (a b : Int) : vbin P op t c (.int k a) (.int k' b) = vints op k k' a b := (rfl)
@[go_sem ↓] theorem vbin_str (P : Program) (op : BinOp) (t : TypeId) (c : Bool) (a b : List UInt8) : vbin P op t c (.str a) (.str b) = vstr op a b := (rfl)
@[go_sem ↓] theorem vints_add (k : IntKind) (a b : Int) : vints .add k k a b = some (.int k (k.wrap (a + b))) := by simp [vints, vint]
@[go_sem ↓] theorem vints_sub (k : IntKind) (a b : Int) : vints .sub k k a b = some (.int k (k.wrap (a - b))) := by simp [vints, vint]
@[go_sem ↓] theorem vints_mul (k : IntKind) (a b : Int) : vints .mul k k a b = some (.int k (k.wrap (a * b))) := by simp [vints, vint]
@[go_sem ↓] theorem vints_lss (k : IntKind) (a b : Int) : vints .lss k k a b = some (.bool (decide (a < b))) := by simp [vints, vint]
@[go_sem ↓] theorem vints_leq (k : IntKind) (a b : Int) : vints .leq k k a b = some (.bool (decide (a ≤ b))) := by simp [vints, vint]
@[go_sem ↓] theorem vints_gtr (k : IntKind) (a b : Int) : vints .gtr k k a b = some (.bool (decide (a > b))) := by simp [vints, vint]
@[go_sem ↓] theorem vints_geq (k : IntKind) (a b : Int) : vints .geq k k a b = some (.bool (decide (a ≥ b))) := by simp [vints, vint]
@[go_sem ↓] theorem vints_eql (k : IntKind) (a b : Int) : vints .eql k k a b = some (.bool (a == b)) := by simp [vints, vint]
@[go_sem ↓] theorem vints_neq (k : IntKind) (a b : Int) : vints .neq k k a b = some (.bool (a != b)) := by simp [vints, vint]
@[go_sem ↓] theorem vstr_eql (a b : List UInt8) : vstr .eql a b = some (.bool (a == b)) := (rfl)
@[go_sem ↓] theorem vstr_neq (a b : List UInt8) : vstr .neq a b = some (.bool (!(a == b))) := (rfl)
@[go_sem ↓] theorem vstr_lss (a b : List UInt8) : vstr .lss a b = some (.bool (lstr a b)) := (rfl)
@[go_sem ↓] theorem vload_iptr (P : Program) (t : TypeId) (cs : List D) (off : Nat) (h : Heap) : vload P t (.iptr cs off) h = (match agT P t with
  | none => none
  | some ag => vpart ag (szT P t) cs off) := (rfl)
@[go_sem ↓] theorem vpart_false (n : Nat) (cs : List D) (off : Nat) : vpart false n cs off = cs[off]? := (rfl)

theorem vwp_loop {P : Program} {g : Cfg} {n : Nat} {ro : Option Nat} {c : Code} {Q : Exit → Frm → Heap → Prop} {fr : Frm} {h : Heap} (I : Nat → Frm → Heap → Prop) (k : Nat) (hI : I k fr h)
    (hr : ∀ k fr h, I k fr h → vwp P g n ro c (thenQ (fun fr h => ∃ m, m < k ∧ I m fr h) Q) fr h) : vwp P g n ro (.loop c) Q fr h := ⟨I, ⟨k, hI⟩, hr⟩
end Go.V
namespace Go.V
open Go.RowKit (Below)

/-! Functions of Go's library whose contracts are known. -/
theorem VCall.of_lib {P : Program} {f : FuncId} {ds : List D} {d : D} (he : entersT P f = true)
    (hc : ∀ (M : Imm) (ρ : Ren) (va : Array Value) (w : World), relL M ρ ds va.toList → Calls P f va w fun e w' => ∃ v, e = .returned v ∧ Below w.heap.size w w' ∧ ∀ (M' : Imm) (ρ' : Ren), rel M' ρ' d v) (h : Heap) :
    VCall P f ds h fun a b => a = d ∧ b = h := by
  refine ⟨he, fun w0 G M ρ w va hg0 hs hfr hr => (hc M ρ va w hr).mono fun e w' hq => ?_⟩
  obtain ⟨v, rfl, hb, hv⟩ := hq
  exact ⟨v, M, ρ, d, h, rfl, MLe.refl _, RLe.refl _, hs.world hb, hfr, hv M ρ, rfl, rfl⟩

theorem relL_two {M : Imm} {ρ : Ren} {s t : List UInt8} {va : Array Value} (hr : relL M ρ [.str s, .str t] va.toList) : ∃ b c : ByteArray, va = #[.string b, .string c] ∧ b.data.toList = s ∧ c.data.toList = t ∧ s.length ≤ lim ∧ t.length ≤ lim := by
  simp only [relL, rel] at hr
  obtain ⟨v, vs, e, ⟨b, rfl, h1, h2⟩, v', vs', e', ⟨c, rfl, h3, h4⟩, rfl⟩ := hr
  subst e'
  exact ⟨b, c, Array.ext' (by simpa using e), h1, h3, h2, h4⟩

def intR (n : Int) : Option D := if IntKind.i64.wrap n == n then some (.int .i64 n) else none

theorem intR_rel {n : Int} {d : D} (h : intR n = some d) (M : Imm) (ρ : Ren) : rel M ρ d (.int .i64 n) := by
  unfold intR at h
  split at h
  · rename_i hw
    cases h
    exact rel_int (show fits _ _ from by unfold fits; simpa using hw)
  · cases h

def strR (s : List UInt8) : Option D := if decide (s.length ≤ lim) then some (.str s) else none

theorem strR_rel {s : List UInt8} {d : D} (h : strR s = some d) (M : Imm) (ρ : Ren) : rel M ρ d (.string ⟨s.toArray⟩) := by
  unfold strR at h
  split at h
  · rename_i hw
    cases h
    simp only [rel]
    exact ⟨_, rfl, by simp, by simpa using hw⟩
  · cases h

def libIndex : List D → Option D
  | [.str s, .str t] => match t with
    | [c] => intR (Lib.indexByte s c)
    | _ => none
  | _ => none

def libCount : List D → Option D
  | [.str s, .str t] => match t with
    | [c] => intR (Lib.countByte s c)
    | _ => none
  | _ => none

def libTrim : List D → Option D
  | [.str s, .str c] => if c.all (fun b => decide (b.toNat < 128)) && Nat.blt c.length 4294967281 then strR (Lib.trimS s c) else none
  | _ => none

theorem bytes_one {b : ByteArray} {c : UInt8} (h : b.data.toList = [c]) : b = ⟨#[c]⟩ := by
  cases b with
  | mk a =>
    have : a = #[c] := Array.ext' (by simpa using h)
    rw [this]

theorem libIndex_ok {P : Program} {f : FuncId} (he : entersT P f = true) (hc : ∀ (s : ByteArray) (c : UInt8) (w : World), Calls P f #[.string s, .string ⟨#[c]⟩] w fun e w' => e = .returned (.int .i64 (Lib.indexByte s.data.toList c)) ∧ w' = w)
    {args : List D} {d : D} (hl : libIndex args = some d) (h : Heap) : VCall P f args h fun a b => a = d ∧ b = h := by
  unfold libIndex at hl
  split at hl
  · rename_i s t
    split at hl
    · rename_i c
      refine VCall.of_lib he (fun M ρ va w hr => ?_) h
      obtain ⟨b1, b2, rfl, rfl, h2, _, _⟩ := relL_two hr
      rw [bytes_one h2]
      refine (hc b1 c w).mono fun e w' hq => ?_
      obtain ⟨rfl, rfl⟩ := hq
      exact ⟨_, rfl, Below.refl _ _, fun M' ρ' => intR_rel hl M' ρ'⟩
    · cases hl
  · cases hl

theorem libCount_ok {P : Program} {f : FuncId} (he : entersT P f = true) (hc : ∀ (s : ByteArray) (c : UInt8) (w : World), Calls P f #[.string s, .string ⟨#[c]⟩] w fun e w' => e = .returned (.int .i64 (Lib.countByte s.data.toList c)) ∧ w' = w)
    {args : List D} {d : D} (hl : libCount args = some d) (h : Heap) : VCall P f args h fun a b => a = d ∧ b = h := by
  unfold libCount at hl
  split at hl
  · rename_i s t
    split at hl
    · rename_i c
      refine VCall.of_lib he (fun M ρ va w hr => ?_) h
      obtain ⟨b1, b2, rfl, rfl, h2, _, _⟩ := relL_two hr
      rw [bytes_one h2]
      refine (hc b1 c w).mono fun e w' hq => ?_
      obtain ⟨rfl, rfl⟩ := hq
      exact ⟨_, rfl, Below.refl _ _, fun M' ρ' => intR_rel hl M' ρ'⟩
    · cases hl
  · cases hl

theorem libTrim_ok {P : Program} {f : FuncId} (he : entersT P f = true) (hc : ∀ (s c : ByteArray) (w : World), s.size ≤ 9223372036854775807 → c.size < 4294967281 → (∀ (j : Nat) b, c.data.toList[j]? = some b → b.toNat < 128) →
      Calls P f #[.string s, .string c] w fun e w' => e = .returned (.string ⟨(Lib.trimS s.data.toList c.data.toList).toArray⟩) ∧ Below w.heap.size w w')
    {args : List D} {d : D} (hl : libTrim args = some d) (h : Heap) : VCall P f args h fun a b => a = d ∧ b = h := by
  unfold libTrim at hl
  split at hl
  · rename_i s c
    split at hl
    · rename_i hcond
      simp only [Bool.and_eq_true] at hcond
      have hlt : c.length < 4294967281 := by rw [← Nat.blt_eq]; exact hcond.2
      refine VCall.of_lib he (fun M ρ va w hr => ?_) h
      obtain ⟨b1, b2, rfl, rfl, rfl, h3, _⟩ := relL_two hr
      have e1 : b1.size = b1.data.toList.length := by rw [Array.length_toList]; rfl
      have e2 : b2.size = b2.data.toList.length := by rw [Array.length_toList]; rfl
      refine (hc b1 b2 w (by rw [e1]; unfold lim at h3; omega) (by rw [e2]; exact hlt) (Go.Proofs.ascii_of_all hcond.1)).mono fun e w' hq => ?_
      obtain ⟨rfl, hb⟩ := hq
      exact ⟨_, rfl, hb, fun M' ρ' => strR_rel hl M' ρ'⟩
    · cases hl
  · cases hl
end Go.V
namespace Go.V

section
variable {P : Program} {g : Cfg} {n : Nat} {mu : Tmp → Bool} {h0 : Heap} {bk : Nat → Bool} {ops : Array Oper}

theorem vops_mono : ∀ (l : List Oper) {K K' : Frm → Heap → Prop} (_ : ∀ fr h, K fr h → K' fr h) (fr : Frm) (h : Heap), vops P mu ops l K fr h → vops P mu ops l K' fr h
  | [], _, _, hk, fr, h, hv => hk fr h hv
  | o :: rest, K, K', hk, fr, h, hv => by
    simp only [vops] at hv ⊢
    cases hg : guardOk ops fr o.guard with
    | true =>
      rw [hg] at hv
      exact vop1_mono (fun d h' hx => vops_mono rest hk _ _ hx) hv
    | false =>
      rw [hg] at hv
      exact vops_mono rest hk _ _ hv

theorem vdraw_mono : ∀ (l : List (Nat × Fl)) {K K' : Frm → Heap → Prop} (_ : ∀ fr h, K fr h → K' fr h) (fl : Bool) (fr : Frm) (h : Heap), vdraw P mu h0 bk ops fl l K fr h → vdraw P mu h0 bk ops fl l K' fr h
  | [], _, _, hk, _, fr, h, hv => hk fr h hv
  | (i, st) :: rest, K, K', hk, fl, fr, h, hv => by
    simp only [vdraw] at hv ⊢
    cases ho : ops[i]? with
    | none => rw [ho] at hv; exact hv
    | some o =>
      rw [ho] at hv
      exact ux_mono (fun d h' hx => ⟨hx.1, vdraw_mono rest hk _ _ _ hx.2⟩) hv

theorem vdrawS_mono {l : List (Nat × Fl)} {K K' : Frm → Heap → Prop} (hk : ∀ fr h, K fr h → K' fr h) {fl : Bool} {fr : Frm} {h : Heap} (hv : vdrawS P mu h0 bk ops fl l K fr h) : vdrawS P mu h0 bk ops fl l K' fr h := by
  unfold vdrawS at hv ⊢
  split at hv
  · exact vdraw_mono _ hk _ _ _ hv
  · exact ⟨hv.1, vdraw_mono _ hk _ _ _ hv.2⟩

theorem vwp_mono : ∀ (c : Code) {ro : Option Nat} {Q Q' : Exit → Frm → Heap → Prop} (_ : ∀ e fr h, Q e fr h → Q' e fr h) (fr : Frm) (h : Heap), vwp P g n ro c Q fr h → vwp P g n ro c Q' fr h
  | .skip, _, _, _, hq, fr, h, hv => hq _ _ _ hv
  | .exit _, _, _, _, hq, fr, h, hv => hq _ _ _ hv
  | .ret, _, _, _, hq, fr, h, hv => hq _ _ _ hv
  | .region id ops draw, _, _, _, hq, fr, h, hv => by
    simp only [vwp] at hv ⊢
    cases draw with
    | false => exact vops_mono _ (fun fr h => hq _ fr h) _ _ hv
    | true =>
      obtain ⟨h0, h1, h2⟩ := hv
      exact ⟨h0, h1, vdrawS_mono (fun fr h => hq _ fr h) h2⟩
  | .seq a b, ro, Q, Q', hq, fr, h, hv => by
    simp only [vwp] at hv ⊢
    refine vwp_mono a (fun e fr h hx => ?_) fr h hv
    cases e with
    | normal => exact vwp_mono b hq fr h hx
    | _ => exact hq _ _ _ hx
  | .cond c a b, ro, Q, Q', hq, fr, h, hv => by
    simp only [vwp] at hv ⊢
    split at hv
    · split at hv
      · exact vwp_mono a hq fr h hv
      · exact vwp_mono b hq fr h hv
    · exact hv
  | .block id c, ro, Q, Q', hq, fr, h, hv => by
    simp only [vwp] at hv ⊢
    refine vwp_mono c (fun e fr h hx => ?_) fr h hv
    cases e with
    | exit i =>
      simp only [blockQ] at hx ⊢
      split at hx
      · rename_i hi; rw [if_pos hi]; exact hq _ _ _ hx
      · rename_i hi; rw [if_neg hi]; exact hq _ _ _ hx
    | _ => exact hq _ _ _ hx
  | .loop c, ro, Q, Q', hq, fr, h, hv => by
    simp only [vwp] at hv ⊢
    obtain ⟨I, h1, h2⟩ := hv
    refine ⟨I, h1, fun k fr h hI => vwp_mono c (fun e fr h hx => ?_) fr h (h2 k fr h hI)⟩
    cases e with
    | normal => exact hx
    | _ => exact hq _ _ _ hx
  | .rangeFunc f ps asg body, ro, Q, Q', hq, fr, h, hv => by
    simp only [vwp] at hv ⊢
    refine ⟨hv.1, ?_⟩
    have h2 := hv.2
    cases hf : opnd fr f <;> rw [hf] at h2 <;> simp only [VFn] at h2 ⊢
    rename_i g' first cap
    cases g' <;> simp only at h2 ⊢
    refine VCall.mono h2 fun d h' hx => ?_
    obtain ⟨r, r1, r2, r3⟩ := hx
    refine ⟨r, r1, r2, ?_⟩
    unfold pendQ at r3 ⊢
    split at r3
    · exact hq _ _ _ r3
    · split at r3
      · exact hq _ _ _ r3
      · exact hq _ _ _ r3
      · exact r3
  | .label _, _, _, _, hq, fr, h, hv => hq _ _ _ hv
  | .goto _, _, _, _, _, _, _, hv => hv
  | .scope c, ro, Q, Q', hq, fr, h, hv => by
    simp only [vwp] at hv ⊢
    refine vwp_mono c (fun e fr h hx => ?_) fr h hv
    cases e with
    | goto l => exact hx
    | _ => exact hq _ _ _ hx
  | .refuse .., _, _, _, _, _, _, hv => hv
end

section
variable {P : Program} {g : Cfg} {n : Nat} {ro : Option Nat} {c : Code} {Q : Exit → Frm → Heap → Prop} {fr : Frm} {h : Heap}

theorem VCall.of_fn (hmix : P.follows .mixedOrders = true) {f : FuncId} {fn : Func} {co : Code} {args : List D} {R : D → Heap → Prop} (hf : P.funcs[f]? = some fn) (hok : okFn P g fn = true) (hb : fn.body = some co) (hl : Nat.ble args.length fn.ntmps = true)
    (hv : vwp P g fn.ntmps none co (endQ P fn.results.toList R) (V.frame args) h) : VCall P f args h R := by
  unfold okFn at hok
  rw [hb] at hok
  simp only [Bool.and_eq_true, Bool.not_eq_true'] at hok
  exact VCall.of_body hmix hf hb hok.2 hok.1 (Nat.le_of_ble_eq_true hl) hv

/-- A loop that counts up to len. -/
theorem vwp_range (J : Nat → Frm → Heap → Prop) (len : Nat) (hJ0 : J 0 fr h) (step : ∀ i fr h, i ≤ len → J i fr h → vwp P g n ro c (thenQ (fun fr h => i < len ∧ J (i + 1) fr h) Q) fr h) : vwp P g n ro (.loop c) Q fr h := by
  refine vwp_loop (fun k fr h => ∃ i, k = len - i ∧ i ≤ len ∧ J i fr h) len ⟨0, by simp, Nat.zero_le _, hJ0⟩ ?_
  rintro k fr h ⟨i, rfl, hi, hJ⟩
  refine vwp_mono c ?_ fr h (step i fr h hi hJ)
  intro e fr' h' hq
  cases e with
  | normal => exact ⟨len - (i + 1), by have := hq.1; omega, i + 1, rfl, hq.1, hq.2⟩
  | _ => exact hq
end

theorem wrap_i64 {x : Int} (h1 : -9223372036854775808 ≤ x) (h2 : x < 9223372036854775808) : IntKind.i64.wrap x = x := by
  unfold IntKind.wrap
  simp [IntKind.signed, IntKind.bits]
  split <;> omega

theorem wrap_succ {i : Nat} (h : i ≤ lim) : IntKind.i64.wrap ((i : Int) + 1) = ((i + 1 : Nat) : Int) := by
  rw [wrap_i64 (by omega) (by unfold lim at h; omega)]; norm_cast

@[go_sem] theorem muOf_some (mu : Tmp → Bool) (t : Tmp) : muOf mu (some t) = mu t := (rfl)
@[go_sem] theorem muOf_none (mu : Tmp → Bool) : muOf mu none = false := (rfl)

theorem Pure.at' {P : Program} {f : FuncId} {args : List D} {Q : D → Prop} (hb : belowL 0 args) (hv : VCall P f args Heap.emp fun d _ => below 0 d ∧ Q d) (h : Heap) {R : D → Heap → Prop} (hr : ∀ d, Q d → R d h) : VCall P f args h R :=
  (VCall.frame hb hv h).mono fun d h' hx => by rw [hx.1]; exact hr d hx.2

/-! Rules of evaluation: memory. -/
attribute [go_sem] List.contains_nil List.map_cons List.map_nil List.nil_append List.append_nil List.cons_append Bool.false_eq_true Bool.or_false Bool.or_true Bool.true_or Bool.false_or Bool.not_true Bool.not_false List.getElem?_cons_zero List.getElem?_cons_succ

@[go_sem] theorem isC_tmp (t : Tmp) : isC (.tmp t) = false := (rfl)
@[go_sem] theorem isC_const (v : Value) : isC (.const v) = true := (rfl)
@[go_sem] theorem isC_func (f : FuncId) : isC (.func f) = false := (rfl)
@[go_sem] theorem new_at_same (h : Heap) (i : Nat) (o : Obj) : (h.new i o).at' i = some o := new_at h i o
@[go_sem] theorem set_at_same (h : Heap) (i : Nat) (o : Obj) : (h.set i o).at' i = some o := by simp [Heap.set]
@[go_sem] theorem vop_box_imm (P : Program) (nid : Nat) (t : TypeId) (x : Operand) (fr : Frm) (h : Heap) : vop P false nid (.box t x) (opnd fr) h = if (opnd fr x).notTuple then some (.iptr (opnd fr x).cells 0, h) else none := by
  simp [vop]
@[go_sem] theorem vop_box_mut (P : Program) (nid : Nat) (t : TypeId) (x : Operand) (fr : Frm) (h : Heap) : vop P true nid (.box t x) (opnd fr) h = if (opnd fr x).notTuple then some (.ptr nid 0, h.new nid (.row (opnd fr x).cells)) else none := by
  simp [vop]
def allocR (t : TypeId) (nid : Nat) (h : Heap) : Option D → VR
  | some z => if z.notTuple then some (.ptr nid 0, h.new nid (objOf t z.cells)) else none
  | none => none
@[go_sem] theorem vop_alloc (P : Program) (m : Bool) (nid : Nat) (t : TypeId) (fr : Frm) (h : Heap) : vop P m nid (.alloc t) (opnd fr) h = allocR t nid h (zeroT P t) := by
  simp only [vop, allocR]
  cases zeroT P t <;> rfl
@[go_sem] theorem allocR_agg (t : TypeId) (nid : Nat) (h : Heap) (cs : List D) : allocR t nid h (some (.agg cs)) = some (.ptr nid 0, h.new nid (objOf t cs)) := (rfl)
@[go_sem] theorem allocR_int (t : TypeId) (nid : Nat) (h : Heap) (k : IntKind) (n : Int) : allocR t nid h (some (.int k n)) = some (.ptr nid 0, h.new nid (.row [.int k n])) := (rfl)
@[go_sem] theorem allocR_str (t : TypeId) (nid : Nat) (h : Heap) (s : List UInt8) : allocR t nid h (some (.str s)) = some (.ptr nid 0, h.new nid (.row [.str s])) := (rfl)
@[go_sem] theorem allocR_nilsl (t : TypeId) (nid : Nat) (h : Heap) : allocR t nid h (some .nilsl) = some (.ptr nid 0, h.new nid (.row [.nilsl])) := (rfl)
@[go_sem] theorem objOf_int (t : TypeId) (k : IntKind) (n : Int) (cs : List D) : objOf t (.int k n :: cs) = .row (.int k n :: cs) := (rfl)
@[go_sem] theorem objOf_str (t : TypeId) (s : List UInt8) (cs : List D) : objOf t (.str s :: cs) = .row (.str s :: cs) := (rfl)
@[go_sem] theorem objOf_bool (t : TypeId) (b : Bool) (cs : List D) : objOf t (.bool b :: cs) = .row (.bool b :: cs) := (rfl)
@[go_sem] theorem objOf_nilsl (t : TypeId) (cs : List D) : objOf t (.nilsl :: cs) = .row (.nilsl :: cs) := (rfl)
@[go_sem] theorem objOf_bld (t : TypeId) : objOf t [.nilptr, .nilsl] = .trow t true [.nilptr, .nilsl] := (rfl)
@[go_sem] theorem notTuple_agg (cs : List D) : (D.agg cs).notTuple = true := (rfl)
@[go_sem] theorem notTuple_int (k : IntKind) (n : Int) : (D.int k n).notTuple = true := (rfl)
@[go_sem] theorem notTuple_str (s : List UInt8) : (D.str s).notTuple = true := (rfl)
@[go_sem] theorem cells_agg (cs : List D) : (D.agg cs).cells = cs := (rfl)
@[go_sem] theorem cells_int (k : IntKind) (n : Int) : (D.int k n).cells = [.int k n] := (rfl)
@[go_sem] theorem cells_str (s : List UInt8) : (D.str s).cells = [.str s] := (rfl)
@[go_sem] theorem cells_bool (b : Bool) : (D.bool b).cells = [.bool b] := (rfl)

/-- A whole struct is loaded. -/
theorem vload_iptr_whole {P : Program} {t : TypeId} {cs : List D} {h : Heap} (ha : agT P t = some true) (hs : szT P t = cs.length) (h0 : 0 < cs.length) : vload P t (.iptr cs 0) h = some (.agg cs) := by
  simp only [vload, ha, vpart, hs]
  rw [if_pos trivial, if_neg (by omega), if_pos (by omega)]
  simp
theorem vload_ptr_whole {P : Program} {t : TypeId} {cs : List D} {h : Heap} {id : Nat} (hi : h.at' id = some (.row cs)) (ha : agT P t = some true) (hs : szT P t = cs.length) (h0 : 0 < cs.length) : vload P t (.ptr id 0) h = some (.agg cs) := by
  simp only [vload, ha, hi, vpart, hs]
  rw [if_pos trivial, if_neg (by omega), if_pos (by omega)]
  simp
/-- A whole struct is stored. -/
theorem vstore_whole {P : Program} {t : TypeId} {cs cs' : List D} {h : Heap} {id : Nat} (hi : h.at' id = some (.row cs)) (hs : szT P t = cs'.length) (hl : cs.length = cs'.length) (h0 : 0 < cs'.length) (hf : cs'.all D.flat = true) : vstore P t (.ptr id 0) (.agg cs') h = some (h.set id (.row cs')) := by
  have hp : putAt cs cs' 0 = cs' := by simp [putAt, hl]
  simp only [vstore, hi, D.cells, hs, hp]
  rw [if_pos]
  simp only [Bool.and_eq_true, decide_eq_true_eq, ne_eq, Nat.zero_add]
  exact ⟨⟨⟨fun e => by omega, trivial⟩, Nat.le_of_eq hl.symm⟩, hf⟩

theorem vpart_whole {n : Nat} {cs : List D} (hn : cs.length = n) (h0 : 0 < n) : vpart true n cs 0 = some (.agg cs) := by
  subst hn
  simp only [vpart]
  rw [if_pos trivial, if_neg (by omega), if_pos (by omega)]
  simp

def rowPart (ag : Bool) (n off : Nat) : Option Obj → Option D
  | some (.row cs) => vpart ag n cs off
  | some (.trow _ _ cs) => vpart ag n cs off
  | _ => none
@[go_sem ↓] theorem vload_ptr (P : Program) (t : TypeId) (id off : Nat) (h : Heap) : vload P t (.ptr id off) h = (match agT P t with
  | none => none
  | some ag => rowPart ag (szT P t) off (h.at' id)) := by
  unfold vload
  cases agT P t with
  | none => rfl
  | some ag =>
    simp only
    cases h.at' id with
    | none => rfl
    | some o => cases o <;> rfl
@[go_sem] theorem rowPart_trow (ag : Bool) (n off : Nat) (u : TypeId) (b : Bool) (cs : List D) : rowPart ag n off (some (.trow u b cs)) = vpart ag n cs off := (rfl)
@[go_sem] theorem rowPart_row (ag : Bool) (n off : Nat) (cs : List D) : rowPart ag n off (some (.row cs)) = vpart ag n cs off := (rfl)

@[go_sem] theorem flat_int (k : IntKind) (n : Int) : (D.int k n).flat = true := (rfl)
@[go_sem] theorem flat_str (s : List UInt8) : (D.str s).flat = true := (rfl)
@[go_sem] theorem flat_bool (b : Bool) : (D.bool b).flat = true := (rfl)
@[go_sem] theorem flat_nilsl : D.nilsl.flat = true := (rfl)
@[go_sem] theorem flat_sl (sz : Nat) (xs : List (List D)) (tk : Tk) : (D.sl sz xs tk).flat = true := (rfl)

/-! Slices that are built and appended to. -/
theorem vbuildSlice_one {P : Program} {nid : Nat} {t e : TypeId} {z x : D} {sz : Nat} {h : Heap} (he : elemT P t = some e) (hz : zeroT P e = some z) (hs : szT P e = sz) (hzt : z.notTuple = true) (hzl : z.cells.length = sz) (h0 : 0 < sz) (hlim : sz ≤ 16777216)
    (hxt : x.notTuple = true) (hxl : x.cells.length = sz) : vbuildSlice P false nid t 1 [(0, x)] h = some (.sl sz [x.cells] .full, h) := by
  simp only [vbuildSlice, he, hz, hs]
  have hrep : repl 1 z.cells = z.cells := by simp [repl]
  have hput : putAt z.cells x.cells 0 = x.cells := by simp [putAt, hzl, hxl]
  rw [if_pos (by simp [hzt, hzl, h0]; omega)]
  simp only [vfill, hrep]
  rw [if_pos (by simp [hxt, hxl, hzl])]
  simp only [Nat.zero_mul, hput]
  simp [chunks, ← hxl]

/-- A slice that is nobody else's, and to which can be appended. -/
def OwnSl (h : Heap) (sz : Nat) (xs : List (List D)) (d : D) : Prop := (d = .nilsl ∧ xs = []) ∨ ∃ t, d = .sl sz xs (.own t) ∧ h.at' t = some .tok ∧ t < h.next

theorem OwnSl.isSl {h : Heap} {sz : Nat} {xs : List (List D)} {d : D} (ho : OwnSl h sz xs d) : IsSl sz xs d := by
  rcases ho with ⟨rfl, rfl⟩ | ⟨t, rfl, _⟩
  · exact IsSl.nil
  · exact IsSl.mk _

theorem OwnSl.keep {h h' : Heap} {sz : Nat} {xs : List (List D)} {d : D} (ho : OwnSl h sz xs d) (hk : ∀ i, i < h.next → h'.at' i = h.at' i) (hn : h.next ≤ h'.next) : OwnSl h' sz xs d := by
  rcases ho with h1 | ⟨t, h1, h2, h3⟩
  · exact .inl h1
  · exact .inr ⟨t, h1, by rw [hk t h3]; exact h2, by omega⟩

theorem OwnSl.app {P : Program} {h : Heap} {sz : Nat} {xs ys : List (List D)} {d : D} {tk : Tk} {t e : TypeId} {K : D → Heap → Prop} (ho : OwnSl h sz xs d) (he : elemT P t = some e) (hz : zokT P e = true) (hs : szT P e = sz) (h0 : 0 < sz) (hys : ∀ y ∈ ys, y.length = sz) (hy0 : ys ≠ [])
    (hb : (xs.length + ys.length) * bytesT P e ≤ lim) (hl : xs.length + ys.length ≤ lim) (hK : ∀ d' h', OwnSl h' sz (xs ++ ys) d' → h.next ≤ h'.next → (∀ i, i < h.next → h.at' i ≠ some .tok → h'.at' i = h.at' i) → K d' h') : onR (vappend P false h.next t d (.sl sz ys tk) h) K := by
  have hfl : ys.flatten.length = ys.length * sz := by
    clear hK hb hl hy0
    induction ys with
    | nil => simp
    | cons y ys ih =>
      rw [List.flatten_cons, List.length_append, hys y (by simp), ih (fun z hz => hys z (by simp [hz])), List.length_cons, Nat.succ_mul]; omega
  have hch : chunks sz ys.length ys.flatten = ys := by
    have := chunks_append sz ys [] 0 hys
    simpa [chunks] using this
  have hlen : 0 < ys.length := List.length_pos_iff.2 hy0
  simp only [vappend, he, hz, hs, vels, if_true, hfl, Nat.mul_div_cancel _ h0]
  rcases ho with ⟨rfl, rfl⟩ | ⟨q, rfl, h1, h2⟩
  · simp only [vappendE]
    rw [if_neg (by omega), if_pos (by simp only [Bool.and_eq_true, decide_eq_true_eq]; simp only [List.length_nil, Nat.zero_add] at hb hl; exact ⟨hb, hl⟩)]
    simp only [Bool.false_eq_true, if_false, hch, onR_some]
    refine hK _ _ (.inr ⟨h.next, by simp, new_at _ _ _, Nat.lt_of_lt_of_le (Nat.lt_succ_self _) (Nat.le_max_right _ _)⟩) (next_new _ _ _) fun i hi _ => new_keep (by omega)
  · simp only [vappendE]
    rw [if_pos (by simp only [Bool.and_eq_true, decide_eq_true_eq]; exact ⟨⟨trivial, hb⟩, hl⟩)]
    simp only [h1, Bool.false_eq_true, if_false, hch, onR_some]
    refine hK _ _ (.inr ⟨h.next, rfl, new_at _ _ _, Nat.lt_of_lt_of_le (Nat.lt_succ_self _) (Nat.le_max_right _ _)⟩) (next_new (h.del q) _ _) fun i hi hne => ?_
    rw [new_keep (by omega), del_keep fun e => hne (by rw [e]; exact h1)]
end Go.V
namespace Go.V
open Go.RowKit (Below)

/-! The shapes of arguments. -/
section
variable {H : Type}
mutual
/-- Nothing is long. -/
def smallB : DataW H → Bool
  | .lit l => match l with
    | .string s => decide (s.length ≤ 1048576)
    | _ => true
  | .nil => true
  | .ptr _ => true
  | .slice elems _ => decide (elems.length ≤ 1048576) && smallBAll elems
  | .agg parts => smallBAll parts
  | .iface _ _ => true
  | .map _ => true
  | .held _ => true
def smallBAll : List (DataW H) → Bool
  | [] => true
  | d :: ds => smallB d && smallBAll ds
end

theorem smallBAll_get : ∀ {ds : List (DataW H)}, smallBAll ds = true → ∀ d ∈ ds, smallB d = true
  | [], _, _, h => by cases h
  | d :: ds, hs, x, hx => by
    simp only [smallBAll, Bool.and_eq_true] at hs
    rcases List.mem_cons.1 hx with rfl | hx
    · exact hs.1
    · exact smallBAll_get hs.2 x hx

mutual
theorem smallB_small : ∀ d : DataW H, smallB d = true → small d = true
  | .lit l, h => by
    cases l with
    | string s =>
      simp only [smallB, decide_eq_true_eq] at h
      simp only [small, decide_eq_true_eq]
      unfold lim; omega
    | _ => rfl
  | .nil, _ => rfl
  | .ptr _, _ => rfl
  | .slice elems _, h => by
    simp only [smallB, Bool.and_eq_true, decide_eq_true_eq] at h
    simp only [small, Bool.and_eq_true, decide_eq_true_eq]
    exact ⟨by unfold lim; omega, smallBAll_small elems h.2⟩
  | .agg parts, h => by
    simp only [smallB] at h
    simp only [small]
    exact smallBAll_small parts h
  | .iface _ _, _ => rfl
  | .map _, _ => rfl
  | .held _, _ => rfl
theorem smallBAll_small : ∀ ds : List (DataW H), smallBAll ds = true → smallAll ds = true
  | [], _ => rfl
  | d :: ds, h => by
    simp only [smallBAll, Bool.and_eq_true] at h
    simp only [smallAll, Bool.and_eq_true]
    exact ⟨smallB_small d h.1, smallBAll_small ds h.2⟩
end

def ShpF (P : Program) (r : TypeId → List D → Prop) : List Field → List D → Prop
  | [], cs => cs = []
  | f :: fs, cs => ∃ c cs', cs = c ++ cs' ∧ r f.type c ∧ ShpF P r fs cs'

/-- What the cells of a value of a type look like. -/
def Shp (P : Program) : Nat → TypeId → List D → Prop
  | 0, _, _ => False
  | k + 1, t, cs => match P.underlying t with
    | some .bool => ∃ b, cs = [.bool b]
    | some (.int q) => ∃ n, cs = [.int q n] ∧ fits q n
    | some .string => ∃ s, cs = [.str s] ∧ s.length ≤ 1048576
    | some (.slice e) => cs = [.nilsl] ∨ ∃ xs, cs = [.sl (P.cellsOf e) xs .no] ∧ xs.length ≤ 1048576 ∧ ∀ x ∈ xs, Shp P k e x
    | some (.struct fs) => ShpF P (Shp P k) fs.toList cs
    | _ => False

variable {P : Program} {w : World} {base : Nat} {enc : TypeId × Value → H} {held : Bool}

theorem celF_shp {r : TypeId → DataW H → Option (List D)} {q : TypeId → List D → Prop} {n : Nat} (ih : ∀ t cs x ds, DataW.trod enc P w base (fun _ => true) held n t cs = some x → smallB x.1 = true → r t x.1 = some ds → q t ds) {cs : List Value} :
    ∀ (fs : List Field) (off : Nat) (xs : List (DataW H × List MemPlace)) (ds : List D), (∀ (i : Nat) (f : Field), fs[i]? = some f → DataW.trod enc P w base (fun _ => true) held n f.type ((cs.drop f.offset).take (P.cellsOf f.type)) = xs[i]?) → xs.length = fs.length →
      (∀ x ∈ xs, smallB x.1 = true) → celF P r fs off (xs.map (·.1)) = some ds → ShpF P q fs ds
  | [], off, xs, ds, _, hl, _, hc => by
    have : xs = [] := List.length_eq_zero_iff.1 (by simpa using hl)
    subst this
    simp only [List.map_nil, celF] at hc
    cases hc
    rfl
  | f :: fs, off, [], ds, _, hl, _, _ => by simp at hl
  | f :: fs, off, x :: xs, ds, hx, hl, hs, hc => by
    simp only [List.map_cons, celF] at hc
    split at hc
    · split at hc
      · rename_i c hcc
        split at hc
        · obtain ⟨ds', h1, rfl⟩ := Option.map_eq_some_iff.1 hc
          refine ⟨c, ds', rfl, ih _ _ x c (by simpa using hx 0 f (by simp)) (hs x (by simp)) hcc, celF_shp ih fs _ xs ds' (fun i g hg => by simpa using hx (i + 1) g (by simpa using hg)) (by simpa using hl) (fun y hy => hs y (by simp [hy])) h1⟩
        · cases hc
      · cases hc
    · cases hc

theorem celD_shp : ∀ (n : Nat) (t : TypeId) (cs : List Value) (x : DataW H × List MemPlace) (ds : List D), DataW.trod enc P w base (fun _ => true) held n t cs = some x → smallB x.1 = true → celD P n t x.1 = some ds → Shp P n t ds
  | 0, _, _, _, _, h, _, _ => by simp [DataW.trod] at h
  | n + 1, t, cs, x, ds, h, hs, hc => by
    simp only [celD] at hc
    split at hc
    · rename_i hu
      obtain ⟨b, rfl, rfl⟩ := DataW.trod_bool hu h
      cases hc
      simp only [Shp, hu]
      exact ⟨b, rfl⟩
    · rename_i q hu
      obtain ⟨m, rfl, rfl, hw⟩ := DataW.trod_int hu h
      cases hc
      simp only [Shp, hu]
      refine ⟨m, rfl, ?_⟩
      rw [fits_iff]
      simpa [Lit.wf] using hw
    · rename_i hu
      obtain ⟨s, rfl, rfl, _⟩ := DataW.trod_string hu h
      simp only at hc
      split at hc
      · cases hc
        simp only [Shp, hu]
        exact ⟨_, rfl, by simpa [smallB] using hs⟩
      · cases hc
    · rename_i e hu
      rcases DataW.trod_slice hu h with ⟨rfl, rfl⟩ | ⟨a, len, cap, elems, rest, m, hm, rfl, rfl, hb, hle, hmax, hlen, hel, _⟩
      · cases hc
        simp only [Shp, hu]
        exact .inl trivial
      · have hmn : m = n := by omega
        subst hmn
        simp only [smallB, Bool.and_eq_true, decide_eq_true_eq, List.length_map] at hs
        simp only at hc
        split at hc
        · split at hc
          · rename_i xs hxs
            split at hc
            · cases hc
              simp only [Shp, hu]
              obtain ⟨hxl, hxg⟩ := mapO_get hxs
              rw [List.length_map] at hxl
              refine .inr ⟨xs, rfl, by omega, fun z hz => ?_⟩
              obtain ⟨i, hi⟩ := List.mem_iff_getElem?.1 hz
              obtain ⟨d, hd, hdz⟩ := hxg i z hi
              rw [List.getElem?_map] at hd
              cases hy : elems[i]? with
              | none => rw [hy] at hd; cases hd
              | some y =>
                rw [hy] at hd
                cases hd
                have hi' : i < len := by have := (List.getElem?_eq_some_iff.1 hy).1; omega
                have := hel i hi'
                rw [hy] at this
                obtain ⟨cs', _, htr⟩ := Option.bind_eq_some_iff.1 this
                exact celD_shp m e cs' y z htr (smallBAll_get hs.2 _ (List.mem_map.2 ⟨y, List.mem_of_getElem? hy, rfl⟩)) hdz
            · cases hc
          · cases hc
        · cases hc
    · rename_i fs hu
      obtain ⟨xs, m, hm, rfl, hlen, hxl, hx⟩ := DataW.trod_struct hu h
      have hmn : m = n := by omega
      subst hmn
      simp only [smallB] at hs
      simp only at hc
      split at hc
      · rename_i ds' hds
        split at hc
        · cases hc
          simp only [Shp, hu]
          exact celF_shp (r := celD P m) (n := m) (fun t cs x ds h1 h2 h3 => celD_shp m t cs x ds h1 h2 h3) (cs := cs) fs.toList 0 xs _ (fun i f hf => hx i f (by simpa using hf)) (by rw [Array.length_toList]; exact hxl) (fun y hy => smallBAll_get hs _ (List.mem_map.2 ⟨y, hy, rfl⟩)) hds
        · cases hc
      · cases hc
    · cases hc

/-- The arguments of a call. -/
def ShpAll (P : Program) : List TypeId → List D → Prop
  | [], [] => True
  | t :: ts, x :: xs => (∃ k cs, Shp P k t cs ∧ match agT P t with
    | some true => x = .agg cs
    | some false => cs = [x]
    | none => False) ∧ ShpAll P ts xs
  | _, _ => False

theorem args_shp {S : List TypeId} (hp : plainS P S = true) : ∀ {ts : List TypeId} {vs : List Value} {ds : List (DataW H)} {ps : List MemPlace}, (∀ t ∈ ts, argT P S t = true) → DataW.TrodAll enc P w base (fun _ => true) held ts vs ds ps → smallBAll ds = true → ∃ das, ArgsAre P ts ds das ∧ ShpAll P ts das
  | [], [], [], _, _, _, _ => ⟨[], trivial, trivial⟩
  | t :: ts, v :: vs, d :: ds, ps, ht, h, hs => by
    simp only [DataW.TrodAll] at h
    obtain ⟨p, q, ⟨n, h1⟩, h2, _⟩ := h
    simp only [smallBAll, Bool.and_eq_true] at hs
    obtain ⟨xs, hxs, hys⟩ := args_shp hp (fun t' ht' => ht t' (by simp [ht'])) h2 hs.2
    have hat := ht t (by simp)
    unfold argT at hat
    simp only [Bool.and_eq_true, List.contains_eq_mem, decide_eq_true_eq] at hat
    obtain ⟨cs, k1, k2⟩ := celD_some hp n t v.cells.toList (d, p) hat.1 h1 (smallB_small _ hs.1)
    have k3 := celD_shp n t _ (d, p) cs h1 hs.1 k1
    have hat2 := hat.2
    split at hat2
    · rename_i ag hag
      cases ag with
      | true => exact ⟨.agg cs :: xs, ⟨⟨n, by unfold argD; simp only at k1; rw [k1]; simp only [hag]; rfl⟩, hxs⟩, ⟨n, cs, k3, by rw [hag]⟩, hys⟩
      | false =>
        have h1c : P.cellsOf t = 1 := by simpa using hat2
        rw [h1c] at k2
        match cs, k2 with
        | [c], _ => exact ⟨c :: xs, ⟨⟨n, by unfold argD; simp only at k1; rw [k1]; simp only [hag]; rfl⟩, hxs⟩, ⟨n, [c], k3, by rw [hag]⟩, hys⟩
    · cases hat2
  | [], _ :: _, _, _, _, h, _ => by simp [DataW.TrodAll] at h
  | [], [], _ :: _, _, _, h, _ => by simp [DataW.TrodAll] at h
  | _ :: _, [], _, _, _, h, _ => by simp [DataW.TrodAll] at h
  | _ :: _, _ :: _, [], _, _, h, _ => by simp [DataW.TrodAll] at h
end
end Go.V
namespace Go.V

/-! What arguments are: flat, without names, without tokens. -/
section
variable {P : Program}

theorem belowE_of {k : Nat} : ∀ {xs : List (List D)}, (∀ x ∈ xs, belowL k x) → belowE k xs
  | [], _ => by simp only [belowE]
  | x :: xs, h => by
    simp only [belowE]
    exact ⟨h x (by simp), belowE_of fun y hy => h y (by simp [hy])⟩
theorem belowL_append {k : Nat} : ∀ {us vs : List D}, belowL k us → belowL k vs → belowL k (us ++ vs)
  | [], _, _, hb => hb
  | a :: us, vs, ha, hb => by
    simp only [belowL, List.cons_append] at ha ⊢
    exact ⟨ha.1, belowL_append ha.2 hb⟩
theorem stripL_append : ∀ us vs : List D, stripL (us ++ vs) = stripL us ++ stripL vs
  | [], _ => by simp [stripL]
  | a :: us, vs => by simp [stripL, stripL_append us vs]
theorem stripE_of : ∀ {xs : List (List D)}, (∀ x ∈ xs, stripL x = x) → stripE xs = xs
  | [], _ => by simp only [stripE]
  | x :: xs, h => by
    simp only [stripE]
    rw [h x (by simp), stripE_of fun y hy => h y (by simp [hy])]

/-- Cells that are plain: nothing but values. -/
def PlainC (cs : List D) : Prop := cs.all D.flat = true ∧ belowL 0 cs ∧ stripL cs = cs

theorem PlainC.append {us vs : List D} (ha : PlainC us) (hb : PlainC vs) : PlainC (us ++ vs) :=
  ⟨by rw [List.all_append, ha.1, hb.1]; rfl, belowL_append ha.2.1 hb.2.1, by rw [stripL_append, ha.2.2, hb.2.2]⟩
theorem PlainC.nil : PlainC [] := ⟨rfl, by simp only [belowL], by simp only [stripL]⟩

theorem ShpF_plain {r : TypeId → List D → Prop} (hr : ∀ t cs, r t cs → PlainC cs) : ∀ (fs : List Field) (cs : List D), ShpF P r fs cs → PlainC cs
  | [], cs, h => by
    simp only [ShpF] at h
    subst h
    exact PlainC.nil
  | f :: fs, cs, h => by
    obtain ⟨c, cs', rfl, h1, h2⟩ := h
    exact PlainC.append (hr _ _ h1) (ShpF_plain hr fs cs' h2)

theorem Shp_plain : ∀ (k : Nat) (t : TypeId) (cs : List D), Shp P k t cs → PlainC cs
  | 0, _, _, h => by simp only [Shp] at h
  | k + 1, t, cs, h => by
    simp only [Shp] at h
    split at h
    · obtain ⟨b, rfl⟩ := h
      exact ⟨rfl, by simp [belowL, below], by simp [stripL, strip]⟩
    · obtain ⟨n, rfl, _⟩ := h
      exact ⟨rfl, by simp [belowL, below], by simp [stripL, strip]⟩
    · obtain ⟨s, rfl, _⟩ := h
      exact ⟨rfl, by simp [belowL, below], by simp [stripL, strip]⟩
    · rcases h with rfl | ⟨xs, rfl, _, hx⟩
      · exact ⟨rfl, by simp [belowL, below], by simp [stripL, strip]⟩
      · refine ⟨rfl, ?_, ?_⟩
        · simp only [belowL, below, and_true]
          exact belowE_of fun x h => (Shp_plain k _ x (hx x h)).2.1
        · simp only [stripL, strip]
          rw [stripE_of fun x h => (Shp_plain k _ x (hx x h)).2.2]
    · exact ShpF_plain (fun t cs => Shp_plain k t cs) _ _ h
    · exact h.elim
end

/-! Heaps that grow. -/
/-- h' is h, with more. -/
def Ext (h h' : Heap) : Prop := h.next ≤ h'.next ∧ ∀ i, i < h.next → h'.at' i = h.at' i
/-- h' is h, but for what lies at S, and for what is new. -/
def But (S : Nat → Prop) (h h' : Heap) : Prop := h.next ≤ h'.next ∧ ∀ i, i < h.next → ¬ S i → h'.at' i = h.at' i

theorem Ext.refl (h : Heap) : Ext h h := ⟨Nat.le_refl _, fun _ _ => rfl⟩
theorem Ext.trans {h1 h2 h3 : Heap} (a : Ext h1 h2) (b : Ext h2 h3) : Ext h1 h3 := ⟨Nat.le_trans a.1 b.1, fun i hi => by rw [b.2 i (by have := a.1; omega), a.2 i hi]⟩
theorem Ext.new {h h1 : Heap} (a : Ext h h1) {id : Nat} (hid : h.next ≤ id) (o : Obj) : Ext h (h1.new id o) := ⟨Nat.le_trans a.1 (next_new _ _ _), fun i hi => by rw [new_keep (by omega), a.2 i hi]⟩
theorem Ext.set {h h1 : Heap} (a : Ext h h1) {id : Nat} (hid : h.next ≤ id) (o : Obj) : Ext h (h1.set id o) := ⟨a.1, fun i hi => by rw [set_keep (by omega), a.2 i hi]⟩
theorem Ext.del {h h1 : Heap} (a : Ext h h1) {id : Nat} (hid : h.next ≤ id) : Ext h (h1.del id) := ⟨a.1, fun i hi => by rw [del_keep (by omega), a.2 i hi]⟩
theorem Ext.but {h h1 : Heap} (a : Ext h h1) (S : Nat → Prop) : But S h h1 := ⟨a.1, fun i hi _ => a.2 i hi⟩
theorem But.refl (S : Nat → Prop) (h : Heap) : But S h h := ⟨Nat.le_refl _, fun _ _ _ => rfl⟩
theorem But.trans {S S' : Nat → Prop} {h1 h2 h3 : Heap} (a : But S h1 h2) (b : But S' h2 h3) (hs : ∀ i, S' i → S i ∨ h1.next ≤ i) : But S h1 h3 :=
  ⟨Nat.le_trans a.1 b.1, fun i hi hn => by rw [b.2 i (by have := a.1; omega) (fun h => (hs i h).elim hn (by omega)), a.2 i hi hn]⟩
theorem But.set {S : Nat → Prop} {h h1 : Heap} (a : But S h h1) {id : Nat} (hid : S id ∨ h.next ≤ id) (o : Obj) : But S h (h1.set id o) := ⟨a.1, fun i hi hn => by rw [set_keep (fun e => by subst e; exact hid.elim hn (by omega)), a.2 i hi hn]⟩
theorem But.new {S : Nat → Prop} {h h1 : Heap} (a : But S h h1) {id : Nat} (hid : S id ∨ h.next ≤ id) (o : Obj) : But S h (h1.new id o) := ⟨Nat.le_trans a.1 (next_new _ _ _), fun i hi hn => by rw [new_keep (fun e => by subst e; exact hid.elim hn (by omega)), a.2 i hi hn]⟩
theorem But.del {S : Nat → Prop} {h h1 : Heap} (a : But S h h1) {id : Nat} (hid : S id ∨ h.next ≤ id) : But S h (h1.del id) := ⟨a.1, fun i hi hn => by rw [del_keep (fun e => by subst e; exact hid.elim hn (by omega)), a.2 i hi hn]⟩

@[go_sem] theorem next_set (h : Heap) (i : Nat) (o : Obj) : (h.set i o).next = h.next := (rfl)
@[go_sem] theorem next_del (h : Heap) (i : Nat) : (h.del i).next = h.next := (rfl)
theorem next_new_eq (h : Heap) (o : Obj) : (h.new h.next o).next = h.next + 1 := by simp [Heap.new]
theorem next_new_ge (h : Heap) {i : Nat} (hi : h.next ≤ i) (o : Obj) : (h.new i o).next = i + 1 := by simp [Heap.new]; omega

/-! Loops over functions. -/
section
variable {P : Program} {g : Cfg} {n : Nat} {ro : Option Nat} {Q : Exit → Frm → Heap → Prop} {fr : Frm} {h : Heap}

def inRound (ro : Option Nat) (h : Heap) : Prop :=
  match ro with
  | none => True
  | some id => ∃ r, h.at' id = some (.loop r)

@[go_sem ↓] theorem inRound_none : inRound none h = True := (rfl)
@[go_sem ↓] theorem VFn_fn (f : FuncId) (a c args : List D) (K : D → Heap → Prop) : VFn P (.fn (.func f) a c) args h K = VCall P f (a ++ args ++ c) h K := (rfl)
@[go_sem ↓] theorem vwp_rangeFunc (f : Operand) (ps : Array Tmp) (asg body : Code) : vwp P g n ro (.rangeFunc f ps asg body) Q fr h =
    (inRound ro h ∧ VFn P (opnd fr f) [.yld h.next] (h.new h.next (.loop ⟨.ready, none, fr, ps, asg, body, n⟩)) fun _ h' => ∃ r, h'.at' h.next = some (.loop r) ∧ r.st ≠ .busy ∧ pendQ r.pending Q fr (h'.del h.next)) := by
  cases ro <;> simp only [vwp, inRound]
theorem pendQ_none : pendQ none Q fr h = Q .normal fr h := (rfl)
theorem pendQ_ret : pendQ (some .ret) Q fr h = Q .ret fr h := (rfl)
theorem pendQ_exit (i : Nat) : pendQ (some (.exit i)) Q fr h = Q (.exit i) fr h := (rfl)
@[go_sem ↓] theorem setPs_cons (t : Tmp) (ts : List Tmp) (d : D) (ds : List D) : setPs fr (t :: ts) (d :: ds) = setPs (putF fr (some t) d) ts ds := (rfl)
@[go_sem ↓] theorem setPs_nil : setPs fr [] [] = fr := (rfl)

/-- How a round ends. -/
def roundQ (K : D → Heap → Prop) (id : Nat) (e : Exit) (_ : Frm) (h2 : Heap) : Prop := ∃ L2, h2.at' id = some (.loop L2) ∧ roundEnd K id L2 e h2

theorem roundQ_normal {K : D → Heap → Prop} {id : Nat} {L : LRec} (hL : h.at' id = some (.loop L)) (hk : K (.bool true) (h.set id (.loop { L with st := .ready, pending := none }))) : roundQ K id .normal fr h := ⟨L, hL, hk⟩
theorem roundQ_ret {K : D → Heap → Prop} {id : Nat} {L : LRec} (hL : h.at' id = some (.loop L)) (hk : K (.bool false) (h.set id (.loop { L with st := .done, pending := some .ret }))) : roundQ K id .ret fr h := ⟨L, hL, hk⟩
theorem roundQ_exit {K : D → Heap → Prop} {id i : Nat} {L : LRec} (hL : h.at' id = some (.loop L)) (hk : K (.bool false) (h.set id (.loop { L with st := .done, pending := some (.exit i) }))) : roundQ K id (.exit i) fr h := ⟨L, hL, hk⟩

theorem VYield.round (hmix : P.follows .mixedOrders = true) {id : Nat} {args : List D} {K : D → Heap → Prop} {ps : Array Tmp} {asg body : Code} (hL : h.at' id = some (.loop ⟨.ready, none, fr, ps, asg, body, n⟩)) (hlen : args.length = ps.size)
    (hps : ps.toList.all (fun t => decide (t < n)) = true) (ok1 : codeOk P g n asg = true) (ok2 : codeOk P g n body = true)
    (hv : vwp P g n (some id) asg (thenQ (fun fr1 h1 => h1.at' id = some (.loop ⟨.ready, none, fr, ps, asg, body, n⟩) ∧ vwp P g n (some id) body (roundQ K id) fr1 (h1.set id (.loop ⟨.busy, none, fr, ps, asg, body, n⟩))) (fun _ _ _ => False)) (setPs fr ps.toList args) h) : VYield P id args h K := by
  refine VYield.of_round (g := g) hmix hL hlen hps ok1 ok2 (vwp_mono asg (fun e fr1 h1 hq => ?_) _ _ hv)
  cases e with
  | normal => exact ⟨_, hq.1, rfl, hq.2⟩
  | _ => exact hq.elim

/-- What a loop over a function says of its heap and of the places that are its own: Y k, when k elements were yielded; Z, when the loop has ended early. -/
structure Yld (P : Program) (id : Nat) (len : Nat) (el : Nat → List D) (Y : Nat → (Nat → Prop) → Heap → Prop) (Z : (Nat → Prop) → Heap → Prop) : Prop where
  here : ∀ k S h, Y k S h → ∀ i, S i → i < h.next
  loc : ∀ k S h h', Y k S h → h.next ≤ h'.next → (∀ i, S i → h'.at' i = h.at' i) → Y k S h'
  hereZ : ∀ S h, Z S h → ∀ i, S i → i < h.next
  locZ : ∀ S h h', Z S h → h.next ≤ h'.next → (∀ i, S i → h'.at' i = h.at' i) → Z S h'
  go : ∀ k S h, k < len → Y k S h → VYield P id (el k) h fun r h' => ∃ S', (∀ i, S' i → S i ∨ h.next ≤ i) ∧ But S h h' ∧ ((r = .bool true ∧ Y (k + 1) S' h') ∨ (r = .bool false ∧ Z S' h'))

theorem Yld.ext {id len : Nat} {el : Nat → List D} {Y : Nat → (Nat → Prop) → Heap → Prop} {Z : (Nat → Prop) → Heap → Prop} (y : Yld P id len el Y Z) {k : Nat} {S : Nat → Prop} {h h' : Heap} (hy : Y k S h) (he : Ext h h') : Y k S h' :=
  y.loc k S h h' hy he.1 fun i hi => he.2 i (y.here k S h hy i hi)
end

/-! Slices that are written to. -/
section
variable {P : Program} {sz : Nat}

theorem flat_len {xs : List (List D)} (hx : ∀ x ∈ xs, x.length = sz) : xs.flatten.length = xs.length * sz := by
  induction xs with
  | nil => simp
  | cons x xs ih => rw [List.flatten_cons, List.length_append, hx x (by simp), ih (fun y hy => hx y (by simp [hy])), List.length_cons, Nat.succ_mul]; omega

theorem flat_part : ∀ {xs : List (List D)} (_ : ∀ x ∈ xs, x.length = sz) {i : Nat} {x : List D} (_ : xs[i]? = some x), (xs.flatten.drop (i * sz)).take sz = x
  | [], _, i, x, h => by simp at h
  | y :: xs, hx, 0, x, h => by
    simp only [List.getElem?_cons_zero, Option.some.injEq] at h
    subst h
    rw [Nat.zero_mul, List.drop_zero, List.flatten_cons, List.take_append_of_le_length (by rw [hx y (by simp)]; exact Nat.le_refl _), List.take_of_length_le (by rw [hx y (by simp)]; exact Nat.le_refl _)]
  | y :: xs, hx, i + 1, x, h => by
    simp only [List.getElem?_cons_succ] at h
    have hy := hx y (by simp)
    rw [List.flatten_cons, Nat.succ_mul, Nat.add_comm, List.drop_append, List.drop_of_length_le (by omega), List.nil_append, show sz + i * sz - y.length = i * sz by omega]
    exact flat_part (fun z hz => hx z (by simp [hz])) h

theorem flat_put : ∀ {xs : List (List D)} (_ : ∀ x ∈ xs, x.length = sz) {i : Nat} (_ : i < xs.length) {x : List D} (_ : x.length = sz), putAt xs.flatten x (i * sz) = (xs.set i x).flatten
  | [], _, i, h, x, _ => by simp at h
  | y :: xs, hx, 0, h, x, hl => by
    have hy := hx y (by simp)
    simp only [putAt, Nat.zero_mul, List.take_zero, List.nil_append, Nat.zero_add, List.flatten_cons, List.set_cons_zero]
    rw [List.drop_append, List.drop_of_length_le (by omega), List.nil_append, show x.length - y.length = 0 by omega, List.drop_zero]
  | y :: xs, hx, i + 1, h, x, hl => by
    have hy := hx y (by simp)
    have ih := flat_put (xs := xs) (fun z hz => hx z (List.mem_cons_of_mem _ hz)) (i := i) (by simpa using h) hl
    simp only [putAt] at ih ⊢
    rw [List.flatten_cons, List.set_cons_succ, List.flatten_cons, ← ih, Nat.succ_mul, Nat.add_comm (i * sz) sz, List.take_append, List.take_of_length_le (by omega), show sz + i * sz - y.length = i * sz by omega, List.drop_append, List.drop_of_length_le (by omega), List.nil_append, show sz + i * sz + x.length - y.length = i * sz + x.length by omega]
    simp

theorem vindexAddr_rs {t e : TypeId} {id len : Nat} (he : elemT P t = some e) (hz : szT P e = sz) {k : IntKind} {i : Nat} (hi : i < len) : vindexAddr P t (.rs id sz 0 len) (.int k (i : Int)) = some (.ptr id (i * sz)) := by
  simp [vindexAddr, he, hz, hi]
theorem vlen_rs {t e : TypeId} {id off len : Nat} {h : Heap} (hu : P.underlying t = some (.slice e)) : vlen P t (.rs id sz off len) h = some (.int .i64 len) := by simp [vlen, hu]

/-- A part of a row that is loaded. -/
theorem vpart_flat {xs : List (List D)} (hx : ∀ x ∈ xs, x.length = sz) (h0 : 0 < sz) {i : Nat} {x : List D} (hi : xs[i]? = some x) : vpart true sz xs.flatten (i * sz) = some (.agg x) := by
  have hlt : i < xs.length := (List.getElem?_eq_some_iff.1 hi).1
  have h1 : i * sz + sz ≤ xs.length * sz := by rw [← Nat.succ_mul]; exact Nat.mul_le_mul_right _ hlt
  simp only [vpart, if_true]
  rw [if_neg (by omega), if_pos (by rw [flat_len hx]; exact h1), flat_part hx hi]
theorem vstore_flat {t : TypeId} {xs : List (List D)} {h : Heap} {id : Nat} (hr : h.at' id = some (.row xs.flatten)) (hx : ∀ x ∈ xs, x.length = sz) (h0 : 0 < sz) (hs : szT P t = sz) {i : Nat} (hi : i < xs.length) {x : List D} (hl : x.length = sz) (hf : x.all D.flat = true) :
    vstore P t (.ptr id (i * sz)) (.agg x) h = some (h.set id (.row (xs.set i x).flatten)) := by
  have h1 : i * sz + sz ≤ xs.length * sz := by rw [← Nat.succ_mul]; exact Nat.mul_le_mul_right _ hi
  simp only [vstore, hr, D.cells, hs, hl]
  rw [if_pos, flat_put hx hi hl]
  simp only [Bool.and_eq_true, decide_eq_true_eq, ne_eq]
  refine ⟨⟨⟨by omega, trivial⟩, by rw [flat_len hx]; exact h1⟩, hf⟩

theorem chunks_flat {xs : List (List D)} (hx : ∀ x ∈ xs, x.length = sz) : chunks sz xs.length xs.flatten = xs := by
  have := chunks_append sz xs [] 0 hx
  simpa [chunks] using this

/-- What is appended to an empty slice, when it is not written to later. -/
theorem vappend_copy {t e : TypeId} {xs : List (List D)} {tk : Tk} {h : Heap} {nid : Nat} (he : elemT P t = some e) (hz : zokT P e = true) (hs : szT P e = sz) (h0 : 0 < sz) (hx : ∀ x ∈ xs, x.length = sz) (hb : xs.length * bytesT P e ≤ lim) (hl : xs.length ≤ lim) :
    vappend P false nid t (.sl sz [] .full) (.sl sz xs tk) h = if xs.length = 0 then some (.sl sz [] .full, h) else some (.sl sz xs (.own nid), h.new nid .tok) := by
  simp only [vappend, he, hz, hs, vels, if_true, flat_len hx, Nat.mul_div_cancel _ h0, vappendE]
  rw [if_pos (by simp only [List.length_nil, Nat.zero_add, Bool.and_eq_true, decide_eq_true_eq]; exact ⟨⟨trivial, hb⟩, hl⟩)]
  simp only [Bool.false_eq_true, if_false, chunks_flat hx, List.nil_append]
/-- .. and when it is written to. -/
theorem vappend_copyM {t e : TypeId} {xs : List (List D)} {tk : Tk} {h : Heap} {nid : Nat} (he : elemT P t = some e) (hz : zokT P e = true) (hs : szT P e = sz) (h0 : 0 < sz) (hx : ∀ x ∈ xs, x.length = sz) (hb : xs.length * bytesT P e ≤ lim) (hl : xs.length ≤ lim) :
    vappend P true nid t (.sl sz [] .full) (.sl sz xs tk) h = if xs.length = 0 then some (.sl sz [] .full, h) else some (.rs nid sz 0 xs.length, h.new nid (rowObj P e xs.flatten)) := by
  simp only [vappend, he, hz, hs, vels, if_true, flat_len hx, Nat.mul_div_cancel _ h0, vappendE]
  rw [if_pos (by simp only [List.length_nil, Nat.zero_add, Bool.and_eq_true, decide_eq_true_eq]; exact ⟨⟨trivial, hb⟩, hl⟩)]
  simp only [List.length_nil, Nat.zero_add, List.flatten_nil, List.nil_append]
theorem rowObj_str {e : TypeId} {cs : List D} (hu : P.underlying e = some .string) : rowObj P e cs = .row cs := by simp [rowObj, hu]
theorem rowObj_i64 {e : TypeId} {cs : List D} (hu : P.underlying e = some (.int .i64)) : rowObj P e cs = .row cs := by simp [rowObj, hu]
theorem rowObj_struct {e : TypeId} {fs : Array Field} {cs : List D} (hu : P.underlying e = some (.struct fs)) : rowObj P e cs = .row cs := by simp [rowObj, hu]
theorem rowObj_u8 {e : TypeId} {cs : List D} (hu : P.underlying e = some (.int .u8)) : rowObj P e cs = .trow e false cs := by simp [rowObj, hu]
end
end Go.V
namespace Go.V
open Go.RowKit (Below)

/-! Functions of Go's library that change a slice in place. -/
theorem mapBlock_setRow (W : World) (b : Nat) (c' : Array Value) : Go.Sort.mapBlock W b (fun _ => c') = W.setRow b c' := by
  unfold Go.Sort.mapBlock World.setRow
  congr 1

section
variable {w0 : Base} {G : List Nat} {M : Imm} {ρ : Ren} {h : Heap} {w : World}

theorem Sim.ahead (hs : Sim w0 G M ρ h w) : ∀ q : Nat, Sim w0 G M ρ h (Go.Sort.ahead w q)
  | 0 => hs
  | q + 1 => by
    have := (Sim.ahead hs q).drew
    rwa [Go.Sort.ahead_drew] at this

/-- The cells of a row are those of a list of one cell each. -/
theorem Sim.putRow {α : Type} [Inhabited α] {enc : α → Value} {dd : α → D} (hfl : ∀ x, (dd x).flat = true) (hs : Sim w0 G M ρ h w) {id : Nat} {pre post : List D} {xs ys : List α} (hi : h.at' id = some (.row (pre ++ xs.map dd ++ post))) {l : Loc} (hl : ρ id = some l)
    (hlen : ys.length = xs.length) (hy : ∀ y ∈ ys, rel M ρ (dd y) (enc y)) : Sim w0 G M ρ (h.set id (.row (pre ++ ys.map dd ++ post))) (Go.Sort.putRow enc w l.blk pre.length ys.toArray) := by
  obtain ⟨l', h1, _, hM, c, e, hw, hls, hcl, hcells⟩ := hs.live id _ hi
  rw [hl] at h1; cases h1
  have hL : (pre ++ xs.map dd ++ post).length = pre.length + xs.length + post.length := by simp; omega
  have hL2 : (pre ++ ys.map dd ++ post).length = pre.length + xs.length + post.length := by simp [hlen]; omega
  unfold Go.Sort.putRow
  rw [Go.Sort.mapBlock_congr w l.blk (Go.Sort.putCells enc pre.length ys.toArray) (fun _ => Go.Sort.putCells enc pre.length ys.toArray c) (fun c1 e1 fr1 h1 => by rw [hw] at h1; cases h1; rfl), mapBlock_setRow]
  have hsz : (Go.Sort.putCells enc pre.length ys.toArray c).size = c.size := by simp [Go.Sort.putCells]
  refine hs.setRow hi hl hw hsz (by rw [hsz, hL2, ← hL]; exact hcl) (relL_of_get (by
    have e : (Go.Sort.putCells enc pre.length ys.toArray c).toList.length = c.size := by rw [Array.length_toList]; exact hsz
    rw [List.length_take, e]; omega) fun i d v hd hv => ?_) ?_
  · have hlt : i < (pre ++ ys.map dd ++ post).length := (List.getElem?_eq_some_iff.1 hd).1
    rw [List.getElem?_take, if_pos hlt, Array.getElem?_toList] at hv
    simp only [Go.Sort.putCells, Array.getElem?_mapIdx] at hv
    obtain ⟨v0, hv0, rfl⟩ := Option.map_eq_some_iff.1 hv
    by_cases hin : pre.length ≤ i ∧ i < pre.length + ys.toArray.size
    · rw [if_pos hin]
      have h2 : i - pre.length < ys.length := by have := hin.2; simp only [List.size_toArray] at this; omega
      rw [List.append_assoc, List.getElem?_append_right hin.1, List.getElem?_append_left (by simpa using h2), List.getElem?_map, List.getElem?_eq_getElem h2] at hd
      cases hd
      rw [getElem!_pos ys.toArray (i - pre.length) (by simpa using h2)]
      exact hy _ (by simp)
    · rw [if_neg hin]
      have hd' : (pre ++ xs.map dd ++ post)[i]? = some d := by
        simp only [List.size_toArray, not_and, Nat.not_lt] at hin
        by_cases hp : i < pre.length
        · rw [List.append_assoc, List.getElem?_append_left hp] at hd ⊢; exact hd
        · have hq := hin (by omega)
          rw [List.getElem?_append_right (by simp; omega)] at hd ⊢
          simpa [hlen] using hd
      obtain ⟨_, u, e1, e2⟩ := hcells i d hd'
      rw [hv0] at e1; cases e1; exact e2
  · rw [List.all_append, List.all_append]
    have h1 : pre.all D.flat = true := List.all_eq_true.2 fun d hd => by
      obtain ⟨i, hi'⟩ := List.mem_iff_getElem?.1 hd
      have hlt := (List.getElem?_eq_some_iff.1 hi').1
      exact (hcells i d (by rw [List.append_assoc, List.getElem?_append_left hlt]; exact hi')).1
    have h3 : post.all D.flat = true := List.all_eq_true.2 fun d hd => by
      obtain ⟨i, hi'⟩ := List.mem_iff_getElem?.1 hd
      exact (hcells (pre.length + xs.length + i) d (by rw [List.getElem?_append_right (by simp)]; simpa using hi')).1
    rw [h1, h3, List.all_eq_true.2 fun d hd => by obtain ⟨y, _, rfl⟩ := List.mem_map.1 hd; exact hfl y]
    rfl
end

/-- A function that changes a slice in place. -/
theorem VCall.of_row {P : Program} {f : FuncId} {α : Type} [Inhabited α] {enc : α → Value} {dd : α → D} (hinv : ∀ M ρ x v, rel M ρ (dd x) v → v = enc x) (hfl : ∀ x, (dd x).flat = true) {xs ys : List α} {m : Nat} {rest : List D} {id : Nat} {pre post : List D} {h : Heap}
    (he : entersT P f = true) (hrow : h.at' id = some (.row (pre ++ xs.map dd ++ post))) (h0 : 0 < xs.length) (hlen : ys.length = xs.length) (hm : m ≤ xs.length) (hy : ∀ y ∈ ys, y ∈ xs ∨ ∀ M ρ, rel M ρ (dd y) (enc y))
    (hc : ∀ (blk o cap : Nat) (w : World) (M : Imm) (ρ : Ren) (va : List Value), Go.Sort.Holds enc w blk o xs.toArray → xs.length ≤ cap → cap ≤ 9223372036854775807 → relL M ρ rest va →
      Calls P f (.slice (some ⟨blk, o, none⟩) xs.length cap :: va).toArray w fun e w' => e = .returned (.slice (some ⟨blk, o, none⟩) m cap) ∧ ∃ q, w' = Go.Sort.putRow enc (Go.Sort.ahead w q) blk o ys.toArray) :
    VCall P f (.rs id 1 pre.length xs.length :: rest) h fun d h' => d = .rs id 1 pre.length m ∧ h' = h.set id (.row (pre ++ ys.map dd ++ post)) := by
  refine ⟨he, fun w0 G M ρ w va hg0 hs hfr hr => ?_⟩
  simp only [relL] at hr
  obtain ⟨v, vs', hva, hv, hrest⟩ := hr
  simp only [rel] at hv
  obtain ⟨_, hlim, l, cap, o, hl, rfl, ⟨hc1, hc2⟩, hsz, ho⟩ := hv
  have ho : o = pre.length := by
    rcases ho with hz | ho
    · omega
    · exact ho
  subst ho
  obtain ⟨l', h1, hkeep, hM, c, e, hw, hls, hcl, hcells⟩ := hs.live id _ hrow
  rw [hl] at h1; cases h1
  have hcell : ∀ (j : Nat) (hj : j < xs.length), ∃ v, c[pre.length + j]? = some v ∧ rel M ρ (dd xs[j]) v := fun j hj => by
    obtain ⟨_, v, e1, e2⟩ := hcells (pre.length + j) (dd xs[j]) (by
      rw [List.append_assoc, List.getElem?_append_right (by omega), Nat.add_sub_cancel_left, List.getElem?_append_left (by simpa using hj), List.getElem?_map, List.getElem?_eq_getElem hj]; rfl)
    exact ⟨v, e1, e2⟩
  have hholds : Go.Sort.Holds enc w l.blk pre.length xs.toArray := fun j hj => by
    have hj' : j < xs.length := by simpa using hj
    obtain ⟨v, e1, e2⟩ := hcell j hj'
    refine ⟨?_, by simp [World.frozen?, hw]⟩
    rw [getElem!_pos xs.toArray j hj]
    simp only [World.cell?, hw, Option.isSome_none, Bool.false_eq_true, if_false, e1, hinv _ _ _ _ e2, List.getElem_toArray]
  have hva' : va = (.slice (some ⟨l.blk, pre.length, none⟩) xs.length cap :: vs').toArray := Array.ext' (by simpa using hva)
  rw [hva']
  refine (hc l.blk pre.length cap w M ρ vs' hholds hc1 (by simpa [maxLen] using hc2) hrest).mono fun e w' hq => ?_
  obtain ⟨rfl, q, rfl⟩ := hq
  have hrel : ∀ y ∈ ys, rel M ρ (dd y) (enc y) := fun y hyy => by
    rcases hy y hyy with hx | hx
    · obtain ⟨j, hj, rfl⟩ := List.mem_iff_getElem.1 hx
      obtain ⟨v, _, e2⟩ := hcell j hj
      have := hinv _ _ _ _ e2
      rw [← this]; exact e2
    · exact hx M ρ
  have hS := (hs.ahead q).putRow hfl (enc := enc) hrow hl hlen hrel
  refine ⟨_, M, ρ, .rs id 1 pre.length m, _, rfl, MLe.refl _, RLe.refl _, hS, hfr, ?_, rfl, rfl⟩
  simp only [rel]
  exact ⟨by omega, by omega, l, cap, pre.length, hl, rfl, ⟨by omega, hc2⟩, hsz, .inr rfl⟩

theorem dd_int {M : Imm} {ρ : Ren} {x : Int} {v : Value} (h : rel M ρ (.int .i64 x) v) : v = .int .i64 x := by
  simp only [rel] at h
  exact h.1
theorem dd_str {M : Imm} {ρ : Ren} {x : List UInt8} {v : Value} (h : rel M ρ (.str x) v) : v = .string ⟨x.toArray⟩ := by
  simp only [rel] at h
  obtain ⟨b, rfl, rfl, _⟩ := h
  simp
end Go.V
namespace Go.V
open Go.RowKit (Below)

/-! Regions that draw their order: plans. -/
/-- An operation's way: its number, how it is taken, and whether it must be shown to keep h0. -/
abbrev Way := Nat × Fl × Bool

def onO (o : Option Oper) (k : Oper → Prop) : Prop :=
  match o with
  | some o => k o
  | none => False

/-- A load that does not depend on more than h0. -/
def stLoad (P : Program) (h0 : Heap) (o : Op) (ev : Operand → D) (k : D → Prop) : Prop :=
  match o with
  | .load t a => onS (vload P t (ev a) h0) k
  | o => ∃ d, Stab P h0 o ev d ∧ k d

def vway (P : Program) (mu : Tmp → Bool) (h0 : Heap) (st : Fl) (ops : Array Oper) (o : Oper) (fr : Frm) (h : Heap) (k : D → Heap → Prop) : Prop :=
  match guardOk ops fr o.guard with
  | false => k undefD h
  | true => match st with
    | .st => stLoad P h0 o.op (opnd fr) fun d => k d h
    | .no => vop1 P (muOf mu o.dst) h.next o.op (opnd fr) h k
    | .qu => vop1 P (muOf mu o.dst) h.next o.op (opnd fr) h fun d h' => h' = h ∧ k d h
    | .al i => vop1 P (muOf mu o.dst) (h0.next + i) o.op (opnd fr) h k

def vplan (P : Program) (mu : Tmp → Bool) (h0 : Heap) (ops : Array Oper) : List Way → (Frm → Heap → Prop) → Frm → Heap → Prop
  | [], K, fr, h => K fr h
  | w :: rest, K, fr, h => onO ops[w.1]? fun o => vway P mu h0 w.2.1 ops o fr h fun d h' => (w.2.2 = true → HLe h0 h') ∧ vplan P mu h0 ops rest K (putF fr o.dst d) h'

def waysOk (bk : Nat → Bool) : Bool → List (Nat × Fl) → List Way → Bool
  | _, [], [] => true
  | fl, x :: xs, w :: ws => Nat.beq x.1 w.1 && (match x.2 with
    | .no => match w.2.1 with
      | .no => true
      | _ => false
    | .st => match w.2.1 with
      | .st => true
      | _ => false
    | .qu => match w.2.1 with
      | .qu => true
      | _ => false
    | .al i => match w.2.1 with
      | .al j => Nat.beq i j
      | _ => false) && (w.2.2 || !(fl && !bk x.1)) && waysOk bk (fl && !bk x.1) xs ws
  | _, _, _ => false

section
variable {P : Program} {g : Cfg} {n : Nat} {ro : Option Nat} {Q : Exit → Frm → Heap → Prop} {fr : Frm} {h : Heap} {mu : Tmp → Bool} {h0 : Heap}

theorem stab_load {t : TypeId} {a : Operand} {ev : Operand → D} {d : D} (hv : vload P t (ev a) h0 = some d) : Stab P h0 (.load t a) ev d := by
  intro h' hle
  simp only [vop1, callOf, vop, vload_le hle hv, Option.map_some]
  exact ⟨trivial, trivial⟩

theorem vway_ux {st : Fl} {ops : Array Oper} {o : Oper} {k : D → Heap → Prop} (hv : vway P mu h0 st ops o fr h k) : ux P mu h0 st ops o fr h k := by
  unfold vway at hv
  unfold ux
  split at hv
  · rename_i hg; rw [hg]; exact hv
  · rename_i hg
    rw [hg]
    cases st with
    | st =>
      simp only at hv ⊢
      unfold stLoad at hv
      split at hv
      · rename_i t a ho
        rw [ho]
        unfold onS at hv
        split at hv
        · rename_i d hd
          exact ⟨d, stab_load hd, hv⟩
        · exact hv.elim
      · exact hv
    | _ => exact hv

theorem vplan_draw {bk : Nat → Bool} {ops : Array Oper} {K : Frm → Heap → Prop} : ∀ {l : List (Nat × Fl)} {ws : List Way} {fl : Bool} {fr : Frm} {h : Heap}, waysOk bk fl l ws = true → vplan P mu h0 ops ws K fr h → vdraw P mu h0 bk ops fl l K fr h
  | [], [], _, fr, h, _, hv => hv
  | [], _ :: _, _, _, _, hw, _ => by simp [waysOk] at hw
  | _ :: _, [], _, _, _, hw, _ => by simp [waysOk] at hw
  | (i, st) :: l, (j, st', b) :: ws, fl, fr, h, hw, hv => by
    simp only [waysOk, Bool.and_eq_true] at hw
    obtain ⟨⟨⟨w1, w2⟩, w3⟩, w4⟩ := hw
    have e1 : i = j := Nat.eq_of_beq_eq_true w1
    have e2 : st = st' := by
      cases st <;> cases st' <;> simp only at w2 <;> (first | rfl | (cases w2; done) | skip)
      rw [Nat.eq_of_beq_eq_true w2]
    subst e1
    subst e2
    simp only [vplan] at hv
    simp only [vdraw]
    unfold onO at hv
    split at hv
    · rename_i o ho
      rw [ho]
      refine ux_mono (fun d h' hx => ⟨fun hb => hx.1 ?_, vplan_draw w4 hx.2⟩) (vway_ux hv)
      cases b with
      | true => rfl
      | false => rw [hb] at w3; simp at w3
    · exact hv.elim

/-- A region that draws its order, by a plan. -/
theorem vwp_plan (h0 : Heap) (ws : List Way) {id : Nat} {l : List Oper} (hw : waysOk (bkOf P g.mu l.toArray (g.dr id) (masks l 0 [])) ((g.dr id).any (·.2.isSt)) (g.dr id) ws = true) (hal : Nat.beq (alN (g.dr id)) 0 = true) (hle : HLe h0 h)
    (hv : vplan P g.mu h0 l.toArray ws (Q .normal) fr h) : vwp P g n ro (.region id l.toArray true) Q fr h := by
  rw [vwp_draw]
  refine ⟨h0, hle, ?_⟩
  rw [vdrawS_no (Nat.eq_of_beq_eq_true hal)]
  exact vplan_draw hw hv

/-- .. with names that are set aside. -/
theorem vwp_planA (m : Nat) (o0 : Nat → Option Obj) (ws : List Way) {id : Nat} {l : List Oper} (hw : waysOk (bkOf P g.mu l.toArray (g.dr id) (masks l 0 [])) ((g.dr id).any (·.2.isSt)) (g.dr id) ws = true) (hal : Nat.beq (alN (g.dr id)) (m + 1) = true) (hle : ∀ i ob, o0 i = some ob → h.at' i = some ob)
    (hv : vplan P g.mu ⟨h.next, o0⟩ l.toArray ws (Q .normal) fr (h.bump (m + 1))) : vwp P g n ro (.region id l.toArray true) Q fr h := by
  rw [vwp_draw]
  refine ⟨⟨h.next, o0⟩, hle, ?_⟩
  rw [vdrawS_al (Nat.eq_of_beq_eq_true hal)]
  exact ⟨rfl, vplan_draw hw hv⟩

/-- A region that draws its order, and all of whose operations are taken as they are, in the order of the text. -/
def textOrder : Nat → List (Nat × Fl) → List Oper → Bool
  | _, [], [] => true
  | k, x :: xs, _ :: os => Nat.beq x.1 k && x.2.isNo && textOrder (k + 1) xs os
  | _, _, _ => false

theorem vdraw_text {bk : Nat → Bool} {ops : Array Oper} {K : Frm → Heap → Prop} {h0 : Heap} : ∀ {l : List (Nat × Fl)} {os pre : List Oper} {fr : Frm} {h : Heap}, ops.toList = pre ++ os → textOrder pre.length l os = true → vops P mu ops os K fr h → vdraw P mu h0 bk ops false l K fr h
  | [], [], _, fr, h, _, _, hv => hv
  | [], _ :: _, _, _, _, _, hw, _ => by simp [textOrder] at hw
  | _ :: _, [], _, _, _, _, hw, _ => by simp [textOrder] at hw
  | (i, st) :: l, o :: os, pre, fr, h, hp, hw, hv => by
    simp only [textOrder, Bool.and_eq_true] at hw
    obtain ⟨⟨w1, w2⟩, w3⟩ := hw
    have e1 : i = pre.length := Nat.eq_of_beq_eq_true w1
    subst e1
    have ho : ops[pre.length]? = some o := by rw [← Array.getElem?_toList, hp]; simp
    have hst : st = .no := by cases st <;> simp [Fl.isNo] at w2 <;> rfl
    subst hst
    simp only [vdraw, ho, Bool.false_and]
    simp only [vops] at hv
    have ih : ∀ fr h, vops P mu ops os K fr h → vdraw P mu h0 bk ops false l K fr h := fun fr h hv => vdraw_text (pre := pre ++ [o]) (by simp [hp]) (by simpa using w3) hv
    unfold ux
    split at hv
    · rename_i hg
      rw [hg]
      exact vop1_mono (fun d h' hx => ⟨fun e => (by cases e), ih _ _ hx⟩) hv
    · rename_i hg
      rw [hg]
      exact ⟨fun e => (by cases e), ih _ _ hv⟩

theorem textOrder_no : ∀ {l : List (Nat × Fl)} {os : List Oper} {k : Nat}, textOrder k l os = true → l.any (·.2.isSt) = false ∧ alN l = 0
  | [], [], _, _ => ⟨rfl, rfl⟩
  | [], _ :: _, _, hw => by simp [textOrder] at hw
  | _ :: _, [], _, hw => by simp [textOrder] at hw
  | (i, st) :: l, o :: os, k, hw => by
    simp only [textOrder, Bool.and_eq_true] at hw
    obtain ⟨h1, h2⟩ := textOrder_no hw.2
    have hst : st = .no := by have := hw.1.2; cases st <;> simp [Fl.isNo] at this <;> rfl
    subst hst
    exact ⟨by rw [List.any_cons, h1]; rfl, by simp only [alN, h2]⟩

theorem vwp_text {id : Nat} {l : List Oper} (ht : textOrder 0 (g.dr id) l = true) (hv : vops P g.mu l.toArray l (Q .normal) fr h) : vwp P g n ro (.region id l.toArray true) Q fr h := by
  obtain ⟨h1, h2⟩ := textOrder_no ht
  rw [vwp_draw]
  refine ⟨⟨0, fun _ => none⟩, fun i ob e => (by cases e), ?_⟩
  rw [vdrawS_no h2, h1]
  exact vdraw_text (pre := []) rfl ht hv
end

section
variable {P : Program} {mu : Tmp → Bool} {h0 : Heap} {ops : Array Oper} {l : List Oper} {K : Frm → Heap → Prop} {k : D → Heap → Prop} {fr : Frm} {h : Heap} {dst : Option Tmp} {ty : TypeId} {pos : String} {after : Array Edge} {rest : List Way}

@[congr] theorem onO_congr {o o' : Option Oper} {k : Oper → Prop} (h : o = o') : onO o k = onO o' k := by rw [h]
@[go_sem ↓] theorem vplan_nil : vplan P mu h0 ops [] K fr h = K fr h := (rfl)
@[go_sem ↓] theorem vplan_cons (w : Way) : vplan P mu h0 l.toArray (w :: rest) K fr h = onO l[w.1]? fun o => vway P mu h0 w.2.1 l.toArray o fr h fun d h' => (w.2.2 = true → HLe h0 h') ∧ vplan P mu h0 l.toArray rest K (putF fr o.dst d) h' := by
  simp only [vplan, List.getElem?_toArray]
@[go_sem ↓] theorem onO_some (o : Oper) (k : Oper → Prop) : onO (some o) k = k o := (rfl)
@[go_sem ↓] theorem vway_no (op : Op) : vway P mu h0 .no ops ⟨dst, op, ty, pos, after, none⟩ fr h k = vop1 P (muOf mu dst) h.next op (opnd fr) h k := (rfl)
@[go_sem ↓] theorem vway_al (i : Nat) (op : Op) : vway P mu h0 (.al i) ops ⟨dst, op, ty, pos, after, none⟩ fr h k = vop1 P (muOf mu dst) (h0.next + i) op (opnd fr) h k := (rfl)
@[go_sem ↓] theorem vway_st (op : Op) : vway P mu h0 .st ops ⟨dst, op, ty, pos, after, none⟩ fr h k = stLoad P h0 op (opnd fr) fun d => k d h := (rfl)
@[go_sem ↓] theorem stLoad_load (t : TypeId) (a : Operand) (k : D → Prop) : stLoad P h0 (.load t a) (opnd fr) k = onS (vload P t (opnd fr a) h0) k := (rfl)
@[go_sem ↓] theorem vway_guard (st : Fl) (op : Op) (j : Nat) (b : Bool) : vway P mu h0 st ops ⟨dst, op, ty, pos, after, some (j, b)⟩ fr h k =
    gif (guardOk ops fr (some (j, b))) (vway P mu h0 st ops ⟨dst, op, ty, pos, after, none⟩ fr h k) (k undefD h) := by
  unfold vway gif
  cases guardOk ops fr (some (j, b)) <;> rfl
end

/-! Comparing with nil. -/
def isNil : D → Bool
  | .nilsl => true
  | _ => false

section
variable {P : Program} {t e : TypeId} {c : Bool} {sz : Nat} {xs : List (List D)} {d : D}

theorem vbin_sl_nil (hd : IsSl sz xs d) (hu : P.underlying t = some (.slice e)) : vbin P .eql t c d .nilsl = some (.bool (isNil d)) := by
  rcases hd with ⟨rfl, rfl⟩ | ⟨tk, rfl⟩ <;> simp [vbin, vcmp, pickEq, veq, hu, isNil]
theorem vbin_rs_nil {id off len : Nat} (hu : P.underlying t = some (.slice e)) : vbin P .eql t c (.rs id sz off len) .nilsl = some (.bool false) := by
  simp [vbin, vcmp, pickEq, veq, hu]

/-- An empty slice is built. -/
theorem vbuildSlice_zero {nid : Nat} {z : D} {h : Heap} (he : elemT P t = some e) (hz : zeroT P e = some z) (hs : szT P e = sz) (hzt : z.notTuple = true) (hzl : z.cells.length = sz) (h0 : 0 < sz) : vbuildSlice P false nid t 0 [] h = some (.sl sz [] .full, h) := by
  simp only [vbuildSlice, he, hz, hs]
  rw [if_pos (by simp [hzt, hzl, h0])]
  simp [vfill, chunks]
end

theorem isNil_spec {sz : Nat} {xs : List (List D)} {d : D} (hd : IsSl sz xs d) : (isNil d = true ∧ d = .nilsl ∧ xs = []) ∨ (isNil d = false ∧ ∃ tk, d = .sl sz xs tk) := by
  rcases hd with ⟨rfl, rfl⟩ | ⟨tk, rfl⟩
  · exact .inl ⟨rfl, rfl, rfl⟩
  · exact .inr ⟨rfl, tk, rfl⟩

/-! Cells without names, frozen and stripped. -/
mutual
theorem frz_closed (id : Nat) (cs : List D) : ∀ d : D, below 0 d → frz id cs d = d
  | .bool _, _ => rfl
  | .int _ _, _ => rfl
  | .str _, _ => rfl
  | .nilptr, _ => rfl
  | .ptr _ _, h => absurd h (Nat.not_lt_zero _)
  | .iptr es off, h => by simp only [frz, frzL_closed id cs es h]
  | .nilsl, _ => rfl
  | .sl sz xs tk, h => by
    simp only [below] at h
    cases tk with
    | own t => exact absurd h.2 (Nat.not_lt_zero _)
    | _ => simp only [frz, frzE_closed id cs xs h.1]
  | .rs _ _ _ _, h => absurd h (Nat.not_lt_zero _)
  | .nilmap, _ => rfl
  | .map _, h => absurd h (Nat.not_lt_zero _)
  | .fn f a c, h => by simp only [frz, frzL_closed id cs a h.1, frzL_closed id cs c h.2]
  | .yld _, h => absurd h (Nat.not_lt_zero _)
  | .nilfn, _ => rfl
  | .agg es, h => by simp only [frz, frzL_closed id cs es h]
  | .tuple es, h => by simp only [frz, frzL_closed id cs es h]
  | .iface t d, h => by simp only [frz, frz_closed id cs d h]
  | .niliface, _ => rfl
theorem frzL_closed (id : Nat) (cs : List D) : ∀ ds : List D, belowL 0 ds → frzL id cs ds = ds
  | [], _ => rfl
  | d :: ds, h => by simp only [frzL, frz_closed id cs d h.1, frzL_closed id cs ds h.2]
theorem frzE_closed (id : Nat) (cs : List D) : ∀ xs : List (List D), belowE 0 xs → frzE id cs xs = xs
  | [], _ => rfl
  | x :: xs, h => by simp only [frzE, frzL_closed id cs x h.1, frzE_closed id cs xs h.2]
end

theorem frz_rs {id sz len : Nat} {cs : List D} {xs : List (List D)} (hx : ∀ x ∈ xs, x.length = sz) (hl : xs.length = len) (hc : cs = xs.flatten) : frz id cs (.rs id sz 0 len) = .sl sz xs .no := by
  subst hc hl
  simp only [frz]
  rw [if_pos ⟨trivial, by rw [flat_len hx]; omega⟩, List.drop_zero, List.take_of_length_le (by rw [flat_len hx]; omega), chunks_flat hx]

/-! What is known of a heap. -/
def Heap.Ok (h : Heap) : Prop := ∀ i, h.next ≤ i → h.at' i = none

theorem VCall.known {P : Program} {f : FuncId} {args : List D} {h : Heap} {Q : D → Heap → Prop} (he : entersT P f = true) (hv : belowL h.next args → h.Ok → VCall P f args h Q) : VCall P f args h Q := by
  refine ⟨he, fun w0 G M ρ w va hg0 hs hfr hr => (hv (relL_below hfr _ _ hr) fun i hi => ?_).2 w0 G M ρ w va hg0 hs hfr hr⟩
  cases hz : h.at' i with
  | none => rfl
  | some ob =>
    obtain ⟨l, hl, _⟩ := hs.live i ob hz
    rw [hfr i hi] at hl; cases hl

theorem Ext.hle {h h' : Heap} (hok : h.Ok) (he : Ext h h') : HLe h h' := fun i ob e => by
  by_cases hi : i < h.next
  · rw [he.2 i hi]; exact e
  · rw [hok i (by omega)] at e; cases e

/-- What is new is forgotten. -/
theorem VCall.pure {P : Program} {f : FuncId} {args : List D} {h : Heap} {Q : D → Prop} (he : entersT P f = true) (hv : h.Ok → VCall P f args h fun d h' => Ext h h' ∧ below h.next d ∧ Q d) : VCall P f args h fun d h' => h' = h ∧ Q d :=
  VCall.known he fun _ hok => VCall.gc (fun _ => (hv hok).mono fun _ _ hx => ⟨hx.1.hle hok, hx.2.1, hx.2.2⟩) he

theorem strip_plainE {sz : Nat} {xs : List (List D)} (hx : ∀ x ∈ xs, PlainC x) (tk : Tk) : strip (.sl sz xs tk) = .sl sz xs .no ∧ below 0 (.sl sz xs .no) := by
  have h2 : stripE xs = xs := stripE_of fun x h => (hx x h).2.2
  simp only [strip, h2, below, and_true, true_and]
  exact belowE_of fun x h => (hx x h).2.1

/-! Shapes of values of known types. -/
section
variable {P : Program} {k : Nat} {t e : TypeId} {c : List D}
theorem shp_int {q : IntKind} (hu : P.underlying t = some (.int q)) (h : Shp P k t c) : ∃ n, c = [.int q n] ∧ fits q n := by
  cases k with
  | zero => simp only [Shp] at h
  | succ k => simpa only [Shp, hu] using h
theorem shp_bool (hu : P.underlying t = some .bool) (h : Shp P k t c) : ∃ b, c = [.bool b] := by
  cases k with
  | zero => simp only [Shp] at h
  | succ k => simpa only [Shp, hu] using h
theorem shp_str (hu : P.underlying t = some .string) (h : Shp P k t c) : ∃ s, c = [.str s] ∧ s.length ≤ 1048576 := by
  cases k with
  | zero => simp only [Shp] at h
  | succ k => simpa only [Shp, hu] using h
theorem shp_sl {sz : Nat} (hu : P.underlying t = some (.slice e)) (hs : szT P e = sz) (h : Shp P k t c) : ∃ d xs j, c = [d] ∧ j < k ∧ IsSl sz xs d ∧ (d = .nilsl ∨ d = .sl sz xs .no) ∧ xs.length ≤ 1048576 ∧ ∀ x ∈ xs, Shp P j e x := by
  cases k with
  | zero => simp only [Shp] at h
  | succ k =>
    simp only [Shp, hu] at h
    rcases h with rfl | ⟨xs, rfl, h1, h2⟩
    · exact ⟨_, [], k, rfl, Nat.lt_succ_self _, IsSl.nil, .inl rfl, by simp, by simp⟩
    · have : P.cellsOf e = sz := hs
      rw [this]
      exact ⟨_, xs, k, rfl, Nat.lt_succ_self _, IsSl.mk _, .inr rfl, h1, h2⟩
theorem shp_struct {fs : Array Field} (hu : P.underlying t = some (.struct fs)) (h : Shp P k t c) : ∃ j, j < k ∧ ShpF P (Shp P j) fs.toList c := by
  cases k with
  | zero => simp only [Shp] at h
  | succ k => exact ⟨k, Nat.lt_succ_self _, by simpa only [Shp, hu] using h⟩
theorem shpF_cons {r : TypeId → List D → Prop} {f : Field} {fs : List Field} {cs : List D} (h : ShpF P r (f :: fs) cs) : ∃ c cs', cs = c ++ cs' ∧ r f.type c ∧ ShpF P r fs cs' := h
theorem shpF_nil {r : TypeId → List D → Prop} {cs : List D} (h : ShpF P r [] cs) : cs = [] := h
end

/-! Rules of evaluation: fields and cells. -/
def faO (P : Program) (k : Nat → D) : Option (Nat × TypeId) → Option D
  | some (off, ft) => if szT P ft = 0 then none else some (k off)
  | none => none
section
variable {P : Program}
@[go_sem] theorem vfieldAddr_ptr (s : TypeId) (id o f : Nat) : vfieldAddr P s (.ptr id o) f = faO P (fun off => .ptr id (o + off)) (fieldT P s f) := by
  unfold vfieldAddr faO
  cases fieldT P s f <;> rfl
@[go_sem] theorem vfieldAddr_iptr (s : TypeId) (cs : List D) (o f : Nat) : vfieldAddr P s (.iptr cs o) f = faO P (fun off => .iptr cs (o + off)) (fieldT P s f) := by
  unfold vfieldAddr faO
  cases fieldT P s f <;> rfl
@[go_sem] theorem faO_some (k : Nat → D) (off : Nat) (ft : TypeId) : faO P k (some (off, ft)) = if szT P ft = 0 then none else some (k off) := (rfl)

/-- One cell is stored. -/
theorem vstore_cell {t : TypeId} {id off : Nat} {cs : List D} {x : D} {h : Heap} (hi : h.at' id = some (.row cs)) (hs : szT P t = 1) (ho : off < cs.length) (hc : x.cells = [x]) (hf : x.flat = true) : vstore P t (.ptr id off) x h = some (h.set id (.row (cs.set off x))) := by
  have hp : putAt cs [x] off = cs.set off x := by
    simp only [putAt, List.length_singleton]
    rw [List.set_eq_take_append_cons_drop, if_pos ho]
    simp
  simp only [vstore, hi, hs, hc, hp]
  rw [if_pos]
  simp [hf]
  omega

/-- Some cells are loaded, or stored. -/
theorem vload_cells {t : TypeId} {id off m : Nat} {pre mid post : List D} {h : Heap} (hi : h.at' id = some (.row (pre ++ mid ++ post))) (hp : pre.length = off) (hm : mid.length = m) (ha : agT P t = some true) (hs : szT P t = m) (h0 : 0 < m) : vload P t (.ptr id off) h = some (.agg mid) := by
  subst hp hm
  simp only [vload, ha, hi, vpart, hs]
  rw [if_pos trivial, if_neg (by omega), if_pos (by simp)]
  simp
theorem vstore_cells {t : TypeId} {id off m : Nat} {pre mid mid' post : List D} {h : Heap} (hi : h.at' id = some (.row (pre ++ mid ++ post))) (hp : pre.length = off) (hm : mid.length = m) (hm' : mid'.length = m) (hs : szT P t = m) (h0 : 0 < m) (hf : mid'.all D.flat = true) :
    vstore P t (.ptr id off) (.agg mid') h = some (h.set id (.row (pre ++ mid' ++ post))) := by
  subst hp hm
  have hpt : putAt (pre ++ mid ++ post) mid' pre.length = pre ++ mid' ++ post := by
    simp only [putAt, hm']
    simp
  simp only [vstore, hi, D.cells, hs, hpt, hm']
  rw [if_pos]
  simp only [Bool.and_eq_true, decide_eq_true_eq, ne_eq, hf, and_true]
  exact ⟨by omega, by simp⟩
end
@[go_sem] theorem cells_nilsl : D.nilsl.cells = [.nilsl] := (rfl)
@[go_sem] theorem cells_sl (sz : Nat) (xs : List (List D)) (tk : Tk) : (D.sl sz xs tk).cells = [.sl sz xs tk] := (rfl)
@[go_sem] theorem cells_rs (i sz o n : Nat) : (D.rs i sz o n).cells = [.rs i sz o n] := (rfl)
@[go_sem] theorem flat_rs (i sz o n : Nat) : (D.rs i sz o n).flat = true := (rfl)
@[go_sem] theorem hle_refl (h : Heap) : HLe h h = True := eq_true fun _ _ e => e
attribute [go_sem] true_and and_true true_implies implies_true false_implies

theorem vindexAddr_slI {P : Program} {sz : Nat} {xs : List (List D)} {d : D} {t e : TypeId} (hd : IsSl sz xs d) (he : elemT P t = some e) (hz : szT P e = sz) {k : IntKind} {n : Int} (h0 : 0 ≤ n) {x : List D} (hx : xs[n.toNat]? = some x) : vindexAddr P t d (.int k n) = some (.iptr x 0) := by
  obtain ⟨m, rfl⟩ := Int.eq_ofNat_of_zero_le h0
  exact vindexAddr_sl hd he hz (by simpa using hx)

theorem set_same {h : Heap} {i : Nat} {o : Obj} (hi : h.at' i = some o) : h.set i o = h := by
  cases h with
  | mk n a =>
    simp only [Heap.set, Heap.mk.injEq, true_and]
    funext j
    by_cases hj : j = i
    · subst hj; rw [if_pos rfl]; exact hi.symm
    · rw [if_neg hj]

theorem new_set (h : Heap) (i : Nat) (o o' : Obj) : (h.new i o).set i o' = h.new i o' := by
  simp only [Heap.set, Heap.new, Heap.mk.injEq, true_and]
  funext j
  by_cases hj : j = i <;> simp [hj]

/-- What is there is stored again. -/
theorem vstore_same {P : Program} {t : TypeId} {id off n : Nat} {cs : List D} {x : D} {h : Heap} (hi : h.at' id = some (.row cs)) (hs : szT P t = n) (hx : vpart true n cs off = some x) (hf : cs.all D.flat = true) : vstore P t (.ptr id off) x h = some h := by
  simp only [vpart, if_true] at hx
  split at hx
  · cases hx
  · rename_i hn
    split at hx
    · rename_i hle
      cases hx
      have hl : ((cs.drop off).take n).length = n := by rw [List.length_take, List.length_drop]; omega
      have hp : putAt cs ((cs.drop off).take n) off = cs := by
        simp only [putAt, hl]
        rw [List.append_assoc, ← List.drop_drop, List.take_append_drop, List.take_append_drop]
      have hff : ((cs.drop off).take n).all D.flat = true := List.all_eq_true.2 fun d hd => List.all_eq_true.1 hf d (List.mem_of_mem_drop (List.mem_of_mem_take hd))
      simp only [vstore, hi, D.cells, hs, hl, hp]
      rw [if_pos (by simp [hn, hle, hff]), set_same hi]
    · cases hx
theorem vstore_same1 {P : Program} {t : TypeId} {id off : Nat} {cs : List D} {x : D} {h : Heap} (hi : h.at' id = some (.row cs)) (hs : szT P t = 1) (hx : cs[off]? = some x) (hc : x.cells = [x]) (hf : cs.all D.flat = true) : vstore P t (.ptr id off) x h = some h := by
  have hlt := (List.getElem?_eq_some_iff.1 hx).1
  rw [vstore_cell hi hs hlt hc (List.all_eq_true.1 hf x (List.mem_of_getElem? hx))]
  have : cs.set off x = cs := by
    obtain ⟨_, rfl⟩ := List.getElem?_eq_some_iff.1 hx
    exact List.set_getElem_self hlt
  rw [this, set_same hi]
/-- A new object is filled. -/
theorem vstore_new {P : Program} {t : TypeId} {n id : Nat} {cs cs' : List D} {h : Heap} (hs : szT P t = n) (hn : 0 < n) (hl : cs.length = n) (hl' : cs'.length = n) (hf : cs'.all D.flat = true) : vstore P t (.ptr id 0) (.agg cs') (h.new id (.row cs)) = some (h.new id (.row cs')) := by
  subst hl'
  rw [vstore_whole (new_at _ _ _) hs hl hn hf, new_set]

/-! Loops over a function that append to a variable. -/
/-- The token of a slice. -/
def tokOf : D → Nat → Prop
  | .sl _ _ (.own t), i => i = t
  | _, _ => False

theorem OwnSl.app2 {P : Program} {h : Heap} {sz : Nat} {xs ys : List (List D)} {d : D} {tk : Tk} {t e : TypeId} {K : D → Heap → Prop} (ho : OwnSl h sz xs d) (he : elemT P t = some e) (hz : zokT P e = true) (hs : szT P e = sz) (h0 : 0 < sz) (hys : ∀ y ∈ ys, y.length = sz) (hy0 : ys ≠ [])
    (hb : (xs.length + ys.length) * bytesT P e ≤ lim) (hl : xs.length + ys.length ≤ lim) (hK : ∀ d' h', OwnSl h' sz (xs ++ ys) d' → h.next ≤ h'.next → (∀ i, i < h.next → ¬ tokOf d i → h'.at' i = h.at' i) → (∀ i, tokOf d' i → h.next ≤ i) → d'.cells = [d'] → d'.flat = true → K d' h') : onR (vappend P false h.next t d (.sl sz ys tk) h) K := by
  have hlen : 0 < ys.length := List.length_pos_iff.2 hy0
  simp only [vappend, he, hz, hs, vels, if_true, flat_len hys, Nat.mul_div_cancel _ h0]
  rcases ho with ⟨rfl, rfl⟩ | ⟨q, rfl, h1, h2⟩
  · simp only [vappendE]
    rw [if_neg (by omega), if_pos (by simp only [Bool.and_eq_true, decide_eq_true_eq]; simp only [List.length_nil, Nat.zero_add] at hb hl; exact ⟨hb, hl⟩)]
    simp only [Bool.false_eq_true, if_false, chunks_flat hys, onR_some]
    refine hK _ _ (.inr ⟨h.next, by simp, new_at _ _ _, Nat.lt_of_lt_of_le (Nat.lt_succ_self _) (Nat.le_max_right _ _)⟩) (next_new _ _ _) (fun i hi _ => new_keep (by omega)) (fun i hi => ?_) rfl rfl
    simp only [tokOf] at hi; omega
  · simp only [vappendE]
    rw [if_pos (by simp only [Bool.and_eq_true, decide_eq_true_eq]; exact ⟨⟨trivial, hb⟩, hl⟩)]
    simp only [h1, Bool.false_eq_true, if_false, chunks_flat hys, onR_some]
    refine hK _ _ (.inr ⟨h.next, rfl, new_at _ _ _, Nat.lt_of_lt_of_le (Nat.lt_succ_self _) (Nat.le_max_right _ _)⟩) (next_new (h.del q) _ _) (fun i hi hne => ?_) (fun i hi => ?_) rfl rfl
    · simp only [tokOf] at hne
      rw [new_keep (by omega), del_keep hne]
    · simp only [tokOf] at hi; omega

/-- The variable at n0 holds the first k elements of ps; the loop's record lies behind it. -/
def YApp (n0 sz : Nat) (L : LRec) (ps : List (List D)) (k : Nat) (S : Nat → Prop) (h : Heap) : Prop :=
  n0 + 1 < h.next ∧ h.at' (n0 + 1) = some (.loop L) ∧ ∃ d, h.at' n0 = some (.row [d]) ∧ OwnSl h sz (ps.take k) d ∧ ∀ i, S i ↔ (i = n0 ∨ i = n0 + 1 ∨ tokOf d i)

theorem OwnSl.tok {h : Heap} {sz : Nat} {xs : List (List D)} {d : D} (ho : OwnSl h sz xs d) {i : Nat} (hi : tokOf d i) : i < h.next ∧ h.at' i = some .tok := by
  rcases ho with ⟨rfl, _⟩ | ⟨t, rfl, h1, h2⟩
  · exact hi.elim
  · simp only [tokOf] at hi; subst hi; exact ⟨h2, h1⟩

theorem OwnSl.loc {h h' : Heap} {sz : Nat} {xs : List (List D)} {d : D} (ho : OwnSl h sz xs d) (hn : h.next ≤ h'.next) (hk : ∀ i, tokOf d i → h'.at' i = h.at' i) : OwnSl h' sz xs d := by
  rcases ho with h1 | ⟨t, rfl, h1, h2⟩
  · exact .inl h1
  · exact .inr ⟨t, rfl, by rw [hk t rfl]; exact h1, by omega⟩

theorem YApp.here {n0 sz : Nat} {L : LRec} {ps : List (List D)} {k : Nat} {S : Nat → Prop} {h : Heap} (y : YApp n0 sz L ps k S h) (i : Nat) (hi : S i) : i < h.next := by
  obtain ⟨h1, _, d, _, h3, h4⟩ := y
  rcases (h4 i).1 hi with rfl | rfl | ht
  · omega
  · omega
  · exact (h3.tok ht).1

theorem YApp.loc {n0 sz : Nat} {L : LRec} {ps : List (List D)} {k : Nat} {S : Nat → Prop} {h h' : Heap} (y : YApp n0 sz L ps k S h) (hn : h.next ≤ h'.next) (hk : ∀ i, S i → h'.at' i = h.at' i) : YApp n0 sz L ps k S h' := by
  obtain ⟨h1, h2, d, h3, h4, h5⟩ := y
  exact ⟨by omega, by rw [hk _ ((h5 _).2 (.inr (.inl rfl)))]; exact h2, d, by rw [hk _ ((h5 _).2 (.inl rfl))]; exact h3, h4.loc hn fun i hi => hk i ((h5 i).2 (.inr (.inr hi))), h5⟩

theorem Ext.of_but {S : Nat → Prop} {h h1 h2 : Heap} (a : Ext h h1) (b : But S h1 h2) (hs : ∀ i, S i → h.next ≤ i) : Ext h h2 :=
  ⟨Nat.le_trans a.1 b.1, fun i hi => by rw [b.2 i (by have := a.1; omega) fun e => by have := hs i e; omega, a.2 i hi]⟩

/-- A slice that is handed on. -/
def Fin (sz : Nat) (xs : List (List D)) (d : D) : Prop := (d = .nilsl ∧ xs = []) ∨ d = .sl sz xs .no

theorem Fin.isSl {sz : Nat} {xs : List (List D)} {d : D} (hf : Fin sz xs d) : IsSl sz xs d := by
  rcases hf with ⟨rfl, rfl⟩ | rfl
  · exact IsSl.nil
  · exact IsSl.mk _

theorem OwnSl.fin {h : Heap} {sz : Nat} {xs : List (List D)} {d : D} (ho : OwnSl h sz xs d) (hx : ∀ x ∈ xs, PlainC x) : below 0 (strip d) ∧ Fin sz xs (strip d) := by
  rcases ho with ⟨rfl, rfl⟩ | ⟨t, rfl, _⟩
  · exact ⟨trivial, .inl ⟨rfl, rfl⟩⟩
  · rw [(strip_plainE hx _).1]
    exact ⟨(strip_plainE hx .no).2, .inr rfl⟩

@[go_sem ↓] theorem lapp_cons (a : Oper) (l m : List Oper) : List.append (a :: l) m = a :: List.append l m := (rfl)
@[go_sem ↓] theorem lapp_nil (m : List Oper) : List.append [] m = m := (rfl)
/-! Guards. -/
@[go_sem ↓] theorem nth_zero (a : Oper) (l : List Oper) : (a :: l)[0]? = some a := (rfl)
@[go_sem ↓] theorem nth_succ (a : Oper) (l : List Oper) (n : Nat) : (a :: l)[n + 1]? = l[n]? := (rfl)
def gdB : D → Bool → Bool
  | .bool x, b => x == b
  | _, _ => false
def gdOp : Option Oper → Frm → Bool → Bool
  | some o, fr, b => match o.dst with
    | some t => gdB (fr t) b
    | none => false
  | none, _, _ => false
@[go_sem ↓] theorem guardOk_arr (l : List Oper) (fr : Frm) (j : Nat) (b : Bool) : guardOk l.toArray fr (some (j, b)) = gdOp l[j]? fr b := by
  unfold guardOk gdOp
  simp only [List.getElem?_toArray]
  cases l[j]? with
  | none => rfl
  | some o =>
    simp only [Option.bind_some]
    cases o.dst with
    | none => rfl
    | some t =>
      simp only
      cases fr t <;> rfl
@[congr] theorem gdOp_congr {o o' : Option Oper} {fr : Frm} {b : Bool} (h : o = o') : gdOp o fr b = gdOp o' fr b := by rw [h]
@[go_sem ↓] theorem gdOp_some (t : Tmp) (op : Op) (ty : TypeId) (pos : String) (after : Array Edge) (gd : Option (Nat × Bool)) (fr : Frm) (b : Bool) : gdOp (some ⟨some t, op, ty, pos, after, gd⟩) fr b = gdB (fr t) b := (rfl)
@[go_sem ↓] theorem gdB_bool (x b : Bool) : gdB (.bool x) b = (x == b) := (rfl)
@[go_sem ↓] theorem gdB_undef (b : Bool) : gdB undefD b = false := (rfl)
@[go_sem] theorem beq_tt : (true == true) = true := (rfl)
@[go_sem] theorem beq_tf : (true == false) = false := (rfl)
@[go_sem] theorem beq_ft : (false == true) = false := (rfl)
@[go_sem] theorem beq_ff : (false == false) = true := (rfl)

/-- A cut: R holds behind c. -/
theorem vwp_cut {P : Program} {g : Cfg} {n : Nat} {ro : Option Nat} {c : Code} {K : Frm → Heap → Prop} {Q : Exit → Frm → Heap → Prop} {fr : Frm} {h : Heap} (R : Frm → Heap → Prop) (h1 : vwp P g n ro c (thenQ R fun _ _ _ => False) fr h) (h2 : ∀ fr h, R fr h → K fr h) : vwp P g n ro c (thenQ K Q) fr h :=
  vwp_mono c (fun e fr h hx => by
    cases e with
    | normal => exact h2 fr h hx
    | _ => exact hx.elim) fr h h1
end Go.V
namespace Go.V

/-! From what a row says of a listed table to what calls may know of it. -/
theorem laidVars_at {P : Program} {W : World} : ∀ {laid : List (String × DataW Unit)} {ps : List MemPlace} {i : Nat} {x : String × DataW Unit}, DataW.LaidVars P W laid ps → laid[i]? = some x →
    ∃ g t cs fuel p, P.globalNamed x.1 = some g ∧ (P.globals[g]?).map (·.type) = some t ∧ W.var? P x.1 = some cs ∧ DataW.trod (fun _ => ()) P W 0 (fun _ => true) false fuel t cs.toList = some (x.2, p)
  | [], _, i, _, _, hi => by simp at hi
  | (n, d) :: r, ps, i, x, h, hi => by
    obtain ⟨g, t, cs, fuel, p, q, h1, h2, h3, h4, h5, _⟩ := h
    cases i with
    | zero =>
      simp only [List.getElem?_cons_zero, Option.some.injEq] at hi
      subst hi
      exact ⟨g, t, cs, fuel, p, h1, h2, h3, h4⟩
    | succ i => exact laidVars_at h5 (by simpa using hi)

theorem tab_of_laid {P : Program} {W : World} {laid : List (String × DataW Unit)} (h : laidMetH P laid W) (hn : (laid.filter fun x => x.2.handleName?.isSome) = []) {i : Nat} {name : String} {k : IntKind} {zs : List Int} (hi : laid[i]? = some (name, Lib.tabData k zs))
    {g t e n : Nat} (hg : P.globalNamed name = some g) (hty : (P.globals[g]?).map (·.type) = some t) (ht : P.underlying t = some (.array n e)) (he : P.underlying e = some (.int k)) (hce : P.cellsOf e = 1) (hct : P.cellsOf t = n) : Lib.TabIs P W name k zs := by
  unfold laidMetH at h
  rw [hn] at h
  obtain ⟨ps, hv, _⟩ := h
  obtain ⟨g', t', cs, fuel, p, hg', ht', hvar, hd⟩ := laidVars_at hv hi
  obtain rfl := Option.some.inj (hg.symm.trans hg')
  obtain rfl := Option.some.inj (hty.symm.trans ht')
  unfold Lib.TabIs
  simp only at hvar hd
  rw [hvar, ← Lib.cells_of_tab ht he hce hct hd]
end Go.V
