/- Contracts of builders of strings, and what the text of a notice is. No condition. -/
import Derived.Test.YtnfmcjeamolljaaGreatDoorVra
import Derived.Test.YtnfmcjeamolljaaGreatDoorVSh
import Derived.Test.YtnfmcjeamolljaaGreatDoorVhF
import Derived.Test.YtnfmcjeamolljaaGreatDoorVSk
import Derived.Test.YtnfmcjeamolljaaGreatDoorVrc
import Derived.Test.YtnfmcjeamolljaaGreatDoorVnb
import Derived.Lib.ItoaLen
set_option linter.unusedSimpArgs false
set_option linter.unusedVariables false
set_option linter.constructorNameAsVariable false
set_option linter.deprecated false
namespace Go.V
open Go.Proofs
set_option maxRecDepth 100000
set_option linter.unusedSimpArgs false
set_option linter.unusedVariables false

/-! Builders of strings. -/
def byD (b : UInt8) : D := .int .u8 (b.toNat : Int)
/-- The bytes that a builder holds. -/
def Buf (h0 h : Heap) (id : Nat) (d : D) (bs : List UInt8) : Prop := (d = .nilsl ∧ bs = []) ∨ (bs ≠ [] ∧ ∃ b, d = .rs b 1 0 bs.length ∧ h.at' b = some (.trow 5 false (bs.map byD)) ∧ h0.next ≤ b ∧ b < h.next ∧ b ≠ id)
/-- A builder. -/
def Bld (h0 h : Heap) (id : Nat) (bs : List UInt8) : Prop := h0.next ≤ id ∧ id < h.next ∧ Ext h0 h ∧ ∃ a d, h.at' id = some (.trow 76 true [a, d]) ∧ (a = .nilptr ∨ a = .ptr id 0) ∧ Buf h0 h id d bs

theorem bytesOf_map (s : List UInt8) : bytesOf (s.map byD) = some s := by
  induction s with
  | nil => rfl
  | cons b s ih =>
    have hb := UInt8.toNat_lt b
    simp only [List.map_cons, byD, bytesOf] at ih ⊢
    simp [ih, byD]
theorem put_trow {h : Heap} {id : Nat} {t : TypeId} {cs : List D} {off : Nat} {x : D} {ty : TypeId} (hi : h.at' id = some (.trow t true cs)) (hs : szT Tryz.prog ty = 1) (ho : off < cs.length) (hc : x.cells = [x]) (hf : x.flat = true) : vstore Tryz.prog ty (.ptr id off) x h = some (h.set id (.trow t true (cs.set off x))) := by
  simp only [vstore, hi, hs, hc]
  have : putAt cs [x] off = cs.set off x := by
    simp [putAt, List.set_eq_take_append_cons_drop, ho]
  simp [hf, ho, this]
  omega

set_option maxHeartbeats 1000000 in
theorem c_ws {h0 h : Heap} {id : Nat} {bs s : List UInt8} (hB : Bld h0 h id bs) (hl : bs.length + s.length ≤ 1073741824) :
    VCall Tryz.prog 28 [.ptr id 0, .str s] h fun _ h' => Bld h0 h' id (bs ++ s) := by
  obtain ⟨hid, hlt, hE, a, d, hrow, ha, hbuf⟩ := hB
  have hcp := copyCheck_ok Tryz.lays240 Tryz.Builder_X72_240 (by kernel_rfl) hrow ha
  refine VCall.of_fn (g := cfg28) mix Tryz.func28 ok28 rfl rfl ?_
  simp only [Tryz.f28, Option.getD_some]
  repeat' first
    | (simp only [go_sem, Nat.reduceEqDiff, Int.reduceBEq, Int.reduceLT, Int.reduceLE, Int.reduceGT, Int.reduceGE, ↓reduceIte, Nat.reduceAdd, Nat.zero_add, Nat.reduceBEq, List.getElem?_cons_zero, List.getElem?_cons_succ, List.contains_cons, List.contains_nil, vpart_false, vextract, decide_true, decide_false, bne, Bool.or_false, Bool.or_true, Bool.false_or, Bool.true_or, Bool.or_self, Bool.false_and, Bool.true_and, Bool.and_false, Bool.and_true, Bool.and_self, Bool.not_true, Bool.not_false, Bool.not_not, vfieldAddr, D.notTuple, D.cells, mu28, *])
    | (refine onBH_caseN (fun hc => ?_) (fun hc => ?_))
    | (refine onBH_case (fun hc => ?_) (fun hc => ?_))
    | (refine gifH_caseNT (fun hc => ?_) (fun hc => ?_))
    | (refine gifH_caseNF (fun hc => ?_) (fun hc => ?_))
    | (refine gifH_caseT (fun hc => ?_) (fun hc => ?_))
    | (refine gifH_caseF (fun hc => ?_) (fun hc => ?_))
  refine hcp.mono ?_
  rintro r _ ⟨rfl, rfl⟩
  obtain ⟨H, hH, n1, e1, r1, b1⟩ : ∃ H, h.set id (.trow 76 true [.ptr id 0, d]) = H ∧ id < H.next ∧ Ext h0 H ∧ H.at' id = some (.trow 76 true [.ptr id 0, d]) ∧ Buf h0 H id d bs := by
    refine ⟨_, rfl, hlt, hE.set hid _, set_at_same _ _ _, ?_⟩
    rcases hbuf with hb | ⟨h1, b, h2, h3, h4, h5, h6⟩
    · exact .inl hb
    · exact .inr ⟨h1, b, h2, by rw [set_keep h6]; exact h3, h4, h5, h6⟩
  have hH2 : h.set id (.trow (Tryz.lays240_ren.t 72) true [.ptr id 0, d]) = H := hH
  rw [hH2]
  clear hcp hrow ha hbuf hE hH hH2 hlt
  have fin : ∀ {d' : D} {H2 : Heap}, d'.cells = [d'] → d'.flat = true → id < H2.next → Ext h0 H2 → H2.at' id = some (.trow 76 true [.ptr id 0, d]) → Buf h0 H2 id d' (bs ++ s) → ∃ H3, vstore Tryz.prog 74 (.ptr id 1) d' H2 = some H3 ∧ Bld h0 H3 id (bs ++ s) := fun {d' H2} hc hf hn he hr hb => by
    refine ⟨_, put_trow hr szT_74 (by simp) hc hf, hid, hn, he.set hid _, .ptr id 0, d', ?_, .inr rfl, ?_⟩
    · rw [set_at_same]; rfl
    · rcases hb with hb | ⟨h1, b, h2, h3, h4, h5, h6⟩
      · exact .inl hb
      · exact .inr ⟨h1, b, h2, by rw [set_keep h6]; exact h3, h4, h5, h6⟩
  have hsd : s.map (fun b => D.int .u8 (b.toNat : Int)) = s.map byD := rfl
  rcases b1 with ⟨rfl, rfl⟩ | ⟨h1, b, rfl, h3, h4, h5, h6⟩
  · by_cases hs0 : s = []
    · subst hs0
      obtain ⟨H3, hst, hB3⟩ := fin (d' := .nilsl) (H2 := H) rfl rfl n1 e1 r1 (.inl ⟨rfl, rfl⟩)
      have hap : ∀ nid, vappend Tryz.prog true nid 74 .nilsl (.str []) H = some (.nilsl, H) := fun nid => by
        simp [vappend, elemT_74, zokT_5, szT_5, vels, vappendE]
      clear fin
      repeat' first
        | (simp only [go_sem, Nat.reduceEqDiff, Int.reduceBEq, Int.reduceLT, Int.reduceLE, Int.reduceGT, Int.reduceGE, ↓reduceIte, Nat.reduceAdd, Nat.zero_add, Nat.reduceBEq, List.getElem?_cons_zero, List.getElem?_cons_succ, List.contains_cons, List.contains_nil, vpart_false, vextract, decide_true, decide_false, bne, Bool.or_false, Bool.or_true, Bool.false_or, Bool.true_or, Bool.or_self, Bool.false_and, Bool.true_and, Bool.and_false, Bool.and_true, Bool.and_self, Bool.not_true, Bool.not_false, Bool.not_not, vfieldAddr, D.notTuple, D.cells, mu28, vnilCheck, hap, hst, *])
        | (refine onBH_caseN (fun hc => ?_) (fun hc => ?_))
        | (refine onBH_case (fun hc => ?_) (fun hc => ?_))
        | (refine gifH_caseNT (fun hc => ?_) (fun hc => ?_))
        | (refine gifH_caseNF (fun hc => ?_) (fun hc => ?_))
        | (refine gifH_caseT (fun hc => ?_) (fun hc => ?_))
        | (refine gifH_caseF (fun hc => ?_) (fun hc => ?_))
      exact hB3
    · obtain ⟨H3, hst, hB3⟩ := fin (d' := .rs H.next 1 0 s.length) (H2 := H.new H.next (.trow 5 false (s.map byD))) rfl rfl (by rw [next_new_eq]; omega) (e1.new (by have := e1.1; omega) _) (by rw [new_keep (by omega)]; exact r1)
        (.inr ⟨by simpa using hs0, H.next, by simp, by rw [new_at]; simp, e1.1, by rw [next_new_eq]; omega, by omega⟩)
      have hsl : s.length ≠ 0 := fun e => hs0 (List.length_eq_zero_iff.1 e)
      have hap : vappend Tryz.prog true H.next 74 .nilsl (.str s) H = some (.rs H.next 1 0 s.length, H.new H.next (.trow 5 false (s.map byD))) := by
        simp only [vappend, elemT_74, zokT_5, szT_5, if_true, vels, hsd, vappendE, List.length_map, Nat.div_one, bytesT_5]
        rw [if_neg hsl, if_pos (by simp only [Bool.and_eq_true, decide_eq_true_eq]; unfold lim; simp only [List.length_nil, Nat.zero_add] at hl; omega)]
        rw [rowObj_u8 Tryz.underlying5]
      clear fin hs0 hsl
      repeat' first
        | (simp only [go_sem, Nat.reduceEqDiff, Int.reduceBEq, Int.reduceLT, Int.reduceLE, Int.reduceGT, Int.reduceGE, ↓reduceIte, Nat.reduceAdd, Nat.zero_add, Nat.reduceBEq, List.getElem?_cons_zero, List.getElem?_cons_succ, List.contains_cons, List.contains_nil, vpart_false, vextract, decide_true, decide_false, bne, Bool.or_false, Bool.or_true, Bool.false_or, Bool.true_or, Bool.or_self, Bool.false_and, Bool.true_and, Bool.and_false, Bool.and_true, Bool.and_self, Bool.not_true, Bool.not_false, Bool.not_not, vfieldAddr, D.notTuple, D.cells, mu28, vnilCheck, hap, hst, *])
        | (refine onBH_caseN (fun hc => ?_) (fun hc => ?_))
        | (refine onBH_case (fun hc => ?_) (fun hc => ?_))
        | (refine gifH_caseNT (fun hc => ?_) (fun hc => ?_))
        | (refine gifH_caseNF (fun hc => ?_) (fun hc => ?_))
        | (refine gifH_caseT (fun hc => ?_) (fun hc => ?_))
        | (refine gifH_caseF (fun hc => ?_) (fun hc => ?_))
      exact hB3
  · have hne : bs ++ s ≠ [] := by simp [h1]
    obtain ⟨H3, hst, hB3⟩ := fin (d' := .rs H.next 1 0 (bs.length + s.length)) (H2 := (H.del b).new H.next (.trow 5 false ((bs ++ s).map byD))) rfl rfl (by have : ((H.del b).new H.next (.trow 5 false ((bs ++ s).map byD))).next = H.next + 1 := next_new_eq (H.del b) _; omega) ((e1.del h4).new (by have := e1.1; omega) _) (by rw [new_keep (by omega), del_keep (by omega)]; exact r1)
      (.inr ⟨hne, H.next, by rw [List.length_append], new_at _ _ _, e1.1, by have : ((H.del b).new H.next (.trow 5 false ((bs ++ s).map byD))).next = H.next + 1 := next_new_eq (H.del b) _; omega, by omega⟩)
    have hap : vappend Tryz.prog true H.next 74 (.rs b 1 0 bs.length) (.str s) H = some (.rs H.next 1 0 (bs.length + s.length), (H.del b).new H.next (.trow 5 false ((bs ++ s).map byD))) := by
      simp only [vappend, elemT_74, zokT_5, szT_5, if_true, vels, hsd, vappendE, List.length_map, Nat.div_one, bytesT_5, h3]
      rw [if_pos (by simp; unfold lim; omega)]
      simp
    clear fin
    repeat' first
      | (simp only [go_sem, Nat.reduceEqDiff, Int.reduceBEq, Int.reduceLT, Int.reduceLE, Int.reduceGT, Int.reduceGE, ↓reduceIte, Nat.reduceAdd, Nat.zero_add, Nat.reduceBEq, List.getElem?_cons_zero, List.getElem?_cons_succ, List.contains_cons, List.contains_nil, vpart_false, vextract, decide_true, decide_false, bne, Bool.or_false, Bool.or_true, Bool.false_or, Bool.true_or, Bool.or_self, Bool.false_and, Bool.true_and, Bool.and_false, Bool.and_true, Bool.and_self, Bool.not_true, Bool.not_false, Bool.not_not, vfieldAddr, D.notTuple, D.cells, mu28, vnilCheck, truncRs, h3, hap, hst, *])
      | (refine onBH_caseN (fun hc => ?_) (fun hc => ?_))
      | (refine onBH_case (fun hc => ?_) (fun hc => ?_))
      | (refine gifH_caseNT (fun hc => ?_) (fun hc => ?_))
      | (refine gifH_caseNF (fun hc => ?_) (fun hc => ?_))
      | (refine gifH_caseT (fun hc => ?_) (fun hc => ?_))
      | (refine gifH_caseF (fun hc => ?_) (fun hc => ?_))

section
variable {P : Program} {m : Bool} {nid : Nat} {fr : Frm} {h : Heap} {k : D → Heap → Prop}
def slData (x : D) : Option D := match x with
  | .rs id _ off n => match n, off with
    | 0, _ => none
    | _, 0 => some (.ptr id 0)
    | _, _ => none
  | _ => none
@[go_sem ↓] theorem v_slData (t : TypeId) (x : Operand) : vop1 P m nid (.call ⟨.builtin .unsafeSliceData, #[x], #[t]⟩) (opnd fr) h k = onS (slData (opnd fr x)) (k · h) := by
  refine vop1_S rfl ?_
  simp only [vop, vbuiltin, slData, List.map_cons, List.map_nil]
  cases opnd fr x <;> try rfl
  rename_i a b c d
  cases d <;> cases c <;> rfl
@[go_sem ↓] theorem v_unsafeStr (t u : TypeId) (x y : Operand) : vop1 P m nid (.call ⟨.builtin .unsafeString, #[x, y], #[t, u]⟩) (opnd fr) h k = onR (vunsafeStr P t (opnd fr x) (opnd fr y) h) k := vop1_R rfl rfl
theorem slData_rs {b n : Nat} (h : n ≠ 0) : slData (.rs b 1 0 n) = some (.ptr b 0) := by
  cases n with
  | zero => exact absurd rfl h
  | succ n => rfl
end
theorem c_string {h0 h : Heap} {id : Nat} {bs : List UInt8} (hB : Bld h0 h id bs) (hl : bs.length ≤ 1073741824) :
    VCall Tryz.prog 30 [.ptr id 0] h fun r h' => Ext h0 h' ∧ r = .str bs := by
  obtain ⟨hid, hlt, hE, a, d, hrow, ha, hbuf⟩ := hB
  rcases hbuf with ⟨rfl, rfl⟩ | ⟨h1, b, rfl, h3, h4, h5, h6⟩
  · exact (stringNil_ok Tryz.lays169 Tryz.Builder_Extra_169 (by kernel_rfl) hrow).mono fun r h' q => ⟨by rw [q.1]; exact hE, q.2⟩
  · have hsl : bs.length ≠ 0 := fun e => h1 (List.length_eq_zero_iff.1 e)
    refine VCall.of_fn (g := cfg30) mix Tryz.func30 ok30 rfl rfl ?_
    simp only [Tryz.f30, Option.getD_some]
    repeat' first
      | (simp only [go_sem, Nat.reduceEqDiff, Int.reduceBEq, Int.reduceLT, Int.reduceLE, Int.reduceGT, Int.reduceGE, ↓reduceIte, Nat.reduceAdd, Nat.zero_add, Nat.reduceBEq, List.getElem?_cons_zero, List.getElem?_cons_succ, List.contains_cons, List.contains_nil, vpart_false, vextract, decide_true, decide_false, bne, Bool.or_false, Bool.or_true, Bool.false_or, Bool.true_or, Bool.or_self, Bool.false_and, Bool.true_and, Bool.and_false, Bool.and_true, Bool.and_self, Bool.not_true, Bool.not_false, Bool.not_not, vfieldAddr, D.notTuple, D.cells, mu30, *])
      | (refine onBH_caseN (fun hc => ?_) (fun hc => ?_))
      | (refine onBH_case (fun hc => ?_) (fun hc => ?_))
      | (refine gifH_caseNT (fun hc => ?_) (fun hc => ?_))
      | (refine gifH_caseNF (fun hc => ?_) (fun hc => ?_))
      | (refine gifH_caseT (fun hc => ?_) (fun hc => ?_))
      | (refine gifH_caseF (fun hc => ?_) (fun hc => ?_))
    refine vwp_text (by kernel_rfl) ?_
    have hus : vunsafeStr Tryz.prog 142 (.ptr b 0) (.int .i64 bs.length) h = some (.str bs, h.del b) := by
      simp only [vunsafeStr, Tryz.underlying142, Tryz.underlying5, vunsafeB, h3, szT_5, Int.toNat_natCast, List.length_map]
      rw [if_pos (by simp; unfold lim; omega), List.take_of_length_le (by simp), bytesOf_map]
    have hvl : vlen Tryz.prog 74 (.rs b 1 0 bs.length) h = some (.int .i64 bs.length) := by
      simp only [vlen, Tryz.underlying74]
    repeat' first
      | (simp only [go_sem, Nat.reduceEqDiff, Int.reduceBEq, Int.reduceLT, Int.reduceLE, Int.reduceGT, Int.reduceGE, ↓reduceIte, Nat.reduceAdd, Nat.zero_add, Nat.reduceBEq, List.getElem?_cons_zero, List.getElem?_cons_succ, List.contains_cons, List.contains_nil, vpart_false, vextract, decide_true, decide_false, bne, Bool.or_false, Bool.or_true, Bool.false_or, Bool.true_or, Bool.or_self, Bool.false_and, Bool.true_and, Bool.and_false, Bool.and_true, Bool.and_self, Bool.not_true, Bool.not_false, Bool.not_not, vfieldAddr, D.notTuple, D.cells, mu30, vnilCheck, slData_rs hsl, hus, *])
      | (refine onBH_caseN (fun hc => ?_) (fun hc => ?_))
      | (refine onBH_case (fun hc => ?_) (fun hc => ?_))
      | (refine gifH_caseNT (fun hc => ?_) (fun hc => ?_))
      | (refine gifH_caseNF (fun hc => ?_) (fun hc => ?_))
      | (refine gifH_caseT (fun hc => ?_) (fun hc => ?_))
      | (refine gifH_caseF (fun hc => ?_) (fun hc => ?_))
    exact hE.del h4
end Go.V
namespace Go.V
open Go.Proofs
set_option maxRecDepth 100000
set_option linter.unusedSimpArgs false
set_option linter.unusedVariables false

/-! What a notice's text says, in plain words. -/
def nl (L : List (List UInt8)) : List UInt8 := L.flatMap (· ++ [10])
def licH (p : List UInt8 × List UInt8) : List UInt8 := licW ++ p.1 ++ [32] ++ Lib.itoa ((linesS p.2).length : Int)
def licO (p : List UInt8 × List UInt8) : List (List UInt8) := licH p :: linesS p.2
def holdO (x : List UInt8) : List UInt8 := holdW ++ [32] ++ x
def chgO (x : List UInt8) : List UInt8 := chgW ++ [32] ++ x
def licsO (ps : List (List UInt8 × List UInt8)) : List (List UInt8) := ps.flatMap licO
/-- The lines of a notice's text. -/
def outL (n : Note) : List (List UInt8) := licsO (n.ls.zip n.ts) ++ n.hs.map holdO ++ n.cs.map chgO
def fmtS (n : Note) : List UInt8 × Int := if checkS n ≠ 0 then ([], checkS n) else (nl (outL n), 0)

theorem nl_app (a b : List (List UInt8)) : nl (a ++ b) = nl a ++ nl b := by simp [nl]
theorem nl_snoc (a : List (List UInt8)) (x : List UInt8) : nl (a ++ [x]) = nl a ++ (x ++ [10]) := by simp [nl]
theorem nl_le {a b : List (List UInt8)} (h : a <+: b) : (nl a).length ≤ (nl b).length := by
  obtain ⟨c, rfl⟩ := h
  rw [nl_app, List.length_append]; omega
theorem nl_room {a b : List (List UInt8)} {x : List UInt8} (h : a ++ [x] <+: b) : (nl a).length + (x ++ [10]).length ≤ (nl b).length := by
  have := nl_le h
  rw [nl_snoc, List.length_append] at this; exact this
theorem nl_join : ∀ {L : List (List UInt8)}, L ≠ [] → nl L = Lib.join L [10] ++ [10]
  | [], h => absurd rfl h
  | [x], _ => by simp [nl, Lib.join_one]
  | x :: y :: r, _ => by
    have ih := nl_join (L := y :: r) (by simp)
    rw [join_cons2]
    have : nl (x :: y :: r) = (x ++ [10]) ++ nl (y :: r) := rfl
    rw [this, ih]; simp
theorem nl_lines (t : List UInt8) : nl (linesS t) = if t = [] then [] else t ++ [10] := by
  unfold linesS
  split
  · rfl
  · rw [nl_join (splitB_ne 10 t), join_split]
theorem nl_flat {α : Type} {f : α → List (List UInt8)} {B : Nat} : ∀ {l : List α}, (∀ x ∈ l, (nl (f x)).length ≤ B) → (nl (l.flatMap f)).length ≤ l.length * B
  | [], _ => by simp [nl]
  | x :: l, h => by
    have ih := nl_flat (f := f) (l := l) fun y hy => h y (List.mem_cons_of_mem _ hy)
    have h1 := h x List.mem_cons_self
    rw [List.flatMap_cons, nl_app, List.length_append, List.length_cons, Nat.succ_mul]
    omega
theorem nl_map {f : List UInt8 → List UInt8} {B : Nat} {l : List (List UInt8)} (h : ∀ x ∈ l, (f x).length ≤ B) : (nl (l.map f)).length ≤ l.length * (B + 1) := by
  have : l.map f = l.flatMap fun x => [f x] := by induction l with
    | nil => rfl
    | cons a l ih => simp [ih fun x hx => h x (List.mem_cons_of_mem _ hx)]
  rw [this]
  refine nl_flat fun x hx => ?_
  have := h x hx
  simp [nl]; omega

theorem incrS_e {e : Nat → Int} {l : List (List UInt8)} (h : incrS e l = 0) : ∀ i, i < l.length → e i = 0 := fun i hi => by
  have := firstE_zero.1 h i hi
  unfold incrAt at this
  split at this
  · exact this
  · rename_i q; exact Decidable.not_not.1 q
theorem check_all {n : Note} (h : checkS n = 0) : incrS (licAt n) n.ls = 0 ∧ incrS (holdAt n) n.hs = 0 ∧ incrS (changeAt n) n.cs = 0 := by
  unfold checkS at h
  split at h
  · cases h
  split at h
  · cases h
  split at h
  · rename_i q; exact absurd h q
  split at h
  · rename_i q; exact absurd h q
  · rename_i q r; exact ⟨Decidable.not_not.1 q, Decidable.not_not.1 r, h⟩
theorem check_lic {n : Note} (h : checkS n = 0) : ∀ p ∈ n.ls.zip n.ts, isNameS p.1 = true ∧ checkTextS p.2 = 0 := fun p hp => by
  obtain ⟨i, hi, rfl⟩ := List.mem_iff_getElem.1 hp
  rw [List.length_zip] at hi
  have := incrS_e (check_all h).1 i (by omega)
  unfold licAt at this
  rw [getD_at (by omega), getD_at (by omega)] at this
  rw [List.getElem_zip]
  split at this
  · rename_i q; exact ⟨q, this⟩
  · cases this
theorem check_hold {n : Note} (h : checkS n = 0) : ∀ x ∈ n.hs, isTextS x = true := fun x hx => by
  obtain ⟨i, hi, rfl⟩ := List.mem_iff_getElem.1 hx
  have := incrS_e (check_all h).2.1 i (by omega)
  unfold holdAt at this
  rw [getD_at (by omega)] at this
  split at this
  · rename_i q; exact q
  · cases this
theorem check_chg {n : Note} (h : checkS n = 0) : ∀ x ∈ n.cs, pathS x = 0 := fun x hx => by
  obtain ⟨i, hi, rfl⟩ := List.mem_iff_getElem.1 hx
  have := incrS_e (check_all h).2.2 i (by omega)
  unfold changeAt at this
  rwa [getD_at (by omega)] at this
theorem name_len {s : List UInt8} (h : isNameS s = true) : s.length ≤ 32 := by
  cases s with
  | nil => simp
  | cons b r =>
    simp only [isNameS, Bool.and_eq_true, Bool.not_eq_true', Bool.or_eq_false_iff, decide_eq_false_iff_not] at h
    omega
theorem text_len {s : List UInt8} (h : checkTextS s = 0) : s.length ≤ 4096 ∧ (linesS s).length ≤ 999 ∧ s.any textBad2 = false := by
  unfold checkTextS at h
  split at h
  · cases h
  split at h
  · cases h
  · rename_i q r
    exact ⟨by omega, by omega, by simpa using r⟩
theorem hold_len {s : List UInt8} (h : isTextS s = true) : s.length ≤ 200 := by
  simp only [isTextS, Bool.and_eq_true, Bool.not_eq_true', Bool.or_eq_false_iff, decide_eq_false_iff_not] at h
  omega
theorem path_len {s : List UInt8} (h : pathS s = 0) : s.length ≤ 128 := by
  unfold pathS at h
  split at h
  · cases h
  · omega
theorem itoa_nat_len {k : Nat} (h : k ≤ 1048576) : (Lib.itoa (k : Int)).length ≤ 21 := Lib.itoa_length_le _ (by omega) (by omega)
theorem licH_len {p : List UInt8 × List UInt8} (h1 : isNameS p.1 = true) (h2 : checkTextS p.2 = 0) : (licH p).length ≤ 62 := by
  have := name_len h1
  have := itoa_nat_len (k := (linesS p.2).length) (by have := (text_len h2).2.1; omega)
  simp only [licH, licW, List.length_append, List.length_cons, List.length_nil]
  omega
theorem out_len {n : Note} (h : checkS n = 0) : (nl (outL n)).length ≤ 16777216 := by
  have hc := check_ok h
  have h1 : (nl (licsO (n.ls.zip n.ts))).length ≤ (n.ls.zip n.ts).length * 5000 := nl_flat fun p hp => by
    obtain ⟨q1, q2⟩ := check_lic h p hp
    have a := licH_len q1 q2
    have b := (text_len q2).1
    have e : nl (licO p) = (licH p ++ [10]) ++ nl (linesS p.2) := rfl
    rw [e, nl_lines, List.length_append, List.length_append]
    split <;> simp only [List.length_append, List.length_cons, List.length_nil] <;> omega
  have h2 : (nl (n.hs.map holdO)).length ≤ n.hs.length * (300 + 1) := nl_map fun x hx => by
    have := hold_len (check_hold h x hx)
    simp only [holdO, holdW, List.length_append, List.length_cons, List.length_nil]; omega
  have h3 : (nl (n.cs.map chgO)).length ≤ n.cs.length * (300 + 1) := nl_map fun x hx => by
    have := path_len (check_chg h x hx)
    simp only [chgO, chgW, List.length_append, List.length_cons, List.length_nil]; omega
  rw [outL, nl_app, nl_app, List.length_append, List.length_append]
  rw [List.length_zip] at h1
  omega
end Go.V
