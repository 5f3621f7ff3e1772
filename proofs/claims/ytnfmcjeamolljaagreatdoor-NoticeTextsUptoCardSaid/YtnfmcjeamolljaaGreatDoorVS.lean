/- The world in which the row is read, and what the law's contract says of it. Condition: as the row has it. -/
import Derived.Test.YtnfmcjeamolljaaGreatDoorVhD
import Derived.Test.YtnfmcjeamolljaaGreatDoorCards
import Derived.Test.YtnfmcjeamolljaaGreatDoorTie
import Derived.WalkKit
import Derived.ProofKit
import Derived.OpenShut
import Derived.Deep.DeepHandedRow
set_option linter.unusedSimpArgs false
set_option linter.unusedVariables false
set_option linter.constructorNameAsVariable false
set_option linter.deprecated false
namespace Go.Proofs.YtnfmcjeamolljaaGreatDoor.VJ
open Go.ChangeShapes Go.WideShapes Go.ChangeAt Go.RowKit Go.V

theorem own : ownKnob Tryz.prog.godebug = none := by kernel_rfl
theorem laidOut : laidOutB Tryz.prog = true := by kernel_rfl

mutual
def cellsOfD : DataW Unit → List Value
  | .lit l => match l with
    | .int k n => [.int k n]
    | _ => []
  | .agg ps => cellsOfDs ps
  | _ => []
def cellsOfDs : List (DataW Unit) → List Value
  | [] => []
  | d :: ds => cellsOfD d ++ cellsOfDs ds
end

abbrev syntaxS : ByteArray := { data := #[105, 110, 118, 97, 108, 105, 100, 32, 115, 121, 110, 116, 97, 120] }
abbrev rangeS : ByteArray := { data := #[118, 97, 108, 117, 101, 32, 111, 117, 116, 32, 111, 102, 32, 114, 97, 110, 103, 101] }

noncomputable def low : Nat := (World.holding Tryz.prog default ⟨#[], #[], []⟩).heap.size

def putC (cs : List Value) : Go.Obj → Go.Obj
  | .cells _ t frozen => .cells cs.toArray t frozen
  | o => o

/-- A world in which the listed variables lie as the program's text lays them. -/
noncomputable def laidWorld (os : Os) : World :=
  let w0 := World.holding Tryz.prog os ⟨#[.cells #[.string syntaxS] 338, .cells #[.string rangeS] 338], #[], []⟩
  { w0 with heap := ((((((w0.heap.modify 4 (putC (cellsOfD Rows.laid_math_bits_deBruijn32tab))).modify 5 (putC (cellsOfD Rows.laid_math_bits_deBruijn64tab))).modify 0 (putC (cellsOfD Rows.laid_internal_strconv_uint64pow10))).modify 3 (putC (cellsOfD Rows.laid_unicode_utf8_acceptRanges))).modify
    6 (putC [.iface 336 (.pointer (some ⟨low, 0, none⟩))])).modify 7 (putC [.iface 336 (.pointer (some ⟨low + 1, 0, none⟩))])).modify 2 (putC (cellsOfD Rows.laid_unicode_utf8_first)) }

theorem length_le_bulk {H : Type} : ∀ ds : List (DataW H), ds.length ≤ Rows.uptoBulkAll ds
  | [] => Nat.zero_le _
  | d :: ds => by
    have := length_le_bulk ds
    have h1 : 1 ≤ Rows.uptoBulk d := by
      cases d with
      | lit l => cases l <;> simp [Rows.uptoBulk]
      | _ => simp [Rows.uptoBulk]
    simp only [Rows.uptoBulkAll, List.length_cons]
    omega

mutual
theorem upto_smallB {H : Type} : ∀ d : DataW H, Rows.uptoBulk d ≤ 1048576 → smallB d = true
  | .lit l, h => by
    cases l with
    | string s =>
      simp only [Rows.uptoBulk] at h
      simp only [smallB, decide_eq_true_eq]
      omega
    | _ => rfl
  | .nil, _ => rfl
  | .ptr _, _ => rfl
  | .slice elems spare, h => by
    simp only [Rows.uptoBulk] at h
    have := length_le_bulk elems
    simp only [smallB, Bool.and_eq_true, decide_eq_true_eq]
    exact ⟨by omega, upto_smallBAll elems (by omega)⟩
  | .agg parts, h => by
    simp only [Rows.uptoBulk] at h
    simp only [smallB]
    exact upto_smallBAll parts (by omega)
  | .iface _ _, _ => rfl
  | .map _, _ => rfl
  | .held _, _ => rfl
theorem upto_smallBAll {H : Type} : ∀ ds : List (DataW H), Rows.uptoBulkAll ds ≤ 1048576 → smallBAll ds = true
  | [], _ => rfl
  | d :: ds, h => by
    simp only [Rows.uptoBulkAll] at h
    simp only [smallBAll, Bool.and_eq_true]
    exact ⟨upto_smallB d (by omega), upto_smallBAll ds (by omega)⟩
end

theorem trodAll_length {H : Type} {enc : TypeId × Value → H} {W : World} {base : Nat} {held : Bool} : ∀ {ts : List TypeId} {vs : List Value} {ds : List (DataW H)} {ps : List MemPlace}, DataW.TrodAll enc Tryz.prog W base (fun _ => true) held ts vs ds ps → ds.length = ts.length
  | [], [], [], _, _ => rfl
  | _ :: _, _ :: _, _ :: _, _, ⟨_, _, _, h, _⟩ => by rw [List.length_cons, List.length_cons, trodAll_length h]
  | [], [], _ :: _, _, h => h.elim
  | [], _ :: _, _, _, h => by simp [DataW.TrodAll] at h
  | _ :: _, [], _, _, h => by simp [DataW.TrodAll] at h
  | _ :: _, _ :: _, [], _, h => by simp [DataW.TrodAll] at h

theorem laid_met (os : Os) (args : Array Value) : laidMet Tryz.prog Rows.noticeTextsUptoRow.laid ((laidWorld os).forCall (fun _ _ => 0) ⟨#[], args, []⟩).memory :=
  laidMet_of_run' 8 (by kernel_rfl) (by kernel_rfl)
end Go.Proofs.YtnfmcjeamolljaaGreatDoor.VJ
namespace Go.Proofs.YtnfmcjeamolljaaGreatDoor.VJ
open Go.ChangeShapes Go.WideShapes Go.ChangeAt Go.RowKit Go.V

noncomputable def zeros : Array Value := Tryz.f3.params.map fun t => ((Tryz.prog.info? t).bind (·.zero)).getD undef
def S : List TypeId := [24, 22, 9]
theorem plain : plainS Tryz.prog S = true := by kernel_rfl
theorem argsT : Tryz.f3.params.toList.all (fun t => argT Tryz.prog S t && Tryz.prog.readableRec t && decide (t < Tryz.prog.types.size)) = true := by kernel_rfl
theorem argT1 : ∀ t ∈ Tryz.f3.params.toList, argT Tryz.prog S t = true := fun t ht => by
  have := List.all_eq_true.1 argsT t ht
  simp only [Bool.and_eq_true, decide_eq_true_eq] at this
  exact this.1.1
theorem argT2 : ∀ t ∈ Tryz.f3.params.toList, Tryz.prog.readableRec t = true ∧ t < Tryz.prog.types.size := fun t ht => by
  have := List.all_eq_true.1 argsT t ht
  simp only [Bool.and_eq_true, decide_eq_true_eq] at this
  exact ⟨this.1.2, this.2⟩
theorem res : Tryz.f3.resultTypes = #[4] := by kernel_rfl

/-- What is to be shown of the law's function. -/
def Goal : Prop := ∀ das : List D, ShpAll Tryz.prog Tryz.f3.params.toList das → VCall Tryz.prog 3 das Heap.emp fun d _ => d = .bool true

theorem fn_eq {H : Type} {ds : List (DataW H)} {W : World} {enc : TypeId × Value → H} {vs : List Value} {ps : List MemPlace} (h : DataW.TrodAll enc Tryz.prog W 0 (fun _ => true) true Tryz.f3.params.toList vs ds ps) :
    Rows.noticeTextsSpec.fn H ds = { results := [.lit (.bool true)], args := ds } := by
  have hl := trodAll_length h
  rw [Tryz.params3] at hl
  match ds, hl with
  | [_, _], _ => rfl

set_option maxRecDepth 100000 in
theorem contract (goal : Goal) (H : Type) (enc : TypeId × Value → H) (W : World) (base : Nat) (args : Array Value) (ds gs : List (DataW H)) (before : List MemPlace)
    (hval : ∀ (j : Nat) t v, Tryz.f3.params[j]? = some t → args[j]? = some v → Value.okWide Tryz.prog W .any base t v)
    (hW : DataW.Whole enc Tryz.prog Tryz.f3.params.toList Rows.noticeTextsSpec.vars false W args.toList ds gs before) (hc : Rows.uptoSmall H (ds ++ gs) = true) (hlaid : laidMetH Tryz.prog Rows.noticeTextsUptoRow.laid W) :
    Calls Tryz.prog 3 args W fun e W' => ∃ v, e = .returned v ∧ Rows.noticeTextsSpec.post enc Tryz.prog Tryz.f3 false true false false W args v W' := by
  obtain ⟨p, q, h1, h2, _⟩ := id hW
  obtain ⟨rfl, rfl⟩ := trodVars_none h2
  have hs : smallBAll ds = true := by
    rw [List.append_nil] at hc
    exact upto_smallBAll ds (by simpa [Rows.uptoSmall] using hc)
  obtain ⟨das, hda, hsh⟩ := args_shp plain argT1 h1 hs
  exact law_contract laidOut argT2 rfl (fn_eq h1) res Tryz.underlying4 hval hW hda (fun g hg => tab_of_laid hlaid (by kernel_rfl) (i := 2) (by kernel_rfl) (show Tryz.prog.globalNamed tabName = some 0 by kernel_rfl) (t := 261) (e := 222) (n := 20) (by kernel_rfl) (by kernel_rfl) (by kernel_rfl) (by kernel_rfl) (by kernel_rfl)) (goal das hsh)

set_option maxRecDepth 100000 in
theorem reads (os : Os) {H : Type} (enc : TypeId × Value → H) : ∃ places, DataW.whole enc Tryz.prog ((laidWorld os).forCall (fun _ _ => 0) ⟨#[], zeros, []⟩).memory Tryz.f3.params.toList Rows.noticeTextsSpec.vars false zeros.toList 8 = some ([.agg [.nil, .nil, .nil, .nil], .agg [.nil, .nil, .nil, .nil]], [], places) :=
  ⟨[], by kernel_rfl⟩

set_option maxRecDepth 100000 in
theorem lifted (goal : Goal) (os : Os) (started : os.Started) (H : Type) (enc : TypeId × Value → H) (F : Stop.Interp) :
    ReturnsInHanded {} Tryz.checked os 3 .any ((Rows.OpenSpec.upto Rows.noticeTextsSpec).preRow enc Tryz.prog Tryz.f3 Rows.noticeTextsUptoRow.domain false Rows.noticeTextsUptoRow.laid) (((Rows.OpenSpec.upto Rows.noticeTextsSpec).at F).post enc Tryz.prog Tryz.f3 false true false false) := by
  obtain ⟨places, hx⟩ := reads os enc
  refine returnsInHanded_of_row (C := Tryz.checked) (s := Rows.OpenSpec.upto Rows.noticeTextsSpec) own started (by kernel_rfl) Tryz.func3
    (witness_row_at (enc := enc) (C := Tryz.checked) false (laidWorld os) zeros rfl (by kernel_rfl) (by kernel_rfl) (by kernel_rfl)
      (OpenSpec.preRow_of_cond 8 hx (by kernel_rfl) (fun k hk => by cases hk; kernel_rfl) (by kernel_rfl) (laid_met os zeros))) ?_
  intro W base args ds gs before hval hW _ hc _ hlaid _ _
  exact contract goal H enc W base args ds gs before hval hW (hc _ rfl) hlaid

end Go.Proofs.YtnfmcjeamolljaaGreatDoor.VJ
