/- How the functions of this program are read by the evaluator. No condition. -/
import Derived.Test.YtnfmcjeamolljaaGreatDoorVhC
import Derived.KernelRfl
import Derived.Test.YtnfmcjeamolljaaGreatDoorProg
set_option linter.unusedSimpArgs false
set_option linter.unusedVariables false
set_option linter.constructorNameAsVariable false
set_option linter.deprecated false
namespace Go.V
open Go.Proofs
/-- licit/licitlaw44.NoticeTexts -/
noncomputable def cfg3 : Cfg := ⟨fun t => List.contains (α := Nat) [] t, fun i => (look (α := List (Nat × Fl)) [(9, [(0, .no), (2, .st), (1, .no), (3, .no), (4, .no), (5, .no), (6, .no), (7, .no), (8, .no), (9, .no), (10, .no), (11, .no), (12, .no), (13, .no), (14, .no), (15, .no), (16, .no), (17, .no), (18, .no), (19, .no), (20, .no), (21, .no), (22, .no), (23, .no), (24, .no), (25, .no)])] i).getD []⟩
theorem mu3 (t : Tmp) : cfg3.mu t = List.contains (α := Nat) [] t := (rfl)
theorem ok3 : okFn Tryz.prog cfg3 Tryz.f3 = true := by kernel_rfl
/-- licit/licitlaw44.awake -/
noncomputable def cfg7 : Cfg := ⟨fun t => List.contains (α := Nat) [] t, fun i => (look (α := List (Nat × Fl)) [] i).getD []⟩
theorem mu7 (t : Tmp) : cfg7.mu t = List.contains (α := Nat) [] t := (rfl)
theorem ok7 : okFn Tryz.prog cfg7 Tryz.f7 = true := by kernel_rfl
/-- licit/notice.Merge -/
noncomputable def cfg11 : Cfg := ⟨fun t => List.contains (α := Nat) [] t, fun i => (look (α := List (Nat × Fl)) [(20, [(0, .no), (1, .st), (2, .no), (3, .st), (4, .no), (7, .no), (8, .st), (9, .no), (10, .st), (11, .no), (14, .no), (15, .st), (16, .no), (17, .st), (18, .no), (5, .st), (6, .st), (12, .st), (13, .st), (19, .st), (20, .st), (21, .no), (22, .no), (23, .no)])] i).getD []⟩
theorem mu11 (t : Tmp) : cfg11.mu t = List.contains (α := Nat) [] t := (rfl)
theorem ok11 : okFn Tryz.prog cfg11 Tryz.f11 = true := by kernel_rfl
/-- licit/licitref44.Same -/
noncomputable def cfg15 : Cfg := ⟨fun t => List.contains (α := Nat) [] t, fun i => (look (α := List (Nat × Fl)) [] i).getD []⟩
theorem mu15 (t : Tmp) : cfg15.mu t = List.contains (α := Nat) [] t := (rfl)
theorem ok15 : okFn Tryz.prog cfg15 Tryz.f15 = true := by kernel_rfl
/-- slices.ContainsFunc[[]string,string] -/
noncomputable def cfg19 : Cfg := ⟨fun t => List.contains (α := Nat) [] t, fun i => (look (α := List (Nat × Fl)) [] i).getD []⟩
theorem mu19 (t : Tmp) : cfg19.mu t = List.contains (α := Nat) [] t := (rfl)
theorem ok19 : okFn Tryz.prog cfg19 Tryz.f19 = true := by kernel_rfl
/-- licit/duty.Nth -/
noncomputable def cfg23 : Cfg := ⟨fun t => List.contains (α := Nat) [] t, fun i => (look (α := List (Nat × Fl)) [] i).getD []⟩
theorem mu23 (t : Tmp) : cfg23.mu t = List.contains (α := Nat) [] t := (rfl)
theorem ok23 : okFn Tryz.prog cfg23 Tryz.f23 = true := by kernel_rfl
/-- licit/notice.lines -/
noncomputable def cfg27 : Cfg := ⟨fun t => List.contains (α := Nat) [] t, fun i => (look (α := List (Nat × Fl)) [] i).getD []⟩
theorem mu27 (t : Tmp) : cfg27.mu t = List.contains (α := Nat) [] t := (rfl)
theorem ok27 : okFn Tryz.prog cfg27 Tryz.f27 = true := by kernel_rfl
/-- licit/licitref44.Lines -/
noncomputable def cfg31 : Cfg := ⟨fun t => List.contains (α := Nat) [] t, fun i => (look (α := List (Nat × Fl)) [] i).getD []⟩
theorem mu31 (t : Tmp) : cfg31.mu t = List.contains (α := Nat) [] t := (rfl)
theorem ok31 : okFn Tryz.prog cfg31 Tryz.f31 = true := by kernel_rfl
/-- licit/licitref39.Index -/
noncomputable def cfg35 : Cfg := ⟨fun t => List.contains (α := Nat) [] t, fun i => (look (α := List (Nat × Fl)) [] i).getD []⟩
theorem mu35 (t : Tmp) : cfg35.mu t = List.contains (α := Nat) [] t := (rfl)
theorem ok35 : okFn Tryz.prog cfg35 Tryz.f35 = true := by kernel_rfl
/-- licit/notice.isName -/
noncomputable def cfg39 : Cfg := ⟨fun t => List.contains (α := Nat) [] t, fun i => (look (α := List (Nat × Fl)) [] i).getD []⟩
theorem mu39 (t : Tmp) : cfg39.mu t = List.contains (α := Nat) [] t := (rfl)
theorem ok39 : okFn Tryz.prog cfg39 Tryz.f39 = true := by kernel_rfl
/-- licit/notice.Check$3 -/
noncomputable def cfg43 : Cfg := ⟨fun t => List.contains (α := Nat) [] t, fun i => (look (α := List (Nat × Fl)) [] i).getD []⟩
theorem mu43 (t : Tmp) : cfg43.mu t = List.contains (α := Nat) [] t := (rfl)
theorem ok43 : okFn Tryz.prog cfg43 Tryz.f43 = true := by kernel_rfl
/-- licit/licitref36.Text -/
noncomputable def cfg47 : Cfg := ⟨fun t => List.contains (α := Nat) [] t, fun i => (look (α := List (Nat × Fl)) [] i).getD []⟩
theorem mu47 (t : Tmp) : cfg47.mu t = List.contains (α := Nat) [] t := (rfl)
theorem ok47 : okFn Tryz.prog cfg47 Tryz.f47 = true := by kernel_rfl
/-- (*licit/notice.reader).line -/
noncomputable def cfg51 : Cfg := ⟨fun t => List.contains (α := Nat) [] t, fun i => (look (α := List (Nat × Fl)) [] i).getD []⟩
theorem mu51 (t : Tmp) : cfg51.mu t = List.contains (α := Nat) [] t := (rfl)
theorem ok51 : okFn Tryz.prog cfg51 Tryz.f51 = true := by kernel_rfl
/-- slices.IndexFunc[[]string,string] -/
noncomputable def cfg55 : Cfg := ⟨fun t => List.contains (α := Nat) [] t, fun i => (look (α := List (Nat × Fl)) [] i).getD []⟩
theorem mu55 (t : Tmp) : cfg55.mu t = List.contains (α := Nat) [] t := (rfl)
theorem ok55 : okFn Tryz.prog cfg55 Tryz.f55 = true := by kernel_rfl
/-- cmp.Compare[string] -/
noncomputable def cfg60 : Cfg := ⟨fun t => List.contains (α := Nat) [] t, fun i => (look (α := List (Nat × Fl)) [] i).getD []⟩
theorem mu60 (t : Tmp) : cfg60.mu t = List.contains (α := Nat) [] t := (rfl)
theorem ok60 : okFn Tryz.prog cfg60 Tryz.f60 = true := by kernel_rfl
/-- slices.SortStableFunc[[]licit/api.Apart,licit/api.Apart] -/
noncomputable def cfg65 : Cfg := ⟨fun t => List.contains (α := Nat) [] t, fun i => (look (α := List (Nat × Fl)) [] i).getD []⟩
theorem mu65 (t : Tmp) : cfg65.mu t = List.contains (α := Nat) [] t := (rfl)
theorem ok65 : okFn Tryz.prog cfg65 Tryz.f65 = true := by kernel_rfl
/-- (licit/duty.counter).choice -/
noncomputable def cfg70 : Cfg := ⟨fun t => List.contains (α := Nat) [16] t, fun i => (look (α := List (Nat × Fl)) [(6, [(0, .no), (1, .no), (2, .no), (3, .no), (4, .no), (5, .no), (6, .no), (7, .no), (8, .no), (9, .no), (10, .no), (11, .no), (12, .no), (13, .no), (14, .no), (15, .no), (16, .no)]), (11, [(0, .no), (1, .st), (2, .no), (3, .no), (4, .no), (5, .no), (6, .no), (7, .no), (8, .no), (9, .no), (10, .no), (11, .no), (12, .no), (13, .no)]), (16, [(0, .no), (1, .no), (2, .no), (3, .no), (4, .no), (5, .no), (6, .no), (7, .no), (8, .no), (9, .no), (10, .no), (11, .no), (12, .no), (13, .no), (14, .no), (15, .no), (16, .no), (17, .no), (18, .no), (19, .no)])] i).getD []⟩
theorem mu70 (t : Tmp) : cfg70.mu t = List.contains (α := Nat) [16] t := (rfl)
theorem ok70 : okFn Tryz.prog cfg70 Tryz.f70 = true := by kernel_rfl
/-- licit/notice.fulfils -/
noncomputable def cfg74 : Cfg := ⟨fun t => List.contains (α := Nat) [] t, fun i => (look (α := List (Nat × Fl)) [(7, [(0, .no), (1, .no), (2, .no), (3, .no), (4, .no), (5, .no), (6, .no), (7, .no), (8, .no), (9, .no), (10, .no), (11, .no), (12, .no), (13, .no), (14, .no), (15, .no), (16, .no), (17, .no), (18, .no), (19, .no), (20, .no)])] i).getD []⟩
theorem mu74 (t : Tmp) : cfg74.mu t = List.contains (α := Nat) [] t := (rfl)
theorem ok74 : okFn Tryz.prog cfg74 Tryz.f74 = true := by kernel_rfl
/-- slices.Sort[[]string,string] -/
noncomputable def cfg78 : Cfg := ⟨fun t => List.contains (α := Nat) [] t, fun i => (look (α := List (Nat × Fl)) [] i).getD []⟩
theorem mu78 (t : Tmp) : cfg78.mu t = List.contains (α := Nat) [] t := (rfl)
theorem ok78 : okFn Tryz.prog cfg78 Tryz.f78 = true := by kernel_rfl
/-- licit/header.words -/
noncomputable def cfg82 : Cfg := ⟨fun t => List.contains (α := Nat) [] t, fun i => (look (α := List (Nat × Fl)) [] i).getD []⟩
theorem mu82 (t : Tmp) : cfg82.mu t = List.contains (α := Nat) [] t := (rfl)
theorem ok82 : okFn Tryz.prog cfg82 Tryz.f82 = true := by kernel_rfl
/-- licit/licitref36.edge -/
noncomputable def cfg86 : Cfg := ⟨fun t => List.contains (α := Nat) [] t, fun i => (look (α := List (Nat × Fl)) [] i).getD []⟩
theorem mu86 (t : Tmp) : cfg86.mu t = List.contains (α := Nat) [] t := (rfl)
theorem ok86 : okFn Tryz.prog cfg86 Tryz.f86 = true := by kernel_rfl
/-- strings.Cut -/
noncomputable def cfg90 : Cfg := ⟨fun t => List.contains (α := Nat) [] t, fun i => (look (α := List (Nat × Fl)) [] i).getD []⟩
theorem mu90 (t : Tmp) : cfg90.mu t = List.contains (α := Nat) [] t := (rfl)
theorem ok90 : okFn Tryz.prog cfg90 Tryz.f90 = true := by kernel_rfl
/-- slices.DeleteFunc[[]string,string] -/
noncomputable def cfg94 : Cfg := ⟨fun t => List.contains (α := Nat) [] t, fun i => (look (α := List (Nat × Fl)) [] i).getD []⟩
theorem mu94 (t : Tmp) : cfg94.mu t = List.contains (α := Nat) [] t := (rfl)
theorem ok94 : okFn Tryz.prog cfg94 Tryz.f94 = true := by kernel_rfl
/-- slices.stableCmpFunc[licit/api.License] -/
noncomputable def cfg100 : Cfg := ⟨fun t => List.contains (α := Nat) [] t, fun i => (look (α := List (Nat × Fl)) [] i).getD []⟩
theorem mu100 (t : Tmp) : cfg100.mu t = List.contains (α := Nat) [] t := (rfl)
theorem ok100 : okFn Tryz.prog cfg100 Tryz.f100 = true := by kernel_rfl
/-- cmp.Or[int] -/
noncomputable def cfg104 : Cfg := ⟨fun t => List.contains (α := Nat) [] t, fun i => (look (α := List (Nat × Fl)) [] i).getD []⟩
theorem mu104 (t : Tmp) : cfg104.mu t = List.contains (α := Nat) [] t := (rfl)
theorem ok104 : okFn Tryz.prog cfg104 Tryz.f104 = true := by kernel_rfl
/-- licit/catalog.index -/
noncomputable def cfg108 : Cfg := ⟨fun t => List.contains (α := Nat) [] t, fun i => (look (α := List (Nat × Fl)) [] i).getD []⟩
theorem mu108 (t : Tmp) : cfg108.mu t = List.contains (α := Nat) [] t := (rfl)
theorem ok108 : okFn Tryz.prog cfg108 Tryz.f108 = true := by kernel_rfl
/-- slices.Contains[[]int,int] -/
noncomputable def cfg114 : Cfg := ⟨fun t => List.contains (α := Nat) [] t, fun i => (look (α := List (Nat × Fl)) [] i).getD []⟩
theorem mu114 (t : Tmp) : cfg114.mu t = List.contains (α := Nat) [] t := (rfl)
theorem ok114 : okFn Tryz.prog cfg114 Tryz.f114 = true := by kernel_rfl
/-- licit/notice.holders$1 -/
noncomputable def cfg118 : Cfg := ⟨fun t => List.contains (α := Nat) [] t, fun i => (look (α := List (Nat × Fl)) [] i).getD []⟩
theorem mu118 (t : Tmp) : cfg118.mu t = List.contains (α := Nat) [] t := (rfl)
theorem ok118 : okFn Tryz.prog cfg118 Tryz.f118 = true := by kernel_rfl
/-- math/bits.Len -/
noncomputable def cfg123 : Cfg := ⟨fun t => List.contains (α := Nat) [] t, fun i => (look (α := List (Nat × Fl)) [] i).getD []⟩
theorem mu123 (t : Tmp) : cfg123.mu t = List.contains (α := Nat) [] t := (rfl)
theorem ok123 : okFn Tryz.prog cfg123 Tryz.f123 = true := by kernel_rfl
/-- strings.trimLeftASCII -/
noncomputable def cfg127 : Cfg := ⟨fun t => List.contains (α := Nat) [] t, fun i => (look (α := List (Nat × Fl)) [] i).getD []⟩
theorem mu127 (t : Tmp) : cfg127.mu t = List.contains (α := Nat) [] t := (rfl)
theorem ok127 : okFn Tryz.prog cfg127 Tryz.f127 = true := by kernel_rfl
/-- slices.ContainsFunc[[]byte,byte] -/
noncomputable def cfg131 : Cfg := ⟨fun t => List.contains (α := Nat) [] t, fun i => (look (α := List (Nat × Fl)) [] i).getD []⟩
theorem mu131 (t : Tmp) : cfg131.mu t = List.contains (α := Nat) [] t := (rfl)
theorem ok131 : okFn Tryz.prog cfg131 Tryz.f131 = true := by kernel_rfl
/-- strings.explode -/
noncomputable def cfg135 : Cfg := ⟨fun t => List.contains (α := Nat) [21] t, fun i => (look (α := List (Nat × Fl)) [] i).getD []⟩
theorem mu135 (t : Tmp) : cfg135.mu t = List.contains (α := Nat) [21] t := (rfl)
theorem ok135 : okFn Tryz.prog cfg135 Tryz.f135 = true := by kernel_rfl
/-- licit/notice.number -/
noncomputable def cfg139 : Cfg := ⟨fun t => List.contains (α := Nat) [] t, fun i => (look (α := List (Nat × Fl)) [(4, [(0, .no), (1, .no), (2, .no), (3, .no), (4, .no)])] i).getD []⟩
theorem mu139 (t : Tmp) : cfg139.mu t = List.contains (α := Nat) [] t := (rfl)
theorem ok139 : okFn Tryz.prog cfg139 Tryz.f139 = true := by kernel_rfl
/-- licit/catalog.wayWords -/
noncomputable def cfg143 : Cfg := ⟨fun t => List.contains (α := Nat) [] t, fun i => (look (α := List (Nat × Fl)) [] i).getD []⟩
theorem mu143 (t : Tmp) : cfg143.mu t = List.contains (α := Nat) [] t := (rfl)
theorem ok143 : okFn Tryz.prog cfg143 Tryz.f143 = true := by kernel_rfl
/-- slices.insertionSortCmpFunc[licit/api.Clause] -/
noncomputable def cfg149 : Cfg := ⟨fun t => List.contains (α := Nat) [] t, fun i => (look (α := List (Nat × Fl)) [(4, [(0, .no), (1, .no), (2, .no), (3, .no), (4, .no), (5, .no), (6, .no), (7, .no), (8, .no), (9, .no), (10, .no), (11, .no), (12, .no), (13, .no), (14, .no), (15, .no), (16, .no)]), (6, [(0, .no), (1, .no), (2, .no), (3, .no), (4, .no), (5, .no), (6, .no), (7, .no), (8, .no), (9, .no), (10, .no), (11, .no), (12, .no), (13, .no), (14, .no), (15, .no), (16, .no), (17, .no)])] i).getD []⟩
theorem mu149 (t : Tmp) : cfg149.mu t = List.contains (α := Nat) [] t := (rfl)
theorem ok149 : okFn Tryz.prog cfg149 Tryz.f149 = true := by kernel_rfl
/-- licit/catalog.lines -/
noncomputable def cfg155 : Cfg := ⟨fun t => List.contains (α := Nat) [] t, fun i => (look (α := List (Nat × Fl)) [] i).getD []⟩
theorem mu155 (t : Tmp) : cfg155.mu t = List.contains (α := Nat) [] t := (rfl)
theorem ok155 : okFn Tryz.prog cfg155 Tryz.f155 = true := by kernel_rfl
/-- licit/alternative.Of -/
noncomputable def cfg162 : Cfg := ⟨fun t => List.contains (α := Nat) [] t, fun i => (look (α := List (Nat × Fl)) [] i).getD []⟩
theorem mu162 (t : Tmp) : cfg162.mu t = List.contains (α := Nat) [] t := (rfl)
theorem ok162 : okFn Tryz.prog cfg162 Tryz.f162 = true := by kernel_rfl
/-- internal/strconv.small -/
noncomputable def cfg166 : Cfg := ⟨fun t => List.contains (α := Nat) [] t, fun i => (look (α := List (Nat × Fl)) [] i).getD []⟩
theorem mu166 (t : Tmp) : cfg166.mu t = List.contains (α := Nat) [] t := (rfl)
theorem ok166 : okFn Tryz.prog cfg166 Tryz.f166 = true := by kernel_rfl
/-- slices.heapSortOrdered[string] -/
noncomputable def cfg171 : Cfg := ⟨fun t => List.contains (α := Nat) [] t, fun i => (look (α := List (Nat × Fl)) [(10, [(0, .no), (1, .no), (2, .no), (3, .no), (4, .no), (5, .no), (6, .no), (7, .no), (8, .no), (9, .no), (10, .no), (11, .no), (12, .no), (13, .no), (14, .no), (15, .no), (16, .no), (17, .no), (18, .no), (19, .no)])] i).getD []⟩
theorem mu171 (t : Tmp) : cfg171.mu t = List.contains (α := Nat) [] t := (rfl)
theorem ok171 : okFn Tryz.prog cfg171 Tryz.f171 = true := by kernel_rfl
/-- slices.partialInsertionSortOrdered[string] -/
noncomputable def cfg175 : Cfg := ⟨fun t => List.contains (α := Nat) [] t, fun i => (look (α := List (Nat × Fl)) [(5, [(0, .no), (1, .no), (2, .no), (3, .no), (4, .no), (5, .no), (6, .no), (7, .no), (8, .no), (9, .no), (10, .no), (11, .no), (12, .no), (13, .no), (14, .no), (15, .no)]), (11, [(0, .no), (1, .no), (2, .no), (3, .no), (4, .no), (5, .no), (6, .no), (7, .no), (8, .no), (9, .no), (10, .no), (11, .no), (12, .no), (13, .no), (14, .no), (15, .no), (16, .no), (17, .no)]), (16, [(0, .no), (1, .no), (2, .no), (3, .no), (4, .no), (5, .no), (6, .no), (7, .no), (8, .no), (9, .no), (10, .no)]), (17, [(0, .no), (1, .no), (2, .no), (3, .no), (4, .no), (5, .no), (6, .no), (7, .no), (8, .no), (9, .no), (10, .no), (11, .no), (12, .no), (13, .no), (14, .no), (15, .no), (16, .no), (17, .no)]), (22, [(0, .no), (1, .no), (2, .no), (3, .no), (4, .no), (5, .no), (6, .no), (7, .no), (8, .no), (9, .no), (10, .no)]), (23, [(0, .no), (1, .no), (2, .no), (3, .no), (4, .no), (5, .no), (6, .no), (7, .no), (8, .no), (9, .no), (10, .no), (11, .no), (12, .no), (13, .no), (14, .no), (15, .no), (16, .no), (17, .no)])] i).getD []⟩
theorem mu175 (t : Tmp) : cfg175.mu t = List.contains (α := Nat) [] t := (rfl)
theorem ok175 : okFn Tryz.prog cfg175 Tryz.f175 = true := by kernel_rfl
/-- math/bits.Len32 -/
noncomputable def cfg179 : Cfg := ⟨fun t => List.contains (α := Nat) [] t, fun i => (look (α := List (Nat × Fl)) [] i).getD []⟩
theorem mu179 (t : Tmp) : cfg179.mu t = List.contains (α := Nat) [] t := (rfl)
theorem ok179 : okFn Tryz.prog cfg179 Tryz.f179 = true := by kernel_rfl
/-- strings.ContainsRune -/
noncomputable def cfg183 : Cfg := ⟨fun t => List.contains (α := Nat) [] t, fun i => (look (α := List (Nat × Fl)) [] i).getD []⟩
theorem mu183 (t : Tmp) : cfg183.mu t = List.contains (α := Nat) [] t := (rfl)
theorem ok183 : okFn Tryz.prog cfg183 Tryz.f183 = true := by kernel_rfl
/-- unicode/utf8.RuneCountInString -/
noncomputable def cfg187 : Cfg := ⟨fun t => List.contains (α := Nat) [] t, fun i => (look (α := List (Nat × Fl)) [] i).getD []⟩
theorem mu187 (t : Tmp) : cfg187.mu t = List.contains (α := Nat) [] t := (rfl)
theorem ok187 : okFn Tryz.prog cfg187 Tryz.f187 = true := by kernel_rfl
/-- licit/licexpr.Check -/
noncomputable def cfg198 : Cfg := ⟨fun t => List.contains (α := Nat) [] t, fun i => (look (α := List (Nat × Fl)) [] i).getD []⟩
theorem mu198 (t : Tmp) : cfg198.mu t = List.contains (α := Nat) [] t := (rfl)
theorem ok198 : okFn Tryz.prog cfg198 Tryz.f198 = true := by kernel_rfl
/-- slices.Equal[licit/api.Alternative,licit/api.Term] -/
noncomputable def cfg202 : Cfg := ⟨fun t => List.contains (α := Nat) [] t, fun i => (look (α := List (Nat × Fl)) [(6, [(0, .no), (1, .no), (2, .no), (3, .no), (4, .no), (5, .no), (6, .no), (7, .no), (8, .no)])] i).getD []⟩
theorem mu202 (t : Tmp) : cfg202.mu t = List.contains (α := Nat) [] t := (rfl)
theorem ok202 : okFn Tryz.prog cfg202 Tryz.f202 = true := by kernel_rfl
/-- licit/duty.pairs -/
noncomputable def cfg206 : Cfg := ⟨fun t => List.contains (α := Nat) [] t, fun i => (look (α := List (Nat × Fl)) [] i).getD []⟩
theorem mu206 (t : Tmp) : cfg206.mu t = List.contains (α := Nat) [] t := (rfl)
theorem ok206 : okFn Tryz.prog cfg206 Tryz.f206 = true := by kernel_rfl
/-- internal/strconv.isPowerOfTwo -/
noncomputable def cfg210 : Cfg := ⟨fun t => List.contains (α := Nat) [] t, fun i => (look (α := List (Nat × Fl)) [] i).getD []⟩
theorem mu210 (t : Tmp) : cfg210.mu t = List.contains (α := Nat) [] t := (rfl)
theorem ok210 : okFn Tryz.prog cfg210 Tryz.f210 = true := by kernel_rfl
/-- (*slices.xorshift).Next -/
noncomputable def cfg214 : Cfg := ⟨fun t => List.contains (α := Nat) [] t, fun i => (look (α := List (Nat × Fl)) [(1, [(0, .no), (1, .no), (2, .no), (3, .no), (4, .no), (5, .no), (6, .no), (7, .no), (8, .no), (9, .no)]), (2, [(0, .no), (1, .no), (2, .no), (3, .no), (4, .no), (5, .no), (6, .no), (7, .no), (8, .no), (9, .no)]), (3, [(0, .no), (1, .no), (2, .no), (3, .no), (4, .no), (5, .no), (6, .no), (7, .no), (8, .no), (9, .no)])] i).getD []⟩
theorem mu214 (t : Tmp) : cfg214.mu t = List.contains (α := Nat) [] t := (rfl)
theorem ok214 : okFn Tryz.prog cfg214 Tryz.f214 = true := by kernel_rfl
/-- strings.indexFunc -/
noncomputable def cfg220 : Cfg := ⟨fun t => List.contains (α := Nat) [] t, fun i => (look (α := List (Nat × Fl)) [] i).getD []⟩
theorem mu220 (t : Tmp) : cfg220.mu t = List.contains (α := Nat) [] t := (rfl)
theorem ok220 : okFn Tryz.prog cfg220 Tryz.f220 = true := by kernel_rfl
/-- internal/strconv.Atoi -/
noncomputable def cfg225 : Cfg := ⟨fun t => List.contains (α := Nat) [] t, fun i => (look (α := List (Nat × Fl)) [] i).getD []⟩
theorem mu225 (t : Tmp) : cfg225.mu t = List.contains (α := Nat) [] t := (rfl)
theorem ok225 : okFn Tryz.prog cfg225 Tryz.f225 = true := by kernel_rfl
/-- licit/duty.extra -/
noncomputable def cfg233 : Cfg := ⟨fun t => List.contains (α := Nat) [] t, fun i => (look (α := List (Nat × Fl)) [] i).getD []⟩
theorem mu233 (t : Tmp) : cfg233.mu t = List.contains (α := Nat) [] t := (rfl)
theorem ok233 : okFn Tryz.prog cfg233 Tryz.f233 = true := by kernel_rfl
/-- slices.IndexFunc[[]licit/api.Alternative,licit/api.Alternative] -/
noncomputable def cfg242 : Cfg := ⟨fun t => List.contains (α := Nat) [] t, fun i => (look (α := List (Nat × Fl)) [] i).getD []⟩
theorem mu242 (t : Tmp) : cfg242.mu t = List.contains (α := Nat) [] t := (rfl)
theorem ok242 : okFn Tryz.prog cfg242 Tryz.f242 = true := by kernel_rfl
/-- slices.order2Ordered[string] -/
noncomputable def cfg248 : Cfg := ⟨fun t => List.contains (α := Nat) [] t, fun i => (look (α := List (Nat × Fl)) [(1, [(0, .no), (1, .no), (2, .no), (3, .no), (4, .no), (5, .no), (6, .no), (7, .no), (8, .no)])] i).getD []⟩
theorem mu248 (t : Tmp) : cfg248.mu t = List.contains (α := Nat) [] t := (rfl)
theorem ok248 : okFn Tryz.prog cfg248 Tryz.f248 = true := by kernel_rfl
/-- internal/strconv.ParseInt -/
noncomputable def cfg253 : Cfg := ⟨fun t => List.contains (α := Nat) [] t, fun i => (look (α := List (Nat × Fl)) [] i).getD []⟩
theorem mu253 (t : Tmp) : cfg253.mu t = List.contains (α := Nat) [] t := (rfl)
theorem ok253 : okFn Tryz.prog cfg253 Tryz.f253 = true := by kernel_rfl
/-- licit/licexpr.Size -/
noncomputable def cfg260 : Cfg := ⟨fun t => List.contains (α := Nat) [] t, fun i => (look (α := List (Nat × Fl)) [] i).getD []⟩
theorem mu260 (t : Tmp) : cfg260.mu t = List.contains (α := Nat) [] t := (rfl)
theorem ok260 : okFn Tryz.prog cfg260 Tryz.f260 = true := by kernel_rfl
/-- licit/licexpr.nodes$2 -/
noncomputable def cfg264 : Cfg := ⟨fun t => List.contains (α := Nat) [] t, fun i => (look (α := List (Nat × Fl)) [] i).getD []⟩
theorem mu264 (t : Tmp) : cfg264.mu t = List.contains (α := Nat) [] t := (rfl)
theorem ok264 : okFn Tryz.prog cfg264 Tryz.f264 = true := by kernel_rfl
/-- licit/licexpr.isName -/
noncomputable def cfg280 : Cfg := ⟨fun t => List.contains (α := Nat) [] t, fun i => (look (α := List (Nat × Fl)) [] i).getD []⟩
theorem mu280 (t : Tmp) : cfg280.mu t = List.contains (α := Nat) [] t := (rfl)
theorem ok280 : okFn Tryz.prog cfg280 Tryz.f280 = true := by kernel_rfl
end Go.V
namespace Go.V
open Go.Proofs
/-- licit/licitlaw44.NoticeParses -/
noncomputable def cfg4 : Cfg := ⟨fun t => List.contains (α := Nat) [] t, fun i => (look (α := List (Nat × Fl)) [] i).getD []⟩
theorem mu4 (t : Tmp) : cfg4.mu t = List.contains (α := Nat) [] t := (rfl)
theorem ok4 : okFn Tryz.prog cfg4 Tryz.f4 = true := by kernel_rfl
/-- licit/licitref44.Few -/
noncomputable def cfg8 : Cfg := ⟨fun t => List.contains (α := Nat) [] t, fun i => (look (α := List (Nat × Fl)) [] i).getD []⟩
theorem mu8 (t : Tmp) : cfg8.mu t = List.contains (α := Nat) [] t := (rfl)
theorem ok8 : okFn Tryz.prog cfg8 Tryz.f8 = true := by kernel_rfl
/-- licit/licitref44.Merge -/
noncomputable def cfg12 : Cfg := ⟨fun t => List.contains (α := Nat) [] t, fun i => (look (α := List (Nat × Fl)) [(11, [(0, .no), (1, .no), (2, .no), (3, .no), (4, .no), (5, .no), (6, .no), (7, .no), (8, .no)]), (12, [(0, .no), (1, .no), (2, .no), (3, .no), (4, .no), (5, .no), (6, .no), (7, .no), (8, .no), (9, .no), (10, .no), (11, .no), (12, .no), (13, .no), (14, .no)]), (14, [(0, .no), (1, .no), (2, .no), (3, .no), (4, .no), (5, .no), (6, .no), (7, .no), (8, .no), (9, .no)]), (18, [(0, .no), (1, .no), (2, .no), (3, .no), (4, .no), (5, .no), (6, .no), (7, .no), (8, .no), (9, .no)]), (22, [(0, .no), (1, .no), (2, .no), (3, .no), (4, .no), (5, .no), (6, .no), (7, .no), (8, .no)]), (24, [(0, .no), (1, .no), (2, .no), (3, .no), (4, .no), (5, .no), (6, .no), (7, .no), (8, .no), (9, .no), (10, .no)]), (25, [(0, .no), (1, .st), (2, .no), (3, .st), (4, .no), (5, .no), (6, .no), (7, .no), (8, .no), (9, .no), (10, .no), (11, .no), (12, .no), (13, .no), (14, .no), (15, .no), (16, .no), (17, .no)]), (26, [(0, .no), (1, .no), (2, .no), (4, .no), (5, .st), (3, .no), (6, .no), (7, .no)]), (30, [(0, .no), (1, .no), (2, .no), (3, .no), (4, .no), (5, .no), (6, .no), (7, .no), (8, .no)]), (31, [(0, .no), (1, .no), (2, .no), (4, .no), (5, .st), (3, .no), (6, .no), (7, .no)]), (35, [(0, .no), (1, .no), (2, .no), (3, .no), (4, .no), (5, .no), (6, .no), (7, .no), (8, .no)])] i).getD []⟩
theorem mu12 (t : Tmp) : cfg12.mu t = List.contains (α := Nat) [] t := (rfl)
theorem ok12 : okFn Tryz.prog cfg12 Tryz.f12 = true := by kernel_rfl
/-- licit/notice.Parse -/
noncomputable def cfg16 : Cfg := ⟨fun t => List.contains (α := Nat) [24] t, fun i => (look (α := List (Nat × Fl)) [] i).getD []⟩
theorem mu16 (t : Tmp) : cfg16.mu t = List.contains (α := Nat) [24] t := (rfl)
theorem ok16 : okFn Tryz.prog cfg16 Tryz.f16 = true := by kernel_rfl
/-- licit/licitlaw44.NoticeMerges$1$1 -/
noncomputable def cfg20 : Cfg := ⟨fun t => List.contains (α := Nat) [] t, fun i => (look (α := List (Nat × Fl)) [] i).getD []⟩
theorem mu20 (t : Tmp) : cfg20.mu t = List.contains (α := Nat) [] t := (rfl)
theorem ok20 : okFn Tryz.prog cfg20 Tryz.f20 = true := by kernel_rfl
/-- licit/notice.Make -/
noncomputable def cfg24 : Cfg := ⟨fun t => List.contains (α := Nat) [] t, fun i => (look (α := List (Nat × Fl)) [(17, [(0, .no), (1, .no), (3, .no), (4, .st), (6, .no), (7, .st), (2, .no), (9, .no), (5, .no), (8, .no), (10, .no), (11, .no), (12, .no), (13, .no), (14, .no)])] i).getD []⟩
theorem mu24 (t : Tmp) : cfg24.mu t = List.contains (α := Nat) [] t := (rfl)
theorem ok24 : okFn Tryz.prog cfg24 Tryz.f24 = true := by kernel_rfl
/-- (*strings.Builder).WriteString -/
noncomputable def cfg28 : Cfg := ⟨fun t => List.contains (α := Nat) [14] t, fun i => (look (α := List (Nat × Fl)) [] i).getD []⟩
theorem mu28 (t : Tmp) : cfg28.mu t = List.contains (α := Nat) [14] t := (rfl)
theorem ok28 : okFn Tryz.prog cfg28 Tryz.f28 = true := by kernel_rfl
/-- licit/licitref31.Decimal -/
noncomputable def cfg32 : Cfg := ⟨fun t => List.contains (α := Nat) [] t, fun i => (look (α := List (Nat × Fl)) [] i).getD []⟩
theorem mu32 (t : Tmp) : cfg32.mu t = List.contains (α := Nat) [] t := (rfl)
theorem ok32 : okFn Tryz.prog cfg32 Tryz.f32 = true := by kernel_rfl
/-- licit/licitref36.AddText -/
noncomputable def cfg36 : Cfg := ⟨fun t => List.contains (α := Nat) [] t, fun i => (look (α := List (Nat × Fl)) [] i).getD []⟩
theorem mu36 (t : Tmp) : cfg36.mu t = List.contains (α := Nat) [] t := (rfl)
theorem ok36 : okFn Tryz.prog cfg36 Tryz.f36 = true := by kernel_rfl
/-- licit/notice.checkText -/
noncomputable def cfg40 : Cfg := ⟨fun t => List.contains (α := Nat) [] t, fun i => (look (α := List (Nat × Fl)) [] i).getD []⟩
theorem mu40 (t : Tmp) : cfg40.mu t = List.contains (α := Nat) [] t := (rfl)
theorem ok40 : okFn Tryz.prog cfg40 Tryz.f40 = true := by kernel_rfl
/-- licit/tree.Path -/
noncomputable def cfg44 : Cfg := ⟨fun t => List.contains (α := Nat) [] t, fun i => (look (α := List (Nat × Fl)) [] i).getD []⟩
theorem mu44 (t : Tmp) : cfg44.mu t = List.contains (α := Nat) [] t := (rfl)
theorem ok44 : okFn Tryz.prog cfg44 Tryz.f44 = true := by kernel_rfl
/-- licit/licitref03.Path -/
noncomputable def cfg48 : Cfg := ⟨fun t => List.contains (α := Nat) [] t, fun i => (look (α := List (Nat × Fl)) [] i).getD []⟩
theorem mu48 (t : Tmp) : cfg48.mu t = List.contains (α := Nat) [] t := (rfl)
theorem ok48 : okFn Tryz.prog cfg48 Tryz.f48 = true := by kernel_rfl
/-- licit/licitref36.Lines -/
noncomputable def cfg52 : Cfg := ⟨fun t => List.contains (α := Nat) [] t, fun i => (look (α := List (Nat × Fl)) [] i).getD []⟩
theorem mu52 (t : Tmp) : cfg52.mu t = List.contains (α := Nat) [] t := (rfl)
theorem ok52 : okFn Tryz.prog cfg52 Tryz.f52 = true := by kernel_rfl
/-- slices.Index[[]string,string] -/
noncomputable def cfg56 : Cfg := ⟨fun t => List.contains (α := Nat) [] t, fun i => (look (α := List (Nat × Fl)) [] i).getD []⟩
theorem mu56 (t : Tmp) : cfg56.mu t = List.contains (α := Nat) [] t := (rfl)
theorem ok56 : okFn Tryz.prog cfg56 Tryz.f56 = true := by kernel_rfl
/-- slices.SortStableFunc[[]licit/api.Exception,licit/api.Exception] -/
noncomputable def cfg61 : Cfg := ⟨fun t => List.contains (α := Nat) [] t, fun i => (look (α := List (Nat × Fl)) [] i).getD []⟩
theorem mu61 (t : Tmp) : cfg61.mu t = List.contains (α := Nat) [] t := (rfl)
theorem ok61 : okFn Tryz.prog cfg61 Tryz.f61 = true := by kernel_rfl
/-- licit/catalog.Check -/
noncomputable def cfg67 : Cfg := ⟨fun t => List.contains (α := Nat) [] t, fun i => (look (α := List (Nat × Fl)) [] i).getD []⟩
theorem mu67 (t : Tmp) : cfg67.mu t = List.contains (α := Nat) [] t := (rfl)
theorem ok67 : okFn Tryz.prog cfg67 Tryz.f67 = true := by kernel_rfl
/-- licit/notice.dues -/
noncomputable def cfg71 : Cfg := ⟨fun t => List.contains (α := Nat) [] t, fun i => (look (α := List (Nat × Fl)) [] i).getD []⟩
theorem mu71 (t : Tmp) : cfg71.mu t = List.contains (α := Nat) [] t := (rfl)
theorem ok71 : okFn Tryz.prog cfg71 Tryz.f71 = true := by kernel_rfl
/-- (*strings.Builder).copyCheck -/
noncomputable def cfg75 : Cfg := ⟨fun t => List.contains (α := Nat) [] t, fun i => (look (α := List (Nat × Fl)) [] i).getD []⟩
theorem mu75 (t : Tmp) : cfg75.mu t = List.contains (α := Nat) [] t := (rfl)
theorem ok75 : okFn Tryz.prog cfg75 Tryz.f75 = true := by kernel_rfl
/-- slices.Compact[[]string,string] -/
noncomputable def cfg79 : Cfg := ⟨fun t => List.contains (α := Nat) [] t, fun i => (look (α := List (Nat × Fl)) [(6, [(0, .no), (1, .no), (2, .no), (3, .no), (4, .no), (5, .no), (6, .no), (7, .no), (8, .no), (9, .no)]), (11, [(0, .no), (1, .no), (2, .no), (3, .no), (4, .no), (5, .no), (6, .no), (7, .no), (8, .no), (9, .no)])] i).getD []⟩
theorem mu79 (t : Tmp) : cfg79.mu t = List.contains (α := Nat) [] t := (rfl)
theorem ok79 : okFn Tryz.prog cfg79 Tryz.f79 = true := by kernel_rfl
/-- licit/header.isText -/
noncomputable def cfg83 : Cfg := ⟨fun t => List.contains (α := Nat) [] t, fun i => (look (α := List (Nat × Fl)) [] i).getD []⟩
theorem mu83 (t : Tmp) : cfg83.mu t = List.contains (α := Nat) [] t := (rfl)
theorem ok83 : okFn Tryz.prog cfg83 Tryz.f83 = true := by kernel_rfl
/-- licit/licitref03.Split -/
noncomputable def cfg87 : Cfg := ⟨fun t => List.contains (α := Nat) [] t, fun i => (look (α := List (Nat × Fl)) [] i).getD []⟩
theorem mu87 (t : Tmp) : cfg87.mu t = List.contains (α := Nat) [] t := (rfl)
theorem ok87 : okFn Tryz.prog cfg87 Tryz.f87 = true := by kernel_rfl
/-- (*licit/notice.reader).license -/
noncomputable def cfg91 : Cfg := ⟨fun t => List.contains (α := Nat) [] t, fun i => (look (α := List (Nat × Fl)) [(8, [(0, .no), (1, .no), (2, .no), (3, .no), (4, .no), (5, .no), (6, .no), (7, .no), (8, .no), (9, .no), (10, .no), (11, .no)]), (10, [(0, .no), (1, .no), (2, .no), (3, .no), (4, .no), (5, .no), (6, .no), (7, .no), (8, .no), (9, .no), (10, .no), (11, .no), (12, .no), (13, .no), (14, .no), (15, .no), (16, .no)]), (14, [(0, .no), (1, .no), (2, .no), (3, .no), (4, .no), (5, .no), (6, .no), (7, .no), (8, .no), (10, .no), (11, .no), (12, .no), (13, .no), (14, .st), (15, .no), (16, .no), (9, .no), (17, .no), (18, .no), (19, .no), (20, .no), (21, .no), (22, .no), (23, .no), (24, .no), (25, .no)])] i).getD []⟩
theorem mu91 (t : Tmp) : cfg91.mu t = List.contains (α := Nat) [] t := (rfl)
theorem ok91 : okFn Tryz.prog cfg91 Tryz.f91 = true := by kernel_rfl
/-- (*licit/catalog.reader).line$1 -/
noncomputable def cfg95 : Cfg := ⟨fun t => List.contains (α := Nat) [] t, fun i => (look (α := List (Nat × Fl)) [] i).getD []⟩
theorem mu95 (t : Tmp) : cfg95.mu t = List.contains (α := Nat) [] t := (rfl)
theorem ok95 : okFn Tryz.prog cfg95 Tryz.f95 = true := by kernel_rfl
/-- cmp.isNaN[string] -/
noncomputable def cfg101 : Cfg := ⟨fun t => List.contains (α := Nat) [] t, fun i => (look (α := List (Nat × Fl)) [] i).getD []⟩
theorem mu101 (t : Tmp) : cfg101.mu t = List.contains (α := Nat) [] t := (rfl)
theorem ok101 : okFn Tryz.prog cfg101 Tryz.f101 = true := by kernel_rfl
/-- cmp.Compare[int] -/
noncomputable def cfg105 : Cfg := ⟨fun t => List.contains (α := Nat) [] t, fun i => (look (α := List (Nat × Fl)) [] i).getD []⟩
theorem mu105 (t : Tmp) : cfg105.mu t = List.contains (α := Nat) [] t := (rfl)
theorem ok105 : okFn Tryz.prog cfg105 Tryz.f105 = true := by kernel_rfl
/-- licit/catalog.checkClause -/
noncomputable def cfg110 : Cfg := ⟨fun t => List.contains (α := Nat) [] t, fun i => (look (α := List (Nat × Fl)) [(16, [(0, .no), (1, .no), (2, .no), (3, .no), (4, .no), (5, .no), (6, .no), (7, .no), (13, .no), (8, .no), (9, .no), (10, .no), (11, .no), (12, .no), (14, .no), (15, .no), (16, .no), (17, .no)])] i).getD []⟩
theorem mu110 (t : Tmp) : cfg110.mu t = List.contains (α := Nat) [] t := (rfl)
theorem ok110 : okFn Tryz.prog cfg110 Tryz.f110 = true := by kernel_rfl
/-- slices.Clone[licit/api.Alternative,licit/api.Term] -/
noncomputable def cfg115 : Cfg := ⟨fun t => List.contains (α := Nat) [] t, fun i => (look (α := List (Nat × Fl)) [] i).getD []⟩
theorem mu115 (t : Tmp) : cfg115.mu t = List.contains (α := Nat) [] t := (rfl)
theorem ok115 : okFn Tryz.prog cfg115 Tryz.f115 = true := by kernel_rfl
/-- licit/notice.fulfils$1 -/
noncomputable def cfg119 : Cfg := ⟨fun t => List.contains (α := Nat) [] t, fun i => (look (α := List (Nat × Fl)) [] i).getD []⟩
theorem mu119 (t : Tmp) : cfg119.mu t = List.contains (α := Nat) [] t := (rfl)
theorem ok119 : okFn Tryz.prog cfg119 Tryz.f119 = true := by kernel_rfl
/-- strings.trimLeftByte -/
noncomputable def cfg124 : Cfg := ⟨fun t => List.contains (α := Nat) [] t, fun i => (look (α := List (Nat × Fl)) [] i).getD []⟩
theorem mu124 (t : Tmp) : cfg124.mu t = List.contains (α := Nat) [] t := (rfl)
theorem ok124 : okFn Tryz.prog cfg124 Tryz.f124 = true := by kernel_rfl
/-- strings.trimRightASCII -/
noncomputable def cfg128 : Cfg := ⟨fun t => List.contains (α := Nat) [] t, fun i => (look (α := List (Nat × Fl)) [] i).getD []⟩
theorem mu128 (t : Tmp) : cfg128.mu t = List.contains (α := Nat) [] t := (rfl)
theorem ok128 : okFn Tryz.prog cfg128 Tryz.f128 = true := by kernel_rfl
/-- licit/header.isText$1 -/
noncomputable def cfg132 : Cfg := ⟨fun t => List.contains (α := Nat) [] t, fun i => (look (α := List (Nat × Fl)) [] i).getD []⟩
theorem mu132 (t : Tmp) : cfg132.mu t = List.contains (α := Nat) [] t := (rfl)
theorem ok132 : okFn Tryz.prog cfg132 Tryz.f132 = true := by kernel_rfl
/-- strings.Count -/
noncomputable def cfg136 : Cfg := ⟨fun t => List.contains (α := Nat) [] t, fun i => (look (α := List (Nat × Fl)) [] i).getD []⟩
theorem mu136 (t : Tmp) : cfg136.mu t = List.contains (α := Nat) [] t := (rfl)
theorem ok136 : okFn Tryz.prog cfg136 Tryz.f136 = true := by kernel_rfl
/-- strings.Join -/
noncomputable def cfg140 : Cfg := ⟨fun t => List.contains (α := Nat) [] t, fun i => (look (α := List (Nat × Fl)) [] i).getD []⟩
theorem mu140 (t : Tmp) : cfg140.mu t = List.contains (α := Nat) [] t := (rfl)
theorem ok140 : okFn Tryz.prog cfg140 Tryz.f140 = true := by kernel_rfl
/-- licit/catalog.relationWords -/
noncomputable def cfg144 : Cfg := ⟨fun t => List.contains (α := Nat) [] t, fun i => (look (α := List (Nat × Fl)) [] i).getD []⟩
theorem mu144 (t : Tmp) : cfg144.mu t = List.contains (α := Nat) [] t := (rfl)
theorem ok144 : okFn Tryz.prog cfg144 Tryz.f144 = true := by kernel_rfl
/-- cmp.isNaN[int] -/
noncomputable def cfg151 : Cfg := ⟨fun t => List.contains (α := Nat) [] t, fun i => (look (α := List (Nat × Fl)) [] i).getD []⟩
theorem mu151 (t : Tmp) : cfg151.mu t = List.contains (α := Nat) [] t := (rfl)
theorem ok151 : okFn Tryz.prog cfg151 Tryz.f151 = true := by kernel_rfl
/-- licit/catalog.isDuty -/
noncomputable def cfg158 : Cfg := ⟨fun t => List.contains (α := Nat) [] t, fun i => (look (α := List (Nat × Fl)) [] i).getD []⟩
theorem mu158 (t : Tmp) : cfg158.mu t = List.contains (α := Nat) [] t := (rfl)
theorem ok158 : okFn Tryz.prog cfg158 Tryz.f158 = true := by kernel_rfl
/-- slices.Index[[]int,int] -/
noncomputable def cfg163 : Cfg := ⟨fun t => List.contains (α := Nat) [] t, fun i => (look (α := List (Nat × Fl)) [] i).getD []⟩
theorem mu163 (t : Tmp) : cfg163.mu t = List.contains (α := Nat) [] t := (rfl)
theorem ok163 : okFn Tryz.prog cfg163 Tryz.f163 = true := by kernel_rfl
/-- internal/strconv.formatBase10 -/
noncomputable def cfg168 : Cfg := ⟨fun t => List.contains (α := Nat) [] t, fun i => (look (α := List (Nat × Fl)) [(7, [(0, .no), (1, .no), (2, .no), (3, .no), (4, .no), (5, .no), (6, .no), (7, .no), (8, .no), (9, .no), (10, .no), (11, .no), (12, .no), (13, .no), (14, .no)]), (8, [(0, .no), (1, .no), (2, .no), (3, .no), (4, .no), (5, .no), (6, .no), (7, .no), (8, .no), (9, .no), (10, .no), (11, .no), (12, .no), (13, .no), (14, .no)]), (9, [(0, .no), (1, .no), (2, .no), (3, .no), (4, .no), (5, .no), (6, .no), (7, .no), (8, .no), (9, .no), (10, .no), (11, .no), (12, .no), (13, .no), (14, .no)]), (10, [(0, .no), (1, .no), (2, .no), (3, .no), (4, .no), (5, .no), (6, .no), (7, .no), (8, .no), (9, .no), (10, .no), (11, .no), (12, .no), (13, .no), (14, .no)]), (17, [(0, .no), (1, .no), (2, .no), (3, .no), (4, .no), (5, .no), (6, .no), (7, .no), (8, .no), (9, .no), (10, .no), (11, .no), (12, .no), (13, .no), (14, .no)]), (18, [(0, .no), (1, .no), (2, .no), (3, .no), (4, .no), (5, .no), (6, .no), (7, .no), (8, .no), (9, .no), (10, .no), (11, .no), (12, .no), (13, .no), (14, .no)]), (23, [(0, .no), (1, .no), (2, .no), (3, .no), (4, .no), (5, .no), (6, .no), (7, .no), (8, .no), (9, .no), (10, .no), (11, .no), (12, .no), (13, .no), (14, .no)])] i).getD []⟩
theorem mu168 (t : Tmp) : cfg168.mu t = List.contains (α := Nat) [] t := (rfl)
theorem ok168 : okFn Tryz.prog cfg168 Tryz.f168 = true := by kernel_rfl
/-- slices.breakPatternsOrdered[string] -/
noncomputable def cfg172 : Cfg := ⟨fun t => List.contains (α := Nat) [] t, fun i => (look (α := List (Nat × Fl)) [(10, [(0, .no), (1, .no), (2, .no), (3, .no), (4, .no), (5, .no), (6, .no), (7, .no), (8, .no), (9, .no), (10, .no), (11, .no), (12, .no), (13, .no), (14, .no), (15, .no), (16, .no), (17, .no), (18, .no), (19, .no)])] i).getD []⟩
theorem mu172 (t : Tmp) : cfg172.mu t = List.contains (α := Nat) [] t := (rfl)
theorem ok172 : okFn Tryz.prog cfg172 Tryz.f172 = true := by kernel_rfl
/-- cmp.Less[string] -/
noncomputable def cfg176 : Cfg := ⟨fun t => List.contains (α := Nat) [] t, fun i => (look (α := List (Nat × Fl)) [] i).getD []⟩
theorem mu176 (t : Tmp) : cfg176.mu t = List.contains (α := Nat) [] t := (rfl)
theorem ok176 : okFn Tryz.prog cfg176 Tryz.f176 = true := by kernel_rfl
/-- math/bits.Len64 -/
noncomputable def cfg180 : Cfg := ⟨fun t => List.contains (α := Nat) [] t, fun i => (look (α := List (Nat × Fl)) [] i).getD []⟩
theorem mu180 (t : Tmp) : cfg180.mu t = List.contains (α := Nat) [] t := (rfl)
theorem ok180 : okFn Tryz.prog cfg180 Tryz.f180 = true := by kernel_rfl
/-- unicode/utf8.DecodeLastRuneInString -/
noncomputable def cfg184 : Cfg := ⟨fun t => List.contains (α := Nat) [] t, fun i => (look (α := List (Nat × Fl)) [] i).getD []⟩
theorem mu184 (t : Tmp) : cfg184.mu t = List.contains (α := Nat) [] t := (rfl)
theorem ok184 : okFn Tryz.prog cfg184 Tryz.f184 = true := by kernel_rfl
/-- strconv.Atoi -/
noncomputable def cfg190 : Cfg := ⟨fun t => List.contains (α := Nat) [] t, fun i => (look (α := List (Nat × Fl)) [] i).getD []⟩
theorem mu190 (t : Tmp) : cfg190.mu t = List.contains (α := Nat) [] t := (rfl)
theorem ok190 : okFn Tryz.prog cfg190 Tryz.f190 = true := by kernel_rfl
/-- licit/alternative.meaning -/
noncomputable def cfg199 : Cfg := ⟨fun t => List.contains (α := Nat) [] t, fun i => (look (α := List (Nat × Fl)) [] i).getD []⟩
theorem mu199 (t : Tmp) : cfg199.mu t = List.contains (α := Nat) [] t := (rfl)
theorem ok199 : okFn Tryz.prog cfg199 Tryz.f199 = true := by kernel_rfl
/-- slices.ContainsFunc[[]licit/api.License,licit/api.License] -/
noncomputable def cfg203 : Cfg := ⟨fun t => List.contains (α := Nat) [] t, fun i => (look (α := List (Nat × Fl)) [] i).getD []⟩
theorem mu203 (t : Tmp) : cfg203.mu t = List.contains (α := Nat) [] t := (rfl)
theorem ok203 : okFn Tryz.prog cfg203 Tryz.f203 = true := by kernel_rfl
/-- licit/catalog.Clauses -/
noncomputable def cfg207 : Cfg := ⟨fun t => List.contains (α := Nat) [] t, fun i => (look (α := List (Nat × Fl)) [] i).getD []⟩
theorem mu207 (t : Tmp) : cfg207.mu t = List.contains (α := Nat) [] t := (rfl)
theorem ok207 : okFn Tryz.prog cfg207 Tryz.f207 = true := by kernel_rfl
/-- math/bits.TrailingZeros -/
noncomputable def cfg211 : Cfg := ⟨fun t => List.contains (α := Nat) [] t, fun i => (look (α := List (Nat × Fl)) [] i).getD []⟩
theorem mu211 (t : Tmp) : cfg211.mu t = List.contains (α := Nat) [] t := (rfl)
theorem ok211 : okFn Tryz.prog cfg211 Tryz.f211 = true := by kernel_rfl
/-- slices.medianAdjacentOrdered[string] -/
noncomputable def cfg215 : Cfg := ⟨fun t => List.contains (α := Nat) [] t, fun i => (look (α := List (Nat × Fl)) [] i).getD []⟩
theorem mu215 (t : Tmp) : cfg215.mu t = List.contains (α := Nat) [] t := (rfl)
theorem ok215 : okFn Tryz.prog cfg215 Tryz.f215 = true := by kernel_rfl
/-- internal/stringslite.IndexByte -/
noncomputable def cfg221 : Cfg := ⟨fun t => List.contains (α := Nat) [] t, fun i => (look (α := List (Nat × Fl)) [] i).getD []⟩
theorem mu221 (t : Tmp) : cfg221.mu t = List.contains (α := Nat) [] t := (rfl)
theorem ok221 : okFn Tryz.prog cfg221 Tryz.f221 = true := by kernel_rfl
/-- strconv.toError -/
noncomputable def cfg226 : Cfg := ⟨fun t => List.contains (α := Nat) [] t, fun i => (look (α := List (Nat × Fl)) [] i).getD []⟩
theorem mu226 (t : Tmp) : cfg226.mu t = List.contains (α := Nat) [] t := (rfl)
theorem ok226 : okFn Tryz.prog cfg226 Tryz.f226 = true := by kernel_rfl
/-- licit/licexpr.CheckForm -/
noncomputable def cfg234 : Cfg := ⟨fun t => List.contains (α := Nat) [] t, fun i => (look (α := List (Nat × Fl)) [] i).getD []⟩
theorem mu234 (t : Tmp) : cfg234.mu t = List.contains (α := Nat) [] t := (rfl)
theorem ok234 : okFn Tryz.prog cfg234 Tryz.f234 = true := by kernel_rfl
/-- slices.IndexFunc[[]licit/api.License,licit/api.License] -/
noncomputable def cfg243 : Cfg := ⟨fun t => List.contains (α := Nat) [] t, fun i => (look (α := List (Nat × Fl)) [] i).getD []⟩
theorem mu243 (t : Tmp) : cfg243.mu t = List.contains (α := Nat) [] t := (rfl)
theorem ok243 : okFn Tryz.prog cfg243 Tryz.f243 = true := by kernel_rfl
/-- strings.IndexByte -/
noncomputable def cfg249 : Cfg := ⟨fun t => List.contains (α := Nat) [] t, fun i => (look (α := List (Nat × Fl)) [] i).getD []⟩
theorem mu249 (t : Tmp) : cfg249.mu t = List.contains (α := Nat) [] t := (rfl)
theorem ok249 : okFn Tryz.prog cfg249 Tryz.f249 = true := by kernel_rfl
/-- strconv.baseError -/
noncomputable def cfg256 : Cfg := ⟨fun t => List.contains (α := Nat) [] t, fun i => (look (α := List (Nat × Fl)) [] i).getD []⟩
theorem mu256 (t : Tmp) : cfg256.mu t = List.contains (α := Nat) [] t := (rfl)
theorem ok256 : okFn Tryz.prog cfg256 Tryz.f256 = true := by kernel_rfl
/-- licit/licexpr.Depth -/
noncomputable def cfg261 : Cfg := ⟨fun t => List.contains (α := Nat) [] t, fun i => (look (α := List (Nat × Fl)) [] i).getD []⟩
theorem mu261 (t : Tmp) : cfg261.mu t = List.contains (α := Nat) [] t := (rfl)
theorem ok261 : okFn Tryz.prog cfg261 Tryz.f261 = true := by kernel_rfl
/-- internal/strconv.ParseUint -/
noncomputable def cfg277 : Cfg := ⟨fun t => List.contains (α := Nat) [] t, fun i => (look (α := List (Nat × Fl)) [] i).getD []⟩
theorem mu277 (t : Tmp) : cfg277.mu t = List.contains (α := Nat) [] t := (rfl)
theorem ok277 : okFn Tryz.prog cfg277 Tryz.f277 = true := by kernel_rfl
/-- internal/strconv.lower -/
noncomputable def cfg289 : Cfg := ⟨fun t => List.contains (α := Nat) [] t, fun i => (look (α := List (Nat × Fl)) [] i).getD []⟩
theorem mu289 (t : Tmp) : cfg289.mu t = List.contains (α := Nat) [] t := (rfl)
theorem ok289 : okFn Tryz.prog cfg289 Tryz.f289 = true := by kernel_rfl
end Go.V
namespace Go.V
open Go.Proofs
/-- licit/licitlaw44.NoticeReturns -/
noncomputable def cfg5 : Cfg := ⟨fun t => List.contains (α := Nat) [] t, fun i => (look (α := List (Nat × Fl)) [] i).getD []⟩
theorem mu5 (t : Tmp) : cfg5.mu t = List.contains (α := Nat) [] t := (rfl)
theorem ok5 : okFn Tryz.prog cfg5 Tryz.f5 = true := by kernel_rfl
/-- licit/notice.Format -/
noncomputable def cfg9 : Cfg := ⟨fun t => List.contains (α := Nat) [] t, fun i => (look (α := List (Nat × Fl)) [] i).getD []⟩
theorem mu9 (t : Tmp) : cfg9.mu t = List.contains (α := Nat) [] t := (rfl)
theorem ok9 : okFn Tryz.prog cfg9 Tryz.f9 = true := by kernel_rfl
/-- licit/notice.Check -/
noncomputable def cfg13 : Cfg := ⟨fun t => List.contains (α := Nat) [] t, fun i => (look (α := List (Nat × Fl)) [] i).getD []⟩
theorem mu13 (t : Tmp) : cfg13.mu t = List.contains (α := Nat) [] t := (rfl)
theorem ok13 : okFn Tryz.prog cfg13 Tryz.f13 = true := by kernel_rfl
/-- licit/licitref44.Parse -/
noncomputable def cfg17 : Cfg := ⟨fun t => List.contains (α := Nat) [] t, fun i => (look (α := List (Nat × Fl)) [] i).getD []⟩
theorem mu17 (t : Tmp) : cfg17.mu t = List.contains (α := Nat) [] t := (rfl)
theorem ok17 : okFn Tryz.prog cfg17 Tryz.f17 = true := by kernel_rfl
/-- slices.Contains[[]string,string] -/
noncomputable def cfg21 : Cfg := ⟨fun t => List.contains (α := Nat) [] t, fun i => (look (α := List (Nat × Fl)) [] i).getD []⟩
theorem mu21 (t : Tmp) : cfg21.mu t = List.contains (α := Nat) [] t := (rfl)
theorem ok21 : okFn Tryz.prog cfg21 Tryz.f21 = true := by kernel_rfl
/-- licit/notice.Missing -/
noncomputable def cfg25 : Cfg := ⟨fun t => List.contains (α := Nat) [] t, fun i => (look (α := List (Nat × Fl)) [] i).getD []⟩
theorem mu25 (t : Tmp) : cfg25.mu t = List.contains (α := Nat) [] t := (rfl)
theorem ok25 : okFn Tryz.prog cfg25 Tryz.f25 = true := by kernel_rfl
/-- strconv.Itoa -/
noncomputable def cfg29 : Cfg := ⟨fun t => List.contains (α := Nat) [] t, fun i => (look (α := List (Nat × Fl)) [] i).getD []⟩
theorem mu29 (t : Tmp) : cfg29.mu t = List.contains (α := Nat) [] t := (rfl)
theorem ok29 : okFn Tryz.prog cfg29 Tryz.f29 = true := by kernel_rfl
/-- licit/notice.sorted[string] -/
noncomputable def cfg33 : Cfg := ⟨fun t => List.contains (α := Nat) [] t, fun i => (look (α := List (Nat × Fl)) [] i).getD []⟩
theorem mu33 (t : Tmp) : cfg33.mu t = List.contains (α := Nat) [] t := (rfl)
theorem ok33 : okFn Tryz.prog cfg33 Tryz.f33 = true := by kernel_rfl
/-- licit/notice.increasing[string] -/
noncomputable def cfg37 : Cfg := ⟨fun t => List.contains (α := Nat) [] t, fun i => (look (α := List (Nat × Fl)) [(7, [(0, .no), (1, .no), (2, .no), (3, .no), (4, .no), (5, .no), (6, .no), (7, .no), (8, .no), (9, .no), (10, .no), (11, .no), (12, .no), (13, .no)])] i).getD []⟩
theorem mu37 (t : Tmp) : cfg37.mu t = List.contains (α := Nat) [] t := (rfl)
theorem ok37 : okFn Tryz.prog cfg37 Tryz.f37 = true := by kernel_rfl
/-- licit/notice.Check$2 -/
noncomputable def cfg41 : Cfg := ⟨fun t => List.contains (α := Nat) [] t, fun i => (look (α := List (Nat × Fl)) [] i).getD []⟩
theorem mu41 (t : Tmp) : cfg41.mu t = List.contains (α := Nat) [] t := (rfl)
theorem ok41 : okFn Tryz.prog cfg41 Tryz.f41 = true := by kernel_rfl
/-- licit/licitref31.Name -/
noncomputable def cfg45 : Cfg := ⟨fun t => List.contains (α := Nat) [] t, fun i => (look (α := List (Nat × Fl)) [] i).getD []⟩
theorem mu45 (t : Tmp) : cfg45.mu t = List.contains (α := Nat) [] t := (rfl)
theorem ok45 : okFn Tryz.prog cfg45 Tryz.f45 = true := by kernel_rfl
/-- licit/licitref31.SameTexts -/
noncomputable def cfg49 : Cfg := ⟨fun t => List.contains (α := Nat) [] t, fun i => (look (α := List (Nat × Fl)) [(6, [(0, .no), (1, .no), (2, .no), (3, .no), (4, .no), (5, .no), (6, .no), (7, .no), (8, .no)])] i).getD []⟩
theorem mu49 (t : Tmp) : cfg49.mu t = List.contains (α := Nat) [] t := (rfl)
theorem ok49 : okFn Tryz.prog cfg49 Tryz.f49 = true := by kernel_rfl
/-- licit/licitref44.license -/
noncomputable def cfg53 : Cfg := ⟨fun t => List.contains (α := Nat) [] t, fun i => (look (α := List (Nat × Fl)) [(10, [(0, .no), (1, .no), (2, .no), (3, .no), (4, .no), (5, .no), (6, .no), (7, .no), (8, .no), (9, .no)])] i).getD []⟩
theorem mu53 (t : Tmp) : cfg53.mu t = List.contains (α := Nat) [] t := (rfl)
theorem ok53 : okFn Tryz.prog cfg53 Tryz.f53 = true := by kernel_rfl
/-- (*licit/catalog.reader).line -/
noncomputable def cfg57 : Cfg := ⟨fun t => List.contains (α := Nat) [] t, fun i => (look (α := List (Nat × Fl)) [] i).getD []⟩
theorem mu57 (t : Tmp) : cfg57.mu t = List.contains (α := Nat) [] t := (rfl)
theorem ok57 : okFn Tryz.prog cfg57 Tryz.f57 = true := by kernel_rfl
/-- slices.SortStableFunc[[]licit/api.Clause,licit/api.Clause] -/
noncomputable def cfg63 : Cfg := ⟨fun t => List.contains (α := Nat) [] t, fun i => (look (α := List (Nat × Fl)) [] i).getD []⟩
theorem mu63 (t : Tmp) : cfg63.mu t = List.contains (α := Nat) [] t := (rfl)
theorem ok63 : okFn Tryz.prog cfg63 Tryz.f63 = true := by kernel_rfl
/-- licit/duty.counted -/
noncomputable def cfg68 : Cfg := ⟨fun t => List.contains (α := Nat) [] t, fun i => (look (α := List (Nat × Fl)) [] i).getD []⟩
theorem mu68 (t : Tmp) : cfg68.mu t = List.contains (α := Nat) [] t := (rfl)
theorem ok68 : okFn Tryz.prog cfg68 Tryz.f68 = true := by kernel_rfl
/-- licit/notice.holders -/
noncomputable def cfg72 : Cfg := ⟨fun t => List.contains (α := Nat) [] t, fun i => (look (α := List (Nat × Fl)) [] i).getD []⟩
theorem mu72 (t : Tmp) : cfg72.mu t = List.contains (α := Nat) [] t := (rfl)
theorem ok72 : okFn Tryz.prog cfg72 Tryz.f72 = true := by kernel_rfl
/-- internal/strconv.Itoa -/
noncomputable def cfg76 : Cfg := ⟨fun t => List.contains (α := Nat) [] t, fun i => (look (α := List (Nat × Fl)) [] i).getD []⟩
theorem mu76 (t : Tmp) : cfg76.mu t = List.contains (α := Nat) [] t := (rfl)
theorem ok76 : okFn Tryz.prog cfg76 Tryz.f76 = true := by kernel_rfl
/-- slices.Grow[[]string,string] -/
noncomputable def cfg80 : Cfg := ⟨fun t => List.contains (α := Nat) [22] t, fun i => (look (α := List (Nat × Fl)) [] i).getD []⟩
theorem mu80 (t : Tmp) : cfg80.mu t = List.contains (α := Nat) [22] t := (rfl)
theorem ok80 : okFn Tryz.prog cfg80 Tryz.f80 = true := by kernel_rfl
/-- licit/tree.Path$1 -/
noncomputable def cfg84 : Cfg := ⟨fun t => List.contains (α := Nat) [] t, fun i => (look (α := List (Nat × Fl)) [] i).getD []⟩
theorem mu84 (t : Tmp) : cfg84.mu t = List.contains (α := Nat) [] t := (rfl)
theorem ok84 : okFn Tryz.prog cfg84 Tryz.f84 = true := by kernel_rfl
/-- licit/licitref03.Part -/
noncomputable def cfg88 : Cfg := ⟨fun t => List.contains (α := Nat) [] t, fun i => (look (α := List (Nat × Fl)) [] i).getD []⟩
theorem mu88 (t : Tmp) : cfg88.mu t = List.contains (α := Nat) [] t := (rfl)
theorem ok88 : okFn Tryz.prog cfg88 Tryz.f88 = true := by kernel_rfl
/-- (*licit/notice.reader).enter -/
noncomputable def cfg92 : Cfg := ⟨fun t => List.contains (α := Nat) [] t, fun i => (look (α := List (Nat × Fl)) [] i).getD []⟩
theorem mu92 (t : Tmp) : cfg92.mu t = List.contains (α := Nat) [] t := (rfl)
theorem ok92 : okFn Tryz.prog cfg92 Tryz.f92 = true := by kernel_rfl
/-- (*licit/catalog.reader).license -/
noncomputable def cfg96 : Cfg := ⟨fun t => List.contains (α := Nat) [] t, fun i => (look (α := List (Nat × Fl)) [(7, [(0, .no), (1, .no), (2, .no), (3, .no), (4, .no), (5, .no), (6, .no), (7, .no), (8, .no), (9, .no), (10, .no), (11, .no)]), (9, [(0, .no), (1, .no), (2, .no), (3, .no), (4, .no), (5, .no), (6, .no), (7, .no), (8, .no), (9, .no), (10, .no), (11, .no), (12, .no), (13, .no), (14, .no), (15, .no), (16, .no)]), (11, [(0, .no), (1, .no), (2, .no), (3, .no), (4, .no), (5, .no), (6, .no), (7, .no), (8, .no), (9, .no), (10, .no), (11, .no), (12, .no), (13, .no), (14, .no), (15, .no), (16, .no), (17, .no), (18, .no), (19, .no), (20, .no)])] i).getD []⟩
theorem mu96 (t : Tmp) : cfg96.mu t = List.contains (α := Nat) [] t := (rfl)
theorem ok96 : okFn Tryz.prog cfg96 Tryz.f96 = true := by kernel_rfl
/-- slices.stableCmpFunc[licit/api.Exception] -/
noncomputable def cfg102 : Cfg := ⟨fun t => List.contains (α := Nat) [] t, fun i => (look (α := List (Nat × Fl)) [] i).getD []⟩
theorem mu102 (t : Tmp) : cfg102.mu t = List.contains (α := Nat) [] t := (rfl)
theorem ok102 : okFn Tryz.prog cfg102 Tryz.f102 = true := by kernel_rfl
/-- slices.stableCmpFunc[licit/api.Apart] -/
noncomputable def cfg106 : Cfg := ⟨fun t => List.contains (α := Nat) [] t, fun i => (look (α := List (Nat × Fl)) [] i).getD []⟩
theorem mu106 (t : Tmp) : cfg106.mu t = List.contains (α := Nat) [] t := (rfl)
theorem ok106 : okFn Tryz.prog cfg106 Tryz.f106 = true := by kernel_rfl
/-- licit/duty.Values -/
noncomputable def cfg112 : Cfg := ⟨fun t => List.contains (α := Nat) [] t, fun i => (look (α := List (Nat × Fl)) [] i).getD []⟩
theorem mu112 (t : Tmp) : cfg112.mu t = List.contains (α := Nat) [] t := (rfl)
theorem ok112 : okFn Tryz.prog cfg112 Tryz.f112 = true := by kernel_rfl
/-- licit/duty.Of -/
noncomputable def cfg116 : Cfg := ⟨fun t => List.contains (α := Nat) [] t, fun i => (look (α := List (Nat × Fl)) [] i).getD []⟩
theorem mu116 (t : Tmp) : cfg116.mu t = List.contains (α := Nat) [] t := (rfl)
theorem ok116 : okFn Tryz.prog cfg116 Tryz.f116 = true := by kernel_rfl
/-- internal/strconv.FormatInt -/
noncomputable def cfg121 : Cfg := ⟨fun t => List.contains (α := Nat) [] t, fun i => (look (α := List (Nat × Fl)) [] i).getD []⟩
theorem mu121 (t : Tmp) : cfg121.mu t = List.contains (α := Nat) [] t := (rfl)
theorem ok121 : okFn Tryz.prog cfg121 Tryz.f121 = true := by kernel_rfl
/-- strings.trimRightByte -/
noncomputable def cfg125 : Cfg := ⟨fun t => List.contains (α := Nat) [] t, fun i => (look (α := List (Nat × Fl)) [] i).getD []⟩
theorem mu125 (t : Tmp) : cfg125.mu t = List.contains (α := Nat) [] t := (rfl)
theorem ok125 : okFn Tryz.prog cfg125 Tryz.f125 = true := by kernel_rfl
/-- strings.trimLeftUnicode -/
noncomputable def cfg129 : Cfg := ⟨fun t => List.contains (α := Nat) [] t, fun i => (look (α := List (Nat × Fl)) [] i).getD []⟩
theorem mu129 (t : Tmp) : cfg129.mu t = List.contains (α := Nat) [] t := (rfl)
theorem ok129 : okFn Tryz.prog cfg129 Tryz.f129 = true := by kernel_rfl
/-- strings.ContainsFunc -/
noncomputable def cfg133 : Cfg := ⟨fun t => List.contains (α := Nat) [] t, fun i => (look (α := List (Nat × Fl)) [] i).getD []⟩
theorem mu133 (t : Tmp) : cfg133.mu t = List.contains (α := Nat) [] t := (rfl)
theorem ok133 : okFn Tryz.prog cfg133 Tryz.f133 = true := by kernel_rfl
/-- strings.Index -/
noncomputable def cfg137 : Cfg := ⟨fun t => List.contains (α := Nat) [] t, fun i => (look (α := List (Nat × Fl)) [] i).getD []⟩
theorem mu137 (t : Tmp) : cfg137.mu t = List.contains (α := Nat) [] t := (rfl)
theorem ok137 : okFn Tryz.prog cfg137 Tryz.f137 = true := by kernel_rfl
/-- licit/catalog.number -/
noncomputable def cfg141 : Cfg := ⟨fun t => List.contains (α := Nat) [] t, fun i => (look (α := List (Nat × Fl)) [(4, [(0, .no), (1, .no), (2, .no), (3, .no), (4, .no)])] i).getD []⟩
theorem mu141 (t : Tmp) : cfg141.mu t = List.contains (α := Nat) [] t := (rfl)
theorem ok141 : okFn Tryz.prog cfg141 Tryz.f141 = true := by kernel_rfl
/-- slices.insertionSortCmpFunc[licit/api.License] -/
noncomputable def cfg145 : Cfg := ⟨fun t => List.contains (α := Nat) [] t, fun i => (look (α := List (Nat × Fl)) [(4, [(0, .no), (1, .no), (2, .no), (3, .no), (4, .no), (5, .no), (6, .no), (7, .no), (8, .no), (9, .no), (10, .no), (11, .no), (12, .no), (13, .no), (14, .no), (15, .no), (16, .no)]), (6, [(0, .no), (1, .no), (2, .no), (3, .no), (4, .no), (5, .no), (6, .no), (7, .no), (8, .no), (9, .no), (10, .no), (11, .no), (12, .no), (13, .no), (14, .no), (15, .no), (16, .no), (17, .no)])] i).getD []⟩
theorem mu145 (t : Tmp) : cfg145.mu t = List.contains (α := Nat) [] t := (rfl)
theorem ok145 : okFn Tryz.prog cfg145 Tryz.f145 = true := by kernel_rfl
/-- slices.insertionSortCmpFunc[licit/api.Apart] -/
noncomputable def cfg152 : Cfg := ⟨fun t => List.contains (α := Nat) [] t, fun i => (look (α := List (Nat × Fl)) [(4, [(0, .no), (1, .no), (2, .no), (3, .no), (4, .no), (5, .no), (6, .no), (7, .no), (8, .no), (9, .no), (10, .no), (11, .no), (12, .no), (13, .no), (14, .no), (15, .no), (16, .no)]), (6, [(0, .no), (1, .no), (2, .no), (3, .no), (4, .no), (5, .no), (6, .no), (7, .no), (8, .no), (9, .no), (10, .no), (11, .no), (12, .no), (13, .no), (14, .no), (15, .no), (16, .no), (17, .no)])] i).getD []⟩
theorem mu152 (t : Tmp) : cfg152.mu t = List.contains (α := Nat) [] t := (rfl)
theorem ok152 : okFn Tryz.prog cfg152 Tryz.f152 = true := by kernel_rfl
/-- licit/catalog.increases[string] -/
noncomputable def cfg160 : Cfg := ⟨fun t => List.contains (α := Nat) [] t, fun i => (look (α := List (Nat × Fl)) [(4, [(0, .no), (1, .no), (2, .no), (3, .no), (4, .no), (5, .no), (6, .no), (7, .no), (8, .no), (9, .no)])] i).getD []⟩
theorem mu160 (t : Tmp) : cfg160.mu t = List.contains (α := Nat) [] t := (rfl)
theorem ok160 : okFn Tryz.prog cfg160 Tryz.f160 = true := by kernel_rfl
/-- licit/duty.CheckChoice -/
noncomputable def cfg164 : Cfg := ⟨fun t => List.contains (α := Nat) [] t, fun i => (look (α := List (Nat × Fl)) [] i).getD []⟩
theorem mu164 (t : Tmp) : cfg164.mu t = List.contains (α := Nat) [] t := (rfl)
theorem ok164 : okFn Tryz.prog cfg164 Tryz.f164 = true := by kernel_rfl
/-- internal/strconv.formatBits -/
noncomputable def cfg169 : Cfg := ⟨fun t => List.contains (α := Nat) [] t, fun i => (look (α := List (Nat × Fl)) [] i).getD []⟩
theorem mu169 (t : Tmp) : cfg169.mu t = List.contains (α := Nat) [] t := (rfl)
theorem ok169 : okFn Tryz.prog cfg169 Tryz.f169 = true := by kernel_rfl
/-- slices.choosePivotOrdered[string] -/
noncomputable def cfg173 : Cfg := ⟨fun t => List.contains (α := Nat) [] t, fun i => (look (α := List (Nat × Fl)) [] i).getD []⟩
theorem mu173 (t : Tmp) : cfg173.mu t = List.contains (α := Nat) [] t := (rfl)
theorem ok173 : okFn Tryz.prog cfg173 Tryz.f173 = true := by kernel_rfl
/-- slices.partitionEqualOrdered[string] -/
noncomputable def cfg177 : Cfg := ⟨fun t => List.contains (α := Nat) [] t, fun i => (look (α := List (Nat × Fl)) [(1, [(0, .no), (1, .no), (2, .no), (3, .no), (4, .no), (5, .no), (6, .no), (7, .no), (8, .no), (9, .no), (10, .no), (11, .no), (12, .no), (13, .no), (14, .no), (15, .no)]), (3, [(0, .no), (1, .no), (2, .no), (3, .no), (4, .no), (5, .no), (6, .no), (7, .no), (8, .no), (9, .no), (10, .no), (11, .no), (12, .no), (13, .no), (14, .no)]), (5, [(0, .no), (1, .no), (2, .no), (3, .no), (4, .no), (5, .no), (6, .no), (7, .no), (8, .no), (9, .no), (10, .no), (11, .no), (12, .no), (13, .no)]), (8, [(0, .no), (1, .no), (2, .no), (3, .no), (4, .no), (5, .no), (6, .no), (7, .no), (8, .no), (9, .no), (10, .no), (11, .no), (12, .no), (13, .no), (14, .no), (15, .no)])] i).getD []⟩
theorem mu177 (t : Tmp) : cfg177.mu t = List.contains (α := Nat) [] t := (rfl)
theorem ok177 : okFn Tryz.prog cfg177 Tryz.f177 = true := by kernel_rfl
/-- (*strings.asciiSet).contains -/
noncomputable def cfg181 : Cfg := ⟨fun t => List.contains (α := Nat) [] t, fun i => (look (α := List (Nat × Fl)) [] i).getD []⟩
theorem mu181 (t : Tmp) : cfg181.mu t = List.contains (α := Nat) [] t := (rfl)
theorem ok181 : okFn Tryz.prog cfg181 Tryz.f181 = true := by kernel_rfl
/-- slices.IndexFunc[[]byte,byte] -/
noncomputable def cfg185 : Cfg := ⟨fun t => List.contains (α := Nat) [] t, fun i => (look (α := List (Nat × Fl)) [] i).getD []⟩
theorem mu185 (t : Tmp) : cfg185.mu t = List.contains (α := Nat) [] t := (rfl)
theorem ok185 : okFn Tryz.prog cfg185 Tryz.f185 = true := by kernel_rfl
/-- (*strings.Builder).Grow -/
noncomputable def cfg191 : Cfg := ⟨fun t => List.contains (α := Nat) [] t, fun i => (look (α := List (Nat × Fl)) [(3, [(0, .no), (1, .no), (2, .no), (3, .no), (5, .no), (6, .no), (7, .no), (8, .st), (9, .no), (11, .no), (4, .no), (10, .no), (12, .no)])] i).getD []⟩
theorem mu191 (t : Tmp) : cfg191.mu t = List.contains (α := Nat) [] t := (rfl)
theorem ok191 : okFn Tryz.prog cfg191 Tryz.f191 = true := by kernel_rfl
/-- slices.ContainsFunc[[]licit/api.Alternative,licit/api.Alternative] -/
noncomputable def cfg200 : Cfg := ⟨fun t => List.contains (α := Nat) [] t, fun i => (look (α := List (Nat × Fl)) [] i).getD []⟩
theorem mu200 (t : Tmp) : cfg200.mu t = List.contains (α := Nat) [] t := (rfl)
theorem ok200 : okFn Tryz.prog cfg200 Tryz.f200 = true := by kernel_rfl
/-- licit/duty.CheckChoice$2 -/
noncomputable def cfg204 : Cfg := ⟨fun t => List.contains (α := Nat) [] t, fun i => (look (α := List (Nat × Fl)) [] i).getD []⟩
theorem mu204 (t : Tmp) : cfg204.mu t = List.contains (α := Nat) [] t := (rfl)
theorem ok204 : okFn Tryz.prog cfg204 Tryz.f204 = true := by kernel_rfl
/-- internal/strconv.log10Pow2 -/
noncomputable def cfg208 : Cfg := ⟨fun t => List.contains (α := Nat) [] t, fun i => (look (α := List (Nat × Fl)) [] i).getD []⟩
theorem mu208 (t : Tmp) : cfg208.mu t = List.contains (α := Nat) [] t := (rfl)
theorem ok208 : okFn Tryz.prog cfg208 Tryz.f208 = true := by kernel_rfl
/-- slices.siftDownOrdered[string] -/
noncomputable def cfg212 : Cfg := ⟨fun t => List.contains (α := Nat) [] t, fun i => (look (α := List (Nat × Fl)) [(3, [(0, .no), (1, .no), (2, .no), (3, .no), (4, .no), (5, .no), (6, .no), (7, .no), (8, .no), (9, .no), (10, .no), (11, .no), (12, .no), (13, .no), (14, .no), (15, .no), (16, .no), (17, .no), (18, .no), (19, .no)]), (5, [(0, .no), (1, .no), (2, .no), (3, .no), (4, .no), (5, .no), (6, .no), (7, .no), (8, .no), (9, .no), (10, .no), (11, .no), (12, .no), (13, .no)]), (6, [(0, .no), (1, .no), (2, .no), (3, .no), (4, .no), (5, .no), (6, .no), (7, .no), (8, .no), (9, .no), (10, .no), (11, .no), (12, .no), (13, .no), (14, .no), (15, .no), (16, .no), (17, .no), (18, .no), (19, .no), (20, .no), (21, .no), (22, .no), (23, .no)])] i).getD []⟩
theorem mu212 (t : Tmp) : cfg212.mu t = List.contains (α := Nat) [] t := (rfl)
theorem ok212 : okFn Tryz.prog cfg212 Tryz.f212 = true := by kernel_rfl
/-- slices.medianOrdered[string] -/
noncomputable def cfg216 : Cfg := ⟨fun t => List.contains (α := Nat) [] t, fun i => (look (α := List (Nat × Fl)) [] i).getD []⟩
theorem mu216 (t : Tmp) : cfg216.mu t = List.contains (α := Nat) [] t := (rfl)
theorem ok216 : okFn Tryz.prog cfg216 Tryz.f216 = true := by kernel_rfl
/-- internal/bytealg.Cutover -/
noncomputable def cfg223 : Cfg := ⟨fun t => List.contains (α := Nat) [] t, fun i => (look (α := List (Nat × Fl)) [] i).getD []⟩
theorem mu223 (t : Tmp) : cfg223.mu t = List.contains (α := Nat) [] t := (rfl)
theorem ok223 : okFn Tryz.prog cfg223 Tryz.f223 = true := by kernel_rfl
/-- (*strings.Builder).grow -/
noncomputable def cfg227 : Cfg := ⟨fun t => List.contains (α := Nat) [] t, fun i => (look (α := List (Nat × Fl)) [(0, [(0, .no), (1, .no), (2, .no), (3, .no), (6, .no), (9, .no), (10, .no), (11, .no), (12, .st), (13, .no), (4, .no), (5, .no), (7, .no), (8, .no), (14, .no), (15, .no)])] i).getD []⟩
theorem mu227 (t : Tmp) : cfg227.mu t = List.contains (α := Nat) [] t := (rfl)
theorem ok227 : okFn Tryz.prog cfg227 Tryz.f227 = true := by kernel_rfl
/-- licit/licexpr.nodes -/
noncomputable def cfg235 : Cfg := ⟨fun t => List.contains (α := Nat) [] t, fun i => (look (α := List (Nat × Fl)) [] i).getD []⟩
theorem mu235 (t : Tmp) : cfg235.mu t = List.contains (α := Nat) [] t := (rfl)
theorem ok235 : okFn Tryz.prog cfg235 Tryz.f235 = true := by kernel_rfl
/-- licit/duty.pairs$1 -/
noncomputable def cfg244 : Cfg := ⟨fun t => List.contains (α := Nat) [] t, fun i => (look (α := List (Nat × Fl)) [] i).getD []⟩
theorem mu244 (t : Tmp) : cfg244.mu t = List.contains (α := Nat) [] t := (rfl)
theorem ok244 : okFn Tryz.prog cfg244 Tryz.f244 = true := by kernel_rfl
/-- unicode/utf8.ValidRune -/
noncomputable def cfg250 : Cfg := ⟨fun t => List.contains (α := Nat) [] t, fun i => (look (α := List (Nat × Fl)) [] i).getD []⟩
theorem mu250 (t : Tmp) : cfg250.mu t = List.contains (α := Nat) [] t := (rfl)
theorem ok250 : okFn Tryz.prog cfg250 Tryz.f250 = true := by kernel_rfl
/-- strconv.bitSizeError -/
noncomputable def cfg257 : Cfg := ⟨fun t => List.contains (α := Nat) [] t, fun i => (look (α := List (Nat × Fl)) [] i).getD []⟩
theorem mu257 (t : Tmp) : cfg257.mu t = List.contains (α := Nat) [] t := (rfl)
theorem ok257 : okFn Tryz.prog cfg257 Tryz.f257 = true := by kernel_rfl
/-- licit/licexpr.checkNode -/
noncomputable def cfg262 : Cfg := ⟨fun t => List.contains (α := Nat) [] t, fun i => (look (α := List (Nat × Fl)) [] i).getD []⟩
theorem mu262 (t : Tmp) : cfg262.mu t = List.contains (α := Nat) [] t := (rfl)
theorem ok262 : okFn Tryz.prog cfg262 Tryz.f262 = true := by kernel_rfl
/-- internal/stringslite.Clone -/
noncomputable def cfg278 : Cfg := ⟨fun t => List.contains (α := Nat) [] t, fun i => (look (α := List (Nat × Fl)) [] i).getD []⟩
theorem mu278 (t : Tmp) : cfg278.mu t = List.contains (α := Nat) [] t := (rfl)
theorem ok278 : okFn Tryz.prog cfg278 Tryz.f278 = true := by kernel_rfl
/-- internal/strconv.underscoreOK -/
noncomputable def cfg290 : Cfg := ⟨fun t => List.contains (α := Nat) [] t, fun i => (look (α := List (Nat × Fl)) [] i).getD []⟩
theorem mu290 (t : Tmp) : cfg290.mu t = List.contains (α := Nat) [] t := (rfl)
theorem ok290 : okFn Tryz.prog cfg290 Tryz.f290 = true := by kernel_rfl
end Go.V
namespace Go.V
open Go.Proofs
/-- licit/licitlaw44.NoticeMerges -/
noncomputable def cfg6 : Cfg := ⟨fun t => List.contains (α := Nat) [] t, fun i => (look (α := List (Nat × Fl)) [] i).getD []⟩
theorem mu6 (t : Tmp) : cfg6.mu t = List.contains (α := Nat) [] t := (rfl)
theorem ok6 : okFn Tryz.prog cfg6 Tryz.f6 = true := by kernel_rfl
/-- licit/licitref44.Format -/
noncomputable def cfg10 : Cfg := ⟨fun t => List.contains (α := Nat) [] t, fun i => (look (α := List (Nat × Fl)) [(9, [(0, .no), (1, .no), (2, .no), (3, .st), (4, .no), (5, .no), (6, .st), (7, .no), (8, .no), (9, .no), (10, .no), (11, .no), (12, .no), (13, .no), (14, .no)])] i).getD []⟩
theorem mu10 (t : Tmp) : cfg10.mu t = List.contains (α := Nat) [] t := (rfl)
theorem ok10 : okFn Tryz.prog cfg10 Tryz.f10 = true := by kernel_rfl
/-- licit/licitref44.Check -/
noncomputable def cfg14 : Cfg := ⟨fun t => List.contains (α := Nat) [] t, fun i => (look (α := List (Nat × Fl)) [(14, [(0, .no), (1, .no), (2, .no), (3, .no), (4, .no), (5, .no), (6, .no), (7, .no), (8, .no), (9, .no), (10, .no), (11, .no), (12, .no), (13, .no), (14, .no), (15, .no)]), (21, [(0, .no), (1, .no), (2, .no), (3, .no), (4, .no), (5, .no), (6, .no), (7, .no), (8, .no), (9, .no), (10, .no), (11, .no), (12, .no), (13, .no), (14, .no), (15, .no)]), (28, [(0, .no), (1, .no), (2, .no), (3, .no), (4, .no), (5, .no), (6, .no), (7, .no), (8, .no), (9, .no), (10, .no), (11, .no), (12, .no), (13, .no), (14, .no), (15, .no)])] i).getD []⟩
theorem mu14 (t : Tmp) : cfg14.mu t = List.contains (α := Nat) [] t := (rfl)
theorem ok14 : okFn Tryz.prog cfg14 Tryz.f14 = true := by kernel_rfl
/-- licit/licitlaw44.NoticeMerges$1 -/
noncomputable def cfg18 : Cfg := ⟨fun t => List.contains (α := Nat) [] t, fun i => (look (α := List (Nat × Fl)) [] i).getD []⟩
theorem mu18 (t : Tmp) : cfg18.mu t = List.contains (α := Nat) [] t := (rfl)
theorem ok18 : okFn Tryz.prog cfg18 Tryz.f18 = true := by kernel_rfl
/-- licit/catalog.Parse -/
noncomputable def cfg22 : Cfg := ⟨fun t => List.contains (α := Nat) [17] t, fun i => (look (α := List (Nat × Fl)) [(7, [(0, .no), (1, .no), (2, .no), (3, .no), (4, .no), (5, .no), (6, .no), (7, .no), (8, .no), (9, .no)])] i).getD []⟩
theorem mu22 (t : Tmp) : cfg22.mu t = List.contains (α := Nat) [17] t := (rfl)
theorem ok22 : okFn Tryz.prog cfg22 Tryz.f22 = true := by kernel_rfl
/-- licit/licitref44.Short -/
noncomputable def cfg26 : Cfg := ⟨fun t => List.contains (α := Nat) [] t, fun i => (look (α := List (Nat × Fl)) [] i).getD []⟩
theorem mu26 (t : Tmp) : cfg26.mu t = List.contains (α := Nat) [] t := (rfl)
theorem ok26 : okFn Tryz.prog cfg26 Tryz.f26 = true := by kernel_rfl
/-- (*strings.Builder).String -/
noncomputable def cfg30 : Cfg := ⟨fun t => List.contains (α := Nat) [] t, fun i => (look (α := List (Nat × Fl)) [(1, [(0, .no), (1, .no), (2, .no), (3, .no), (4, .no), (5, .no), (6, .no), (7, .no), (8, .no), (9, .no), (10, .no), (11, .no)])] i).getD []⟩
theorem mu30 (t : Tmp) : cfg30.mu t = List.contains (α := Nat) [] t := (rfl)
theorem ok30 : okFn Tryz.prog cfg30 Tryz.f30 = true := by kernel_rfl
/-- slices.Concat[[]string,string] -/
noncomputable def cfg34 : Cfg := ⟨fun t => List.contains (α := Nat) [33] t, fun i => (look (α := List (Nat × Fl)) [] i).getD []⟩
theorem mu34 (t : Tmp) : cfg34.mu t = List.contains (α := Nat) [33] t := (rfl)
theorem ok34 : okFn Tryz.prog cfg34 Tryz.f34 = true := by kernel_rfl
/-- licit/notice.Check$1 -/
noncomputable def cfg38 : Cfg := ⟨fun t => List.contains (α := Nat) [] t, fun i => (look (α := List (Nat × Fl)) [] i).getD []⟩
theorem mu38 (t : Tmp) : cfg38.mu t = List.contains (α := Nat) [] t := (rfl)
theorem ok38 : okFn Tryz.prog cfg38 Tryz.f38 = true := by kernel_rfl
/-- licit/header.Write -/
noncomputable def cfg42 : Cfg := ⟨fun t => List.contains (α := Nat) [] t, fun i => (look (α := List (Nat × Fl)) [] i).getD []⟩
theorem mu42 (t : Tmp) : cfg42.mu t = List.contains (α := Nat) [] t := (rfl)
theorem ok42 : okFn Tryz.prog cfg42 Tryz.f42 = true := by kernel_rfl
/-- licit/licitref44.plain -/
noncomputable def cfg46 : Cfg := ⟨fun t => List.contains (α := Nat) [] t, fun i => (look (α := List (Nat × Fl)) [] i).getD []⟩
theorem mu46 (t : Tmp) : cfg46.mu t = List.contains (α := Nat) [] t := (rfl)
theorem ok46 : okFn Tryz.prog cfg46 Tryz.f46 = true := by kernel_rfl
/-- strings.Split -/
noncomputable def cfg50 : Cfg := ⟨fun t => List.contains (α := Nat) [] t, fun i => (look (α := List (Nat × Fl)) [] i).getD []⟩
theorem mu50 (t : Tmp) : cfg50.mu t = List.contains (α := Nat) [] t := (rfl)
theorem ok50 : okFn Tryz.prog cfg50 Tryz.f50 = true := by kernel_rfl
/-- licit/licitref44.begins -/
noncomputable def cfg54 : Cfg := ⟨fun t => List.contains (α := Nat) [] t, fun i => (look (α := List (Nat × Fl)) [] i).getD []⟩
theorem mu54 (t : Tmp) : cfg54.mu t = List.contains (α := Nat) [] t := (rfl)
theorem ok54 : okFn Tryz.prog cfg54 Tryz.f54 = true := by kernel_rfl
/-- slices.SortStableFunc[[]licit/api.License,licit/api.License] -/
noncomputable def cfg58 : Cfg := ⟨fun t => List.contains (α := Nat) [] t, fun i => (look (α := List (Nat × Fl)) [] i).getD []⟩
theorem mu58 (t : Tmp) : cfg58.mu t = List.contains (α := Nat) [] t := (rfl)
theorem ok58 : okFn Tryz.prog cfg58 Tryz.f58 = true := by kernel_rfl
/-- licit/catalog.compareClauses -/
noncomputable def cfg64 : Cfg := ⟨fun t => List.contains (α := Nat) [] t, fun i => (look (α := List (Nat × Fl)) [(1, [(0, .no), (1, .no), (2, .no), (3, .no), (5, .no), (6, .st), (7, .no), (8, .st), (10, .no), (11, .st), (12, .no), (13, .st), (15, .no), (16, .st), (17, .no), (18, .st), (4, .no), (9, .no), (14, .no), (19, .no), (20, .no), (21, .no), (22, .no)])] i).getD []⟩
theorem mu64 (t : Tmp) : cfg64.mu t = List.contains (α := Nat) [] t := (rfl)
theorem ok64 : okFn Tryz.prog cfg64 Tryz.f64 = true := by kernel_rfl
/-- (licit/duty.counter).total -/
noncomputable def cfg69 : Cfg := ⟨fun t => List.contains (α := Nat) [] t, fun i => (look (α := List (Nat × Fl)) [] i).getD []⟩
theorem mu69 (t : Tmp) : cfg69.mu t = List.contains (α := Nat) [] t := (rfl)
theorem ok69 : okFn Tryz.prog cfg69 Tryz.f69 = true := by kernel_rfl
/-- licit/catalog.Find -/
noncomputable def cfg73 : Cfg := ⟨fun t => List.contains (α := Nat) [] t, fun i => (look (α := List (Nat × Fl)) [] i).getD []⟩
theorem mu73 (t : Tmp) : cfg73.mu t = List.contains (α := Nat) [] t := (rfl)
theorem ok73 : okFn Tryz.prog cfg73 Tryz.f73 = true := by kernel_rfl
/-- slices.Clone[[]string,string] -/
noncomputable def cfg77 : Cfg := ⟨fun t => List.contains (α := Nat) [7] t, fun i => (look (α := List (Nat × Fl)) [] i).getD []⟩
theorem mu77 (t : Tmp) : cfg77.mu t = List.contains (α := Nat) [7] t := (rfl)
theorem ok77 : okFn Tryz.prog cfg77 Tryz.f77 = true := by kernel_rfl
/-- strings.Trim -/
noncomputable def cfg81 : Cfg := ⟨fun t => List.contains (α := Nat) [] t, fun i => (look (α := List (Nat × Fl)) [(4, [(0, .no), (1, .no), (2, .no), (4, .no), (5, .no), (3, .no), (6, .no), (7, .no)])] i).getD []⟩
theorem mu81 (t : Tmp) : cfg81.mu t = List.contains (α := Nat) [] t := (rfl)
theorem ok81 : okFn Tryz.prog cfg81 Tryz.f81 = true := by kernel_rfl
/-- licit/tree.part -/
noncomputable def cfg85 : Cfg := ⟨fun t => List.contains (α := Nat) [] t, fun i => (look (α := List (Nat × Fl)) [] i).getD []⟩
theorem mu85 (t : Tmp) : cfg85.mu t = List.contains (α := Nat) [] t := (rfl)
theorem ok85 : okFn Tryz.prog cfg85 Tryz.f85 = true := by kernel_rfl
/-- strings.genSplit -/
noncomputable def cfg89 : Cfg := ⟨fun t => List.contains (α := Nat) [31] t, fun i => (look (α := List (Nat × Fl)) [] i).getD []⟩
theorem mu89 (t : Tmp) : cfg89.mu t = List.contains (α := Nat) [31] t := (rfl)
theorem ok89 : okFn Tryz.prog cfg89 Tryz.f89 = true := by kernel_rfl
/-- licit/licitref31.Number -/
noncomputable def cfg93 : Cfg := ⟨fun t => List.contains (α := Nat) [] t, fun i => (look (α := List (Nat × Fl)) [] i).getD []⟩
theorem mu93 (t : Tmp) : cfg93.mu t = List.contains (α := Nat) [] t := (rfl)
theorem ok93 : okFn Tryz.prog cfg93 Tryz.f93 = true := by kernel_rfl
/-- (*licit/catalog.reader).clause -/
noncomputable def cfg98 : Cfg := ⟨fun t => List.contains (α := Nat) [] t, fun i => (look (α := List (Nat × Fl)) [(3, [(0, .no), (1, .no), (2, .st), (4, .no), (5, .no), (6, .st), (9, .no), (10, .no), (11, .st), (14, .no), (15, .no), (16, .st), (3, .st), (7, .st), (8, .st), (12, .st), (13, .st), (17, .st), (18, .no), (19, .no), (20, .no)]), (6, [(0, .no), (1, .no), (2, .no), (3, .no), (4, .no), (5, .no), (6, .no)]), (7, [(6, .no), (0, .no), (1, .no), (2, .no), (3, .no), (4, .no), (5, .no), (7, .no), (8, .no), (9, .no), (10, .no), (11, .no), (12, .no)])] i).getD []⟩
theorem mu98 (t : Tmp) : cfg98.mu t = List.contains (α := Nat) [] t := (rfl)
theorem ok98 : okFn Tryz.prog cfg98 Tryz.f98 = true := by kernel_rfl
/-- slices.stableCmpFunc[licit/api.Clause] -/
noncomputable def cfg103 : Cfg := ⟨fun t => List.contains (α := Nat) [] t, fun i => (look (α := List (Nat × Fl)) [] i).getD []⟩
theorem mu103 (t : Tmp) : cfg103.mu t = List.contains (α := Nat) [] t := (rfl)
theorem ok103 : okFn Tryz.prog cfg103 Tryz.f103 = true := by kernel_rfl
/-- licit/catalog.checkLicense -/
noncomputable def cfg107 : Cfg := ⟨fun t => List.contains (α := Nat) [] t, fun i => (look (α := List (Nat × Fl)) [(14, [(0, .no), (1, .no), (2, .no), (3, .no), (4, .no), (5, .no), (6, .no), (7, .no), (8, .no), (9, .no), (10, .no), (11, .no), (12, .no)])] i).getD []⟩
theorem mu107 (t : Tmp) : cfg107.mu t = List.contains (α := Nat) [] t := (rfl)
theorem ok107 : okFn Tryz.prog cfg107 Tryz.f107 = true := by kernel_rfl
/-- (licit/duty.counter).radices -/
noncomputable def cfg113 : Cfg := ⟨fun t => List.contains (α := Nat) [] t, fun i => (look (α := List (Nat × Fl)) [] i).getD []⟩
theorem mu113 (t : Tmp) : cfg113.mu t = List.contains (α := Nat) [] t := (rfl)
theorem ok113 : okFn Tryz.prog cfg113 Tryz.f113 = true := by kernel_rfl
/-- slices.IndexFunc[[]licit/api.Conclusion,licit/api.Conclusion] -/
noncomputable def cfg117 : Cfg := ⟨fun t => List.contains (α := Nat) [] t, fun i => (look (α := List (Nat × Fl)) [] i).getD []⟩
theorem mu117 (t : Tmp) : cfg117.mu t = List.contains (α := Nat) [] t := (rfl)
theorem ok117 : okFn Tryz.prog cfg117 Tryz.f117 = true := by kernel_rfl
/-- slices.pdqsortOrdered[string] -/
noncomputable def cfg122 : Cfg := ⟨fun t => List.contains (α := Nat) [] t, fun i => (look (α := List (Nat × Fl)) [(17, [(0, .no), (1, .no), (2, .no), (3, .no), (4, .no), (5, .no), (6, .no), (7, .no), (8, .no), (9, .no), (10, .no), (11, .no), (12, .no), (13, .no), (14, .no)])] i).getD []⟩
theorem mu122 (t : Tmp) : cfg122.mu t = List.contains (α := Nat) [] t := (rfl)
theorem ok122 : okFn Tryz.prog cfg122 Tryz.f122 = true := by kernel_rfl
/-- strings.makeASCIISet -/
noncomputable def cfg126 : Cfg := ⟨fun t => List.contains (α := Nat) [] t, fun i => (look (α := List (Nat × Fl)) [] i).getD []⟩
theorem mu126 (t : Tmp) : cfg126.mu t = List.contains (α := Nat) [] t := (rfl)
theorem ok126 : okFn Tryz.prog cfg126 Tryz.f126 = true := by kernel_rfl
/-- strings.trimRightUnicode -/
noncomputable def cfg130 : Cfg := ⟨fun t => List.contains (α := Nat) [] t, fun i => (look (α := List (Nat × Fl)) [] i).getD []⟩
theorem mu130 (t : Tmp) : cfg130.mu t = List.contains (α := Nat) [] t := (rfl)
theorem ok130 : okFn Tryz.prog cfg130 Tryz.f130 = true := by kernel_rfl
/-- licit/tree.part$1 -/
noncomputable def cfg134 : Cfg := ⟨fun t => List.contains (α := Nat) [] t, fun i => (look (α := List (Nat × Fl)) [] i).getD []⟩
theorem mu134 (t : Tmp) : cfg134.mu t = List.contains (α := Nat) [] t := (rfl)
theorem ok134 : okFn Tryz.prog cfg134 Tryz.f134 = true := by kernel_rfl
/-- internal/stringslite.Cut -/
noncomputable def cfg138 : Cfg := ⟨fun t => List.contains (α := Nat) [] t, fun i => (look (α := List (Nat × Fl)) [(3, [(0, .no), (1, .no), (2, .no), (3, .no), (4, .no), (5, .no), (6, .no), (7, .no), (8, .no), (9, .no), (10, .no), (11, .no)])] i).getD []⟩
theorem mu138 (t : Tmp) : cfg138.mu t = List.contains (α := Nat) [] t := (rfl)
theorem ok138 : okFn Tryz.prog cfg138 Tryz.f138 = true := by kernel_rfl
/-- licit/catalog.dutyWords -/
noncomputable def cfg142 : Cfg := ⟨fun t => List.contains (α := Nat) [] t, fun i => (look (α := List (Nat × Fl)) [] i).getD []⟩
theorem mu142 (t : Tmp) : cfg142.mu t = List.contains (α := Nat) [] t := (rfl)
theorem ok142 : okFn Tryz.prog cfg142 Tryz.f142 = true := by kernel_rfl
/-- slices.insertionSortCmpFunc[licit/api.Exception] -/
noncomputable def cfg147 : Cfg := ⟨fun t => List.contains (α := Nat) [] t, fun i => (look (α := List (Nat × Fl)) [(4, [(0, .no), (1, .no), (2, .no), (3, .no), (4, .no), (5, .no), (6, .no), (7, .no), (8, .no), (9, .no), (10, .no), (11, .no), (12, .no), (13, .no), (14, .no), (15, .no), (16, .no)]), (6, [(0, .no), (1, .no), (2, .no), (3, .no), (4, .no), (5, .no), (6, .no), (7, .no), (8, .no), (9, .no), (10, .no), (11, .no), (12, .no), (13, .no), (14, .no), (15, .no), (16, .no), (17, .no)])] i).getD []⟩
theorem mu147 (t : Tmp) : cfg147.mu t = List.contains (α := Nat) [] t := (rfl)
theorem ok147 : okFn Tryz.prog cfg147 Tryz.f147 = true := by kernel_rfl
/-- licit/catalog.isName -/
noncomputable def cfg154 : Cfg := ⟨fun t => List.contains (α := Nat) [] t, fun i => (look (α := List (Nat × Fl)) [] i).getD []⟩
theorem mu154 (t : Tmp) : cfg154.mu t = List.contains (α := Nat) [] t := (rfl)
theorem ok154 : okFn Tryz.prog cfg154 Tryz.f154 = true := by kernel_rfl
/-- licit/duty.Check -/
noncomputable def cfg161 : Cfg := ⟨fun t => List.contains (α := Nat) [] t, fun i => (look (α := List (Nat × Fl)) [] i).getD []⟩
theorem mu161 (t : Tmp) : cfg161.mu t = List.contains (α := Nat) [] t := (rfl)
theorem ok161 : okFn Tryz.prog cfg161 Tryz.f161 = true := by kernel_rfl
/-- licit/duty.dues -/
noncomputable def cfg165 : Cfg := ⟨fun t => List.contains (α := Nat) [] t, fun i => (look (α := List (Nat × Fl)) [] i).getD []⟩
theorem mu165 (t : Tmp) : cfg165.mu t = List.contains (α := Nat) [] t := (rfl)
theorem ok165 : okFn Tryz.prog cfg165 Tryz.f165 = true := by kernel_rfl
/-- slices.insertionSortOrdered[string] -/
noncomputable def cfg170 : Cfg := ⟨fun t => List.contains (α := Nat) [] t, fun i => (look (α := List (Nat × Fl)) [(4, [(0, .no), (1, .no), (2, .no), (3, .no), (4, .no), (5, .no), (6, .no), (7, .no), (8, .no), (9, .no), (10, .no), (11, .no), (12, .no), (13, .no), (14, .no)]), (6, [(0, .no), (1, .no), (2, .no), (3, .no), (4, .no), (5, .no), (6, .no), (7, .no), (8, .no), (9, .no), (10, .no), (11, .no), (12, .no), (13, .no), (14, .no), (15, .no), (16, .no), (17, .no)])] i).getD []⟩
theorem mu170 (t : Tmp) : cfg170.mu t = List.contains (α := Nat) [] t := (rfl)
theorem ok170 : okFn Tryz.prog cfg170 Tryz.f170 = true := by kernel_rfl
/-- slices.reverseRangeOrdered[string] -/
noncomputable def cfg174 : Cfg := ⟨fun t => List.contains (α := Nat) [] t, fun i => (look (α := List (Nat × Fl)) [(3, [(0, .no), (1, .no), (2, .no), (3, .no), (4, .no), (5, .no), (6, .no), (7, .no), (8, .no), (9, .no), (10, .no), (11, .no), (12, .no), (13, .no), (14, .no), (15, .no)])] i).getD []⟩
theorem mu174 (t : Tmp) : cfg174.mu t = List.contains (α := Nat) [] t := (rfl)
theorem ok174 : okFn Tryz.prog cfg174 Tryz.f174 = true := by kernel_rfl
/-- slices.partitionOrdered[string] -/
noncomputable def cfg178 : Cfg := ⟨fun t => List.contains (α := Nat) [] t, fun i => (look (α := List (Nat × Fl)) [(1, [(0, .no), (1, .no), (2, .no), (3, .no), (4, .no), (5, .no), (6, .no), (7, .no), (8, .no), (9, .no), (10, .no), (11, .no), (12, .no), (13, .no), (14, .no), (15, .no)]), (3, [(0, .no), (1, .no), (2, .no), (3, .no), (4, .no), (5, .no), (6, .no), (7, .no), (8, .no), (9, .no), (10, .no), (11, .no), (12, .no), (13, .no)]), (5, [(0, .no), (1, .no), (2, .no), (3, .no), (4, .no), (5, .no), (6, .no), (7, .no), (8, .no), (9, .no), (10, .no), (11, .no), (12, .no), (13, .no), (14, .no)]), (8, [(0, .no), (1, .no), (2, .no), (3, .no), (4, .no), (5, .no), (6, .no), (7, .no), (8, .no), (9, .no), (10, .no), (11, .no), (12, .no), (13, .no), (14, .no), (15, .no)]), (10, [(0, .no), (1, .no), (2, .no), (3, .no), (4, .no), (5, .no), (6, .no), (7, .no), (8, .no), (9, .no), (10, .no), (11, .no), (12, .no), (13, .no), (14, .no), (15, .no)]), (13, [(0, .no), (1, .no), (2, .no), (3, .no), (4, .no), (5, .no), (6, .no), (7, .no), (8, .no), (9, .no), (10, .no), (11, .no), (12, .no), (13, .no)]), (15, [(0, .no), (1, .no), (2, .no), (3, .no), (4, .no), (5, .no), (6, .no), (7, .no), (8, .no), (9, .no), (10, .no), (11, .no), (12, .no), (13, .no), (14, .no)]), (18, [(0, .no), (1, .no), (2, .no), (3, .no), (4, .no), (5, .no), (6, .no), (7, .no), (8, .no), (9, .no), (10, .no), (11, .no), (12, .no), (13, .no), (14, .no), (15, .no)]), (21, [(0, .no), (1, .no), (2, .no), (3, .no), (4, .no), (5, .no), (6, .no), (7, .no), (8, .no), (9, .no), (10, .no), (11, .no), (12, .no), (13, .no), (14, .no), (15, .no)])] i).getD []⟩
theorem mu178 (t : Tmp) : cfg178.mu t = List.contains (α := Nat) [] t := (rfl)
theorem ok178 : okFn Tryz.prog cfg178 Tryz.f178 = true := by kernel_rfl
/-- unicode/utf8.DecodeRuneInString -/
noncomputable def cfg182 : Cfg := ⟨fun t => List.contains (α := Nat) [] t, fun i => (look (α := List (Nat × Fl)) [] i).getD []⟩
theorem mu182 (t : Tmp) : cfg182.mu t = List.contains (α := Nat) [] t := (rfl)
theorem ok182 : okFn Tryz.prog cfg182 Tryz.f182 = true := by kernel_rfl
/-- strings.IndexFunc -/
noncomputable def cfg186 : Cfg := ⟨fun t => List.contains (α := Nat) [] t, fun i => (look (α := List (Nat × Fl)) [] i).getD []⟩
theorem mu186 (t : Tmp) : cfg186.mu t = List.contains (α := Nat) [] t := (rfl)
theorem ok186 : okFn Tryz.prog cfg186 Tryz.f186 = true := by kernel_rfl
/-- licit/duty.checkFact -/
noncomputable def cfg197 : Cfg := ⟨fun t => List.contains (α := Nat) [] t, fun i => (look (α := List (Nat × Fl)) [(20, [(0, .no), (1, .no), (2, .no), (3, .no), (4, .no), (5, .no), (6, .no), (7, .no), (8, .no), (9, .no), (10, .no), (11, .no)])] i).getD []⟩
theorem mu197 (t : Tmp) : cfg197.mu t = List.contains (α := Nat) [] t := (rfl)
theorem ok197 : okFn Tryz.prog cfg197 Tryz.f197 = true := by kernel_rfl
/-- licit/duty.CheckChoice$1 -/
noncomputable def cfg201 : Cfg := ⟨fun t => List.contains (α := Nat) [] t, fun i => (look (α := List (Nat × Fl)) [] i).getD []⟩
theorem mu201 (t : Tmp) : cfg201.mu t = List.contains (α := Nat) [] t := (rfl)
theorem ok201 : okFn Tryz.prog cfg201 Tryz.f201 = true := by kernel_rfl
/-- licit/duty.dues$1 -/
noncomputable def cfg205 : Cfg := ⟨fun t => List.contains (α := Nat) [] t, fun i => (look (α := List (Nat × Fl)) [] i).getD []⟩
theorem mu205 (t : Tmp) : cfg205.mu t = List.contains (α := Nat) [] t := (rfl)
theorem ok205 : okFn Tryz.prog cfg205 Tryz.f205 = true := by kernel_rfl
/-- internal/strconv.bool2[int] -/
noncomputable def cfg209 : Cfg := ⟨fun t => List.contains (α := Nat) [] t, fun i => (look (α := List (Nat × Fl)) [] i).getD []⟩
theorem mu209 (t : Tmp) : cfg209.mu t = List.contains (α := Nat) [] t := (rfl)
theorem ok209 : okFn Tryz.prog cfg209 Tryz.f209 = true := by kernel_rfl
/-- slices.nextPowerOfTwo -/
noncomputable def cfg213 : Cfg := ⟨fun t => List.contains (α := Nat) [] t, fun i => (look (α := List (Nat × Fl)) [] i).getD []⟩
theorem mu213 (t : Tmp) : cfg213.mu t = List.contains (α := Nat) [] t := (rfl)
theorem ok213 : okFn Tryz.prog cfg213 Tryz.f213 = true := by kernel_rfl
/-- unicode/utf8.RuneStart -/
noncomputable def cfg219 : Cfg := ⟨fun t => List.contains (α := Nat) [] t, fun i => (look (α := List (Nat × Fl)) [] i).getD []⟩
theorem mu219 (t : Tmp) : cfg219.mu t = List.contains (α := Nat) [] t := (rfl)
theorem ok219 : okFn Tryz.prog cfg219 Tryz.f219 = true := by kernel_rfl
/-- internal/bytealg.IndexRabinKarp[string] -/
noncomputable def cfg224 : Cfg := ⟨fun t => List.contains (α := Nat) [] t, fun i => (look (α := List (Nat × Fl)) [] i).getD []⟩
theorem mu224 (t : Tmp) : cfg224.mu t = List.contains (α := Nat) [] t := (rfl)
theorem ok224 : okFn Tryz.prog cfg224 Tryz.f224 = true := by kernel_rfl
/-- licit/duty.uses -/
noncomputable def cfg232 : Cfg := ⟨fun t => List.contains (α := Nat) [] t, fun i => (look (α := List (Nat × Fl)) [] i).getD []⟩
theorem mu232 (t : Tmp) : cfg232.mu t = List.contains (α := Nat) [] t := (rfl)
theorem ok232 : okFn Tryz.prog cfg232 Tryz.f232 = true := by kernel_rfl
/-- licit/catalog.Known -/
noncomputable def cfg236 : Cfg := ⟨fun t => List.contains (α := Nat) [] t, fun i => (look (α := List (Nat × Fl)) [] i).getD []⟩
theorem mu236 (t : Tmp) : cfg236.mu t = List.contains (α := Nat) [] t := (rfl)
theorem ok236 : okFn Tryz.prog cfg236 Tryz.f236 = true := by kernel_rfl
/-- licit/catalog.lifts -/
noncomputable def cfg245 : Cfg := ⟨fun t => List.contains (α := Nat) [] t, fun i => (look (α := List (Nat × Fl)) [] i).getD []⟩
theorem mu245 (t : Tmp) : cfg245.mu t = List.contains (α := Nat) [] t := (rfl)
theorem ok245 : okFn Tryz.prog cfg245 Tryz.f245 = true := by kernel_rfl
/-- internal/bytealg.hashStr[string] -/
noncomputable def cfg252 : Cfg := ⟨fun t => List.contains (α := Nat) [] t, fun i => (look (α := List (Nat × Fl)) [] i).getD []⟩
theorem mu252 (t : Tmp) : cfg252.mu t = List.contains (α := Nat) [] t := (rfl)
theorem ok252 : okFn Tryz.prog cfg252 Tryz.f252 = true := by kernel_rfl
/-- licit/duty.plain -/
noncomputable def cfg259 : Cfg := ⟨fun t => List.contains (α := Nat) [] t, fun i => (look (α := List (Nat × Fl)) [] i).getD []⟩
theorem mu259 (t : Tmp) : cfg259.mu t = List.contains (α := Nat) [] t := (rfl)
theorem ok259 : okFn Tryz.prog cfg259 Tryz.f259 = true := by kernel_rfl
/-- licit/licexpr.nodes$1 -/
noncomputable def cfg263 : Cfg := ⟨fun t => List.contains (α := Nat) [] t, fun i => (look (α := List (Nat × Fl)) [] i).getD []⟩
theorem mu263 (t : Tmp) : cfg263.mu t = List.contains (α := Nat) [] t := (rfl)
theorem ok263 : okFn Tryz.prog cfg263 Tryz.f263 = true := by kernel_rfl
/-- errors.New -/
noncomputable def cfg279 : Cfg := ⟨fun t => List.contains (α := Nat) [] t, fun i => (look (α := List (Nat × Fl)) [] i).getD []⟩
theorem mu279 (t : Tmp) : cfg279.mu t = List.contains (α := Nat) [] t := (rfl)
theorem ok279 : okFn Tryz.prog cfg279 Tryz.f279 = true := by kernel_rfl
end Go.V
namespace Go.V
open Go.Proofs
noncomputable def tab : List (Nat × (Func × Cfg)) := [(7, (Tryz.f7, cfg7)), (9, (Tryz.f9, cfg9)), (11, (Tryz.f11, cfg11)), (13, (Tryz.f13, cfg13)), (15, (Tryz.f15, cfg15)), (16, (Tryz.f16, cfg16)), (19, (Tryz.f19, cfg19)), (21, (Tryz.f21, cfg21)), (22, (Tryz.f22, cfg22)), (23, (Tryz.f23, cfg23)), (24, (Tryz.f24, cfg24)), (25, (Tryz.f25, cfg25)), (27, (Tryz.f27, cfg27)), (28, (Tryz.f28, cfg28)), (29, (Tryz.f29, cfg29)), (30, (Tryz.f30, cfg30)), (33, (Tryz.f33, cfg33)), (34, (Tryz.f34, cfg34)), (37, (Tryz.f37, cfg37)), (38, (Tryz.f38, cfg38)), (39, (Tryz.f39, cfg39)), (40, (Tryz.f40, cfg40)), (41, (Tryz.f41, cfg41)), (42, (Tryz.f42, cfg42)), (44, (Tryz.f44, cfg44)), (49, (Tryz.f49, cfg49)), (50, (Tryz.f50, cfg50)), (51, (Tryz.f51, cfg51)), (55, (Tryz.f55, cfg55)), (56, (Tryz.f56, cfg56)), (57, (Tryz.f57, cfg57)), (58, (Tryz.f58, cfg58)), (60, (Tryz.f60, cfg60)), (61, (Tryz.f61, cfg61)), (63, (Tryz.f63, cfg63)), (64, (Tryz.f64, cfg64)), (65, (Tryz.f65, cfg65)), (67, (Tryz.f67, cfg67)), (68, (Tryz.f68, cfg68)), (69, (Tryz.f69, cfg69)), (70, (Tryz.f70, cfg70)), (71, (Tryz.f71, cfg71)), (72, (Tryz.f72, cfg72)), (73, (Tryz.f73, cfg73)), (74, (Tryz.f74, cfg74)), (75, (Tryz.f75, cfg75)), (76, (Tryz.f76, cfg76)), (77, (Tryz.f77, cfg77)), (78, (Tryz.f78, cfg78)), (79, (Tryz.f79, cfg79)), (80, (Tryz.f80, cfg80)), (82, (Tryz.f82, cfg82)), (83, (Tryz.f83, cfg83)), (84, (Tryz.f84, cfg84)), (85, (Tryz.f85, cfg85)), (89, (Tryz.f89, cfg89)), (90, (Tryz.f90, cfg90)), (91, (Tryz.f91, cfg91)), (92, (Tryz.f92, cfg92)), (94, (Tryz.f94, cfg94)), (95, (Tryz.f95, cfg95)), (96, (Tryz.f96, cfg96)), (98, (Tryz.f98, cfg98)), (100, (Tryz.f100, cfg100)), (101, (Tryz.f101, cfg101)), (102, (Tryz.f102, cfg102)), (103, (Tryz.f103, cfg103)), (104, (Tryz.f104, cfg104)), (105, (Tryz.f105, cfg105)), (106, (Tryz.f106, cfg106)), (107, (Tryz.f107, cfg107)), (108, (Tryz.f108, cfg108)), (110, (Tryz.f110, cfg110)), (112, (Tryz.f112, cfg112)), (113, (Tryz.f113, cfg113)), (114, (Tryz.f114, cfg114)), (115, (Tryz.f115, cfg115)), (116, (Tryz.f116, cfg116)), (117, (Tryz.f117, cfg117)), (118, (Tryz.f118, cfg118)), (119, (Tryz.f119, cfg119)), (121, (Tryz.f121, cfg121)), (122, (Tryz.f122, cfg122)), (123, (Tryz.f123, cfg123)), (131, (Tryz.f131, cfg131)), (132, (Tryz.f132, cfg132)), (133, (Tryz.f133, cfg133)), (134, (Tryz.f134, cfg134)), (136, (Tryz.f136, cfg136)), (138, (Tryz.f138, cfg138)), (139, (Tryz.f139, cfg139)), (140, (Tryz.f140, cfg140)), (141, (Tryz.f141, cfg141)), (142, (Tryz.f142, cfg142)), (143, (Tryz.f143, cfg143)), (144, (Tryz.f144, cfg144)), (145, (Tryz.f145, cfg145)), (147, (Tryz.f147, cfg147)), (149, (Tryz.f149, cfg149)), (151, (Tryz.f151, cfg151)), (152, (Tryz.f152, cfg152)), (154, (Tryz.f154, cfg154)), (155, (Tryz.f155, cfg155)), (158, (Tryz.f158, cfg158)), (160, (Tryz.f160, cfg160)), (161, (Tryz.f161, cfg161)), (162, (Tryz.f162, cfg162)), (163, (Tryz.f163, cfg163)), (164, (Tryz.f164, cfg164)), (165, (Tryz.f165, cfg165)), (166, (Tryz.f166, cfg166)), (170, (Tryz.f170, cfg170)), (176, (Tryz.f176, cfg176)), (180, (Tryz.f180, cfg180)), (185, (Tryz.f185, cfg185)), (186, (Tryz.f186, cfg186)), (190, (Tryz.f190, cfg190)), (197, (Tryz.f197, cfg197)), (198, (Tryz.f198, cfg198)), (199, (Tryz.f199, cfg199)), (200, (Tryz.f200, cfg200)), (201, (Tryz.f201, cfg201)), (202, (Tryz.f202, cfg202)), (203, (Tryz.f203, cfg203)), (204, (Tryz.f204, cfg204)), (205, (Tryz.f205, cfg205)), (206, (Tryz.f206, cfg206)), (207, (Tryz.f207, cfg207)), (220, (Tryz.f220, cfg220)), (225, (Tryz.f225, cfg225)), (232, (Tryz.f232, cfg232)), (233, (Tryz.f233, cfg233)), (234, (Tryz.f234, cfg234)), (235, (Tryz.f235, cfg235)), (236, (Tryz.f236, cfg236)), (242, (Tryz.f242, cfg242)), (243, (Tryz.f243, cfg243)), (244, (Tryz.f244, cfg244)), (245, (Tryz.f245, cfg245)), (259, (Tryz.f259, cfg259)), (260, (Tryz.f260, cfg260)), (261, (Tryz.f261, cfg261)), (262, (Tryz.f262, cfg262)), (263, (Tryz.f263, cfg263)), (264, (Tryz.f264, cfg264)), (280, (Tryz.f280, cfg280))]
theorem tab_ok : GoodTab Tryz.prog tab := ⟨⟨Tryz.func7, ok7⟩, ⟨Tryz.func9, ok9⟩, ⟨Tryz.func11, ok11⟩, ⟨Tryz.func13, ok13⟩, ⟨Tryz.func15, ok15⟩, ⟨Tryz.func16, ok16⟩, ⟨Tryz.func19, ok19⟩, ⟨Tryz.func21, ok21⟩, ⟨Tryz.func22, ok22⟩, ⟨Tryz.func23, ok23⟩, ⟨Tryz.func24, ok24⟩, ⟨Tryz.func25, ok25⟩, ⟨Tryz.func27, ok27⟩, ⟨Tryz.func28, ok28⟩, ⟨Tryz.func29, ok29⟩, ⟨Tryz.func30, ok30⟩, ⟨Tryz.func33, ok33⟩, ⟨Tryz.func34, ok34⟩, ⟨Tryz.func37, ok37⟩, ⟨Tryz.func38, ok38⟩, ⟨Tryz.func39, ok39⟩, ⟨Tryz.func40, ok40⟩, ⟨Tryz.func41, ok41⟩, ⟨Tryz.func42, ok42⟩, ⟨Tryz.func44, ok44⟩, ⟨Tryz.func49, ok49⟩, ⟨Tryz.func50, ok50⟩, ⟨Tryz.func51, ok51⟩, ⟨Tryz.func55, ok55⟩, ⟨Tryz.func56, ok56⟩, ⟨Tryz.func57, ok57⟩, ⟨Tryz.func58, ok58⟩, ⟨Tryz.func60, ok60⟩, ⟨Tryz.func61, ok61⟩, ⟨Tryz.func63, ok63⟩, ⟨Tryz.func64, ok64⟩, ⟨Tryz.func65, ok65⟩, ⟨Tryz.func67, ok67⟩, ⟨Tryz.func68, ok68⟩, ⟨Tryz.func69, ok69⟩, ⟨Tryz.func70, ok70⟩, ⟨Tryz.func71, ok71⟩, ⟨Tryz.func72, ok72⟩, ⟨Tryz.func73, ok73⟩, ⟨Tryz.func74, ok74⟩, ⟨Tryz.func75, ok75⟩, ⟨Tryz.func76, ok76⟩, ⟨Tryz.func77, ok77⟩, ⟨Tryz.func78, ok78⟩, ⟨Tryz.func79, ok79⟩, ⟨Tryz.func80, ok80⟩, ⟨Tryz.func82, ok82⟩, ⟨Tryz.func83, ok83⟩, ⟨Tryz.func84, ok84⟩, ⟨Tryz.func85, ok85⟩, ⟨Tryz.func89, ok89⟩, ⟨Tryz.func90, ok90⟩, ⟨Tryz.func91, ok91⟩, ⟨Tryz.func92, ok92⟩, ⟨Tryz.func94, ok94⟩, ⟨Tryz.func95, ok95⟩, ⟨Tryz.func96, ok96⟩, ⟨Tryz.func98, ok98⟩, ⟨Tryz.func100, ok100⟩, ⟨Tryz.func101, ok101⟩, ⟨Tryz.func102, ok102⟩, ⟨Tryz.func103, ok103⟩, ⟨Tryz.func104, ok104⟩, ⟨Tryz.func105, ok105⟩, ⟨Tryz.func106, ok106⟩, ⟨Tryz.func107, ok107⟩, ⟨Tryz.func108, ok108⟩, ⟨Tryz.func110, ok110⟩, ⟨Tryz.func112, ok112⟩, ⟨Tryz.func113, ok113⟩, ⟨Tryz.func114, ok114⟩, ⟨Tryz.func115, ok115⟩, ⟨Tryz.func116, ok116⟩, ⟨Tryz.func117, ok117⟩, ⟨Tryz.func118, ok118⟩, ⟨Tryz.func119, ok119⟩, ⟨Tryz.func121, ok121⟩, ⟨Tryz.func122, ok122⟩, ⟨Tryz.func123, ok123⟩, ⟨Tryz.func131, ok131⟩, ⟨Tryz.func132, ok132⟩, ⟨Tryz.func133, ok133⟩, ⟨Tryz.func134, ok134⟩, ⟨Tryz.func136, ok136⟩, ⟨Tryz.func138, ok138⟩, ⟨Tryz.func139, ok139⟩, ⟨Tryz.func140, ok140⟩, ⟨Tryz.func141, ok141⟩, ⟨Tryz.func142, ok142⟩, ⟨Tryz.func143, ok143⟩, ⟨Tryz.func144, ok144⟩, ⟨Tryz.func145, ok145⟩, ⟨Tryz.func147, ok147⟩, ⟨Tryz.func149, ok149⟩, ⟨Tryz.func151, ok151⟩, ⟨Tryz.func152, ok152⟩, ⟨Tryz.func154, ok154⟩, ⟨Tryz.func155, ok155⟩, ⟨Tryz.func158, ok158⟩, ⟨Tryz.func160, ok160⟩, ⟨Tryz.func161, ok161⟩, ⟨Tryz.func162, ok162⟩, ⟨Tryz.func163, ok163⟩, ⟨Tryz.func164, ok164⟩, ⟨Tryz.func165, ok165⟩, ⟨Tryz.func166, ok166⟩, ⟨Tryz.func170, ok170⟩, ⟨Tryz.func176, ok176⟩, ⟨Tryz.func180, ok180⟩, ⟨Tryz.func185, ok185⟩, ⟨Tryz.func186, ok186⟩, ⟨Tryz.func190, ok190⟩, ⟨Tryz.func197, ok197⟩, ⟨Tryz.func198, ok198⟩, ⟨Tryz.func199, ok199⟩, ⟨Tryz.func200, ok200⟩, ⟨Tryz.func201, ok201⟩, ⟨Tryz.func202, ok202⟩, ⟨Tryz.func203, ok203⟩, ⟨Tryz.func204, ok204⟩, ⟨Tryz.func205, ok205⟩, ⟨Tryz.func206, ok206⟩, ⟨Tryz.func207, ok207⟩, ⟨Tryz.func220, ok220⟩, ⟨Tryz.func225, ok225⟩, ⟨Tryz.func232, ok232⟩, ⟨Tryz.func233, ok233⟩, ⟨Tryz.func234, ok234⟩, ⟨Tryz.func235, ok235⟩, ⟨Tryz.func236, ok236⟩, ⟨Tryz.func242, ok242⟩, ⟨Tryz.func243, ok243⟩, ⟨Tryz.func244, ok244⟩, ⟨Tryz.func245, ok245⟩, ⟨Tryz.func259, ok259⟩, ⟨Tryz.func260, ok260⟩, ⟨Tryz.func261, ok261⟩, ⟨Tryz.func262, ok262⟩, ⟨Tryz.func263, ok263⟩, ⟨Tryz.func264, ok264⟩, ⟨Tryz.func280, ok280⟩, trivial⟩
theorem mix : Tryz.prog.follows .mixedOrders = true := by kernel_rfl
end Go.V
