/- How the functions of this program are read by the evaluator. No condition. -/
import Derived.Test.YtkifdjnbkkkhlaaGreatDoorVhC
import Derived.KernelRfl
import Derived.Test.YtkifdjnbkkkhlaaGreatDoorProg
set_option linter.unusedSimpArgs false
set_option linter.unusedVariables false
set_option linter.constructorNameAsVariable false
set_option linter.deprecated false
namespace Go.V
open Go.Proofs
/-- licit/licitlaw40.ComplyEmpty -/
noncomputable def cfg3 : Cfg := ⟨fun t => List.contains (α := Nat) [] t, fun i => (look (α := List (Nat × Fl)) [] i).getD []⟩
theorem mu3 (t : Tmp) : cfg3.mu t = List.contains (α := Nat) [] t := (rfl)
theorem ok3 : okFn Tryz.prog cfg3 Tryz.f3 = true := by kernel_rfl
/-- slices.Equal[[]int,int] -/
noncomputable def cfg8 : Cfg := ⟨fun t => List.contains (α := Nat) [] t, fun i => (look (α := List (Nat × Fl)) [(6, [(0, .no), (1, .no), (2, .no), (3, .no), (4, .no), (5, .no), (6, .no), (7, .no), (8, .no)])] i).getD []⟩
theorem mu8 (t : Tmp) : cfg8.mu t = List.contains (α := Nat) [] t := (rfl)
theorem ok8 : okFn Tryz.prog cfg8 Tryz.f8 = true := by kernel_rfl
/-- licit/licitref42.Part -/
noncomputable def cfg12 : Cfg := ⟨fun t => List.contains (α := Nat) [] t, fun i => (look (α := List (Nat × Fl)) [(10, [(0, .no), (1, .no), (2, .no), (3, .no), (4, .no), (5, .no), (6, .no), (7, .no), (8, .no), (9, .no), (10, .no), (11, .no), (12, .no), (13, .no)])] i).getD []⟩
theorem mu12 (t : Tmp) : cfg12.mu t = List.contains (α := Nat) [] t := (rfl)
theorem ok12 : okFn Tryz.prog cfg12 Tryz.f12 = true := by kernel_rfl
/-- licit/comply.Check -/
noncomputable def cfg16 : Cfg := ⟨fun t => List.contains (α := Nat) [] t, fun i => (look (α := List (Nat × Fl)) [] i).getD []⟩
theorem mu16 (t : Tmp) : cfg16.mu t = List.contains (α := Nat) [] t := (rfl)
theorem ok16 : okFn Tryz.prog cfg16 Tryz.f16 = true := by kernel_rfl
/-- (*licit/comply.state).all -/
noncomputable def cfg20 : Cfg := ⟨fun t => List.contains (α := Nat) [] t, fun i => (look (α := List (Nat × Fl)) [] i).getD []⟩
theorem mu20 (t : Tmp) : cfg20.mu t = List.contains (α := Nat) [] t := (rfl)
theorem ok20 : okFn Tryz.prog cfg20 Tryz.f20 = true := by kernel_rfl
/-- slices.Equal[[]string,string] -/
noncomputable def cfg24 : Cfg := ⟨fun t => List.contains (α := Nat) [] t, fun i => (look (α := List (Nat × Fl)) [(6, [(0, .no), (1, .no), (2, .no), (3, .no), (4, .no), (5, .no), (6, .no), (7, .no), (8, .no)])] i).getD []⟩
theorem mu24 (t : Tmp) : cfg24.mu t = List.contains (α := Nat) [] t := (rfl)
theorem ok24 : okFn Tryz.prog cfg24 Tryz.f24 = true := by kernel_rfl
/-- licit/conflict.part -/
noncomputable def cfg28 : Cfg := ⟨fun t => List.contains (α := Nat) [] t, fun i => (look (α := List (Nat × Fl)) [] i).getD []⟩
theorem mu28 (t : Tmp) : cfg28.mu t = List.contains (α := Nat) [] t := (rfl)
theorem ok28 : okFn Tryz.prog cfg28 Tryz.f28 = true := by kernel_rfl
/-- licit/catalog.Parse$1 -/
noncomputable def cfg32 : Cfg := ⟨fun t => List.contains (α := Nat) [] t, fun i => (look (α := List (Nat × Fl)) [] i).getD []⟩
theorem mu32 (t : Tmp) : cfg32.mu t = List.contains (α := Nat) [] t := (rfl)
theorem ok32 : okFn Tryz.prog cfg32 Tryz.f32 = true := by kernel_rfl
/-- slices.SortStableFunc[[]licit/api.Apart,licit/api.Apart] -/
noncomputable def cfg38 : Cfg := ⟨fun t => List.contains (α := Nat) [] t, fun i => (look (α := List (Nat × Fl)) [] i).getD []⟩
theorem mu38 (t : Tmp) : cfg38.mu t = List.contains (α := Nat) [] t := (rfl)
theorem ok38 : okFn Tryz.prog cfg38 Tryz.f38 = true := by kernel_rfl
/-- (licit/duty.counter).choice -/
noncomputable def cfg43 : Cfg := ⟨fun t => List.contains (α := Nat) [16] t, fun i => (look (α := List (Nat × Fl)) [(6, [(0, .no), (1, .no), (2, .no), (3, .no), (4, .no), (5, .no), (6, .no), (7, .no), (8, .no), (9, .no), (10, .no), (11, .no), (12, .no), (13, .no), (14, .no), (15, .no), (16, .no)]), (11, [(0, .no), (1, .st), (2, .no), (3, .no), (4, .no), (5, .no), (6, .no), (7, .no), (8, .no), (9, .no), (10, .no), (11, .no), (12, .no), (13, .no)]), (16, [(0, .no), (1, .no), (2, .no), (3, .no), (4, .no), (5, .no), (6, .no), (7, .no), (8, .no), (9, .no), (10, .no), (11, .no), (12, .no), (13, .no), (14, .no), (15, .no), (16, .no), (17, .no), (18, .no), (19, .no)])] i).getD []⟩
theorem mu43 (t : Tmp) : cfg43.mu t = List.contains (α := Nat) [16] t := (rfl)
theorem ok43 : okFn Tryz.prog cfg43 Tryz.f43 = true := by kernel_rfl
/-- licit/duty.Values -/
noncomputable def cfg47 : Cfg := ⟨fun t => List.contains (α := Nat) [] t, fun i => (look (α := List (Nat × Fl)) [] i).getD []⟩
theorem mu47 (t : Tmp) : cfg47.mu t = List.contains (α := Nat) [] t := (rfl)
theorem ok47 : okFn Tryz.prog cfg47 Tryz.f47 = true := by kernel_rfl
/-- slices.ContainsFunc[[]licit/api.License,licit/api.License] -/
noncomputable def cfg51 : Cfg := ⟨fun t => List.contains (α := Nat) [] t, fun i => (look (α := List (Nat × Fl)) [] i).getD []⟩
theorem mu51 (t : Tmp) : cfg51.mu t = List.contains (α := Nat) [] t := (rfl)
theorem ok51 : okFn Tryz.prog cfg51 Tryz.f51 = true := by kernel_rfl
/-- licit/conflict.rejected -/
noncomputable def cfg55 : Cfg := ⟨fun t => List.contains (α := Nat) [] t, fun i => (look (α := List (Nat × Fl)) [(1, [(0, .st), (1, .no), (2, .no), (3, .st), (4, .st), (5, .no), (6, .no), (7, .no), (8, .no), (9, .no), (10, .no)])] i).getD []⟩
theorem mu55 (t : Tmp) : cfg55.mu t = List.contains (α := Nat) [] t := (rfl)
theorem ok55 : okFn Tryz.prog cfg55 Tryz.f55 = true := by kernel_rfl
/-- licit/conflict.Packing$1 -/
noncomputable def cfg59 : Cfg := ⟨fun t => List.contains (α := Nat) [] t, fun i => (look (α := List (Nat × Fl)) [] i).getD []⟩
theorem mu59 (t : Tmp) : cfg59.mu t = List.contains (α := Nat) [] t := (rfl)
theorem ok59 : okFn Tryz.prog cfg59 Tryz.f59 = true := by kernel_rfl
/-- strings.genSplit -/
noncomputable def cfg64 : Cfg := ⟨fun t => List.contains (α := Nat) [31] t, fun i => (look (α := List (Nat × Fl)) [] i).getD []⟩
theorem mu64 (t : Tmp) : cfg64.mu t = List.contains (α := Nat) [31] t := (rfl)
theorem ok64 : okFn Tryz.prog cfg64 Tryz.f64 = true := by kernel_rfl
/-- (*licit/catalog.reader).clause -/
noncomputable def cfg69 : Cfg := ⟨fun t => List.contains (α := Nat) [] t, fun i => (look (α := List (Nat × Fl)) [(3, [(0, .no), (1, .no), (2, .st), (4, .no), (5, .no), (6, .st), (9, .no), (10, .no), (11, .st), (14, .no), (15, .no), (16, .st), (3, .st), (7, .st), (8, .st), (12, .st), (13, .st), (17, .st), (18, .no), (19, .no), (20, .no)]), (6, [(0, .no), (1, .no), (2, .no), (3, .no), (4, .no), (5, .no), (6, .no)]), (7, [(6, .no), (0, .no), (1, .no), (2, .no), (3, .no), (4, .no), (5, .no), (7, .no), (8, .no), (9, .no), (10, .no), (11, .no), (12, .no)])] i).getD []⟩
theorem mu69 (t : Tmp) : cfg69.mu t = List.contains (α := Nat) [] t := (rfl)
theorem ok69 : okFn Tryz.prog cfg69 Tryz.f69 = true := by kernel_rfl
/-- slices.stableCmpFunc[licit/api.Clause] -/
noncomputable def cfg74 : Cfg := ⟨fun t => List.contains (α := Nat) [] t, fun i => (look (α := List (Nat × Fl)) [] i).getD []⟩
theorem mu74 (t : Tmp) : cfg74.mu t = List.contains (α := Nat) [] t := (rfl)
theorem ok74 : okFn Tryz.prog cfg74 Tryz.f74 = true := by kernel_rfl
/-- licit/catalog.checkLicense -/
noncomputable def cfg78 : Cfg := ⟨fun t => List.contains (α := Nat) [] t, fun i => (look (α := List (Nat × Fl)) [(14, [(0, .no), (1, .no), (2, .no), (3, .no), (4, .no), (5, .no), (6, .no), (7, .no), (8, .no), (9, .no), (10, .no), (11, .no), (12, .no)])] i).getD []⟩
theorem mu78 (t : Tmp) : cfg78.mu t = List.contains (α := Nat) [] t := (rfl)
theorem ok78 : okFn Tryz.prog cfg78 Tryz.f78 = true := by kernel_rfl
/-- slices.Contains[[]int,int] -/
noncomputable def cfg84 : Cfg := ⟨fun t => List.contains (α := Nat) [] t, fun i => (look (α := List (Nat × Fl)) [] i).getD []⟩
theorem mu84 (t : Tmp) : cfg84.mu t = List.contains (α := Nat) [] t := (rfl)
theorem ok84 : okFn Tryz.prog cfg84 Tryz.f84 = true := by kernel_rfl
/-- licit/duty.Check -/
noncomputable def cfg88 : Cfg := ⟨fun t => List.contains (α := Nat) [] t, fun i => (look (α := List (Nat × Fl)) [] i).getD []⟩
theorem mu88 (t : Tmp) : cfg88.mu t = List.contains (α := Nat) [] t := (rfl)
theorem ok88 : okFn Tryz.prog cfg88 Tryz.f88 = true := by kernel_rfl
/-- (*licit/comply.state).violations$1 -/
noncomputable def cfg92 : Cfg := ⟨fun t => List.contains (α := Nat) [] t, fun i => (look (α := List (Nat × Fl)) [] i).getD []⟩
theorem mu92 (t : Tmp) : cfg92.mu t = List.contains (α := Nat) [] t := (rfl)
theorem ok92 : okFn Tryz.prog cfg92 Tryz.f92 = true := by kernel_rfl
/-- slices.Sort[[]int,int] -/
noncomputable def cfg96 : Cfg := ⟨fun t => List.contains (α := Nat) [] t, fun i => (look (α := List (Nat × Fl)) [] i).getD []⟩
theorem mu96 (t : Tmp) : cfg96.mu t = List.contains (α := Nat) [] t := (rfl)
theorem ok96 : okFn Tryz.prog cfg96 Tryz.f96 = true := by kernel_rfl
/-- licit/search.Solve -/
noncomputable def cfg100 : Cfg := ⟨fun t => List.contains (α := Nat) [] t, fun i => (look (α := List (Nat × Fl)) [] i).getD []⟩
theorem mu100 (t : Tmp) : cfg100.mu t = List.contains (α := Nat) [] t := (rfl)
theorem ok100 : okFn Tryz.prog cfg100 Tryz.f100 = true := by kernel_rfl
/-- licit/conflict.own -/
noncomputable def cfg105 : Cfg := ⟨fun t => List.contains (α := Nat) [1] t, fun i => (look (α := List (Nat × Fl)) [(5, [(0, .no), (1, .st), (2, .no), (3, .no), (4, .no), (5, .no), (6, .no), (7, .no), (8, .no), (9, .no), (10, .no)])] i).getD []⟩
theorem mu105 (t : Tmp) : cfg105.mu t = List.contains (α := Nat) [1] t := (rfl)
theorem ok105 : okFn Tryz.prog cfg105 Tryz.f105 = true := by kernel_rfl
/-- licit/catalog.number -/
noncomputable def cfg111 : Cfg := ⟨fun t => List.contains (α := Nat) [] t, fun i => (look (α := List (Nat × Fl)) [(4, [(0, .no), (1, .no), (2, .no), (3, .no), (4, .no)])] i).getD []⟩
theorem mu111 (t : Tmp) : cfg111.mu t = List.contains (α := Nat) [] t := (rfl)
theorem ok111 : okFn Tryz.prog cfg111 Tryz.f111 = true := by kernel_rfl
/-- licit/catalog.relationWords -/
noncomputable def cfg115 : Cfg := ⟨fun t => List.contains (α := Nat) [] t, fun i => (look (α := List (Nat × Fl)) [] i).getD []⟩
theorem mu115 (t : Tmp) : cfg115.mu t = List.contains (α := Nat) [] t := (rfl)
theorem ok115 : okFn Tryz.prog cfg115 Tryz.f115 = true := by kernel_rfl
/-- cmp.isNaN[int] -/
noncomputable def cfg122 : Cfg := ⟨fun t => List.contains (α := Nat) [] t, fun i => (look (α := List (Nat × Fl)) [] i).getD []⟩
theorem mu122 (t : Tmp) : cfg122.mu t = List.contains (α := Nat) [] t := (rfl)
theorem ok122 : okFn Tryz.prog cfg122 Tryz.f122 = true := by kernel_rfl
/-- licit/catalog.isDuty -/
noncomputable def cfg128 : Cfg := ⟨fun t => List.contains (α := Nat) [] t, fun i => (look (α := List (Nat × Fl)) [] i).getD []⟩
theorem mu128 (t : Tmp) : cfg128.mu t = List.contains (α := Nat) [] t := (rfl)
theorem ok128 : okFn Tryz.prog cfg128 Tryz.f128 = true := by kernel_rfl
/-- licit/duty.checkFact -/
noncomputable def cfg133 : Cfg := ⟨fun t => List.contains (α := Nat) [] t, fun i => (look (α := List (Nat × Fl)) [(20, [(0, .no), (1, .no), (2, .no), (3, .no), (4, .no), (5, .no), (6, .no), (7, .no), (8, .no), (9, .no), (10, .no), (11, .no)])] i).getD []⟩
theorem mu133 (t : Tmp) : cfg133.mu t = List.contains (α := Nat) [] t := (rfl)
theorem ok133 : okFn Tryz.prog cfg133 Tryz.f133 = true := by kernel_rfl
/-- (*licit/comply.state).share -/
noncomputable def cfg137 : Cfg := ⟨fun t => List.contains (α := Nat) [] t, fun i => (look (α := List (Nat × Fl)) [(3, [(0, .st), (4, .st), (1, .no), (2, .no), (3, .st), (5, .no), (6, .no), (7, .st), (8, .no), (9, .st), (10, .no), (11, .no), (12, .st), (13, .st), (14, .no), (15, .no), (16, .no), (17, .no), (18, .no), (19, .no)])] i).getD []⟩
theorem mu137 (t : Tmp) : cfg137.mu t = List.contains (α := Nat) [] t := (rfl)
theorem ok137 : okFn Tryz.prog cfg137 Tryz.f137 = true := by kernel_rfl
/-- (*licit/comply.state).none -/
noncomputable def cfg141 : Cfg := ⟨fun t => List.contains (α := Nat) [] t, fun i => (look (α := List (Nat × Fl)) [] i).getD []⟩
theorem mu141 (t : Tmp) : cfg141.mu t = List.contains (α := Nat) [] t := (rfl)
theorem ok141 : okFn Tryz.prog cfg141 Tryz.f141 = true := by kernel_rfl
/-- (*licit/search.space).walk -/
noncomputable def cfg145 : Cfg := ⟨fun t => List.contains (α := Nat) [] t, fun i => (look (α := List (Nat × Fl)) [] i).getD []⟩
theorem mu145 (t : Tmp) : cfg145.mu t = List.contains (α := Nat) [] t := (rfl)
theorem ok145 : okFn Tryz.prog cfg145 Tryz.f145 = true := by kernel_rfl
/-- strconv.Atoi -/
noncomputable def cfg154 : Cfg := ⟨fun t => List.contains (α := Nat) [] t, fun i => (look (α := List (Nat × Fl)) [] i).getD []⟩
theorem mu154 (t : Tmp) : cfg154.mu t = List.contains (α := Nat) [] t := (rfl)
theorem ok154 : okFn Tryz.prog cfg154 Tryz.f154 = true := by kernel_rfl
/-- licit/catalog.Find -/
noncomputable def cfg165 : Cfg := ⟨fun t => List.contains (α := Nat) [] t, fun i => (look (α := List (Nat × Fl)) [] i).getD []⟩
theorem mu165 (t : Tmp) : cfg165.mu t = List.contains (α := Nat) [] t := (rfl)
theorem ok165 : okFn Tryz.prog cfg165 Tryz.f165 = true := by kernel_rfl
/-- (*licit/comply.state).triples -/
noncomputable def cfg174 : Cfg := ⟨fun t => List.contains (α := Nat) [] t, fun i => (look (α := List (Nat × Fl)) [] i).getD []⟩
theorem mu174 (t : Tmp) : cfg174.mu t = List.contains (α := Nat) [] t := (rfl)
theorem ok174 : okFn Tryz.prog cfg174 Tryz.f174 = true := by kernel_rfl
/-- (*licit/comply.state).opposed -/
noncomputable def cfg180 : Cfg := ⟨fun t => List.contains (α := Nat) [] t, fun i => (look (α := List (Nat × Fl)) [(7, [(0, .no), (1, .no), (2, .no), (3, .no), (4, .no), (5, .no), (6, .no), (7, .no), (8, .no)])] i).getD []⟩
theorem mu180 (t : Tmp) : cfg180.mu t = List.contains (α := Nat) [] t := (rfl)
theorem ok180 : okFn Tryz.prog cfg180 Tryz.f180 = true := by kernel_rfl
/-- slices.insertionSortOrdered[int] -/
noncomputable def cfg184 : Cfg := ⟨fun t => List.contains (α := Nat) [] t, fun i => (look (α := List (Nat × Fl)) [(4, [(0, .no), (1, .no), (2, .no), (3, .no), (4, .no), (5, .no), (6, .no), (7, .no), (8, .no), (9, .no), (10, .no), (11, .no), (12, .no), (13, .no), (14, .no)]), (6, [(0, .no), (1, .no), (2, .no), (3, .no), (4, .no), (5, .no), (6, .no), (7, .no), (8, .no), (9, .no), (10, .no), (11, .no), (12, .no), (13, .no), (14, .no), (15, .no), (16, .no), (17, .no)])] i).getD []⟩
theorem mu184 (t : Tmp) : cfg184.mu t = List.contains (α := Nat) [] t := (rfl)
theorem ok184 : okFn Tryz.prog cfg184 Tryz.f184 = true := by kernel_rfl
/-- (*licit/search.space).walk$1 -/
noncomputable def cfg203 : Cfg := ⟨fun t => List.contains (α := Nat) [] t, fun i => (look (α := List (Nat × Fl)) [(3, [(0, .st), (1, .no), (2, .no), (3, .no)])] i).getD []⟩
theorem mu203 (t : Tmp) : cfg203.mu t = List.contains (α := Nat) [] t := (rfl)
theorem ok203 : okFn Tryz.prog cfg203 Tryz.f203 = true := by kernel_rfl
/-- (*licit/search.space).decide -/
noncomputable def cfg207 : Cfg := ⟨fun t => List.contains (α := Nat) [5] t, fun i => (look (α := List (Nat × Fl)) [(1, [(0, .no), (1, .no), (3, .no), (4, .st), (2, .no), (6, .no), (5, .no), (7, .no), (8, .no), (9, .no)]), (3, [(0, .no), (1, .st), (2, .no), (3, .no), (4, .no), (5, .no), (6, .no), (7, .no), (8, .no), (9, .no), (10, .no), (11, .no), (12, .no), (13, .no), (14, .no), (15, .no)]), (4, [(0, .no), (1, .no), (2, .no), (3, .no), (4, .no), (5, .no), (6, .no), (7, .no), (8, .no), (9, .no), (10, .no), (11, .no), (12, .no), (13, .no), (14, .no), (15, .no), (16, .no), (17, .no), (18, .no), (19, .no)])] i).getD []⟩
theorem mu207 (t : Tmp) : cfg207.mu t = List.contains (α := Nat) [5] t := (rfl)
theorem ok207 : okFn Tryz.prog cfg207 Tryz.f207 = true := by kernel_rfl
/-- (*licit/search.space).leaves$1$1 -/
noncomputable def cfg211 : Cfg := ⟨fun t => List.contains (α := Nat) [] t, fun i => (look (α := List (Nat × Fl)) [(7, [(0, .st), (2, .no), (3, .no), (1, .no), (4, .no), (5, .no), (6, .no), (7, .no), (8, .no), (9, .no)])] i).getD []⟩
theorem mu211 (t : Tmp) : cfg211.mu t = List.contains (α := Nat) [] t := (rfl)
theorem ok211 : okFn Tryz.prog cfg211 Tryz.f211 = true := by kernel_rfl
/-- slices.ContainsFunc[[]string,string] -/
noncomputable def cfg234 : Cfg := ⟨fun t => List.contains (α := Nat) [] t, fun i => (look (α := List (Nat × Fl)) [] i).getD []⟩
theorem mu234 (t : Tmp) : cfg234.mu t = List.contains (α := Nat) [] t := (rfl)
theorem ok234 : okFn Tryz.prog cfg234 Tryz.f234 = true := by kernel_rfl
/-- licit/licexpr.Depth -/
noncomputable def cfg238 : Cfg := ⟨fun t => List.contains (α := Nat) [] t, fun i => (look (α := List (Nat × Fl)) [] i).getD []⟩
theorem mu238 (t : Tmp) : cfg238.mu t = List.contains (α := Nat) [] t := (rfl)
theorem ok238 : okFn Tryz.prog cfg238 Tryz.f238 = true := by kernel_rfl
/-- licit/catalog.lifts -/
noncomputable def cfg242 : Cfg := ⟨fun t => List.contains (α := Nat) [] t, fun i => (look (α := List (Nat × Fl)) [] i).getD []⟩
theorem mu242 (t : Tmp) : cfg242.mu t = List.contains (α := Nat) [] t := (rfl)
theorem ok242 : okFn Tryz.prog cfg242 Tryz.f242 = true := by kernel_rfl
/-- licit/catalog.Clauses -/
noncomputable def cfg258 : Cfg := ⟨fun t => List.contains (α := Nat) [] t, fun i => (look (α := List (Nat × Fl)) [] i).getD []⟩
theorem mu258 (t : Tmp) : cfg258.mu t = List.contains (α := Nat) [] t := (rfl)
theorem ok258 : okFn Tryz.prog cfg258 Tryz.f258 = true := by kernel_rfl
/-- strings.ContainsFunc -/
noncomputable def cfg282 : Cfg := ⟨fun t => List.contains (α := Nat) [] t, fun i => (look (α := List (Nat × Fl)) [] i).getD []⟩
theorem mu282 (t : Tmp) : cfg282.mu t = List.contains (α := Nat) [] t := (rfl)
theorem ok282 : okFn Tryz.prog cfg282 Tryz.f282 = true := by kernel_rfl
/-- strings.IndexFunc -/
noncomputable def cfg302 : Cfg := ⟨fun t => List.contains (α := Nat) [] t, fun i => (look (α := List (Nat × Fl)) [] i).getD []⟩
theorem mu302 (t : Tmp) : cfg302.mu t = List.contains (α := Nat) [] t := (rfl)
theorem ok302 : okFn Tryz.prog cfg302 Tryz.f302 = true := by kernel_rfl
end Go.V
namespace Go.V
open Go.Proofs
/-- licit/licitlaw40.awake -/
noncomputable def cfg5 : Cfg := ⟨fun t => List.contains (α := Nat) [] t, fun i => (look (α := List (Nat × Fl)) [(9, [(0, .no), (1, .no), (2, .no), (3, .no), (4, .no), (5, .no), (6, .no), (7, .no), (8, .no), (9, .no), (10, .no), (11, .no), (12, .no), (13, .no), (14, .no), (15, .no), (16, .no), (17, .no), (18, .no), (19, .no), (20, .no), (21, .no), (22, .no), (23, .no), (24, .no), (25, .no), (26, .no), (27, .no), (28, .no), (29, .no), (30, .no), (31, .no), (32, .no), (33, .no), (34, .no), (35, .no), (36, .no), (37, .no), (38, .no), (39, .no), (40, .no), (41, .no), (42, .no), (43, .no), (44, .no), (45, .no), (46, .no), (47, .no), (48, .no), (49, .no), (50, .no), (52, .no), (53, .no), (51, .no), (54, .no), (55, .no), (56, .no), (57, .no), (58, .no), (60, .no), (59, .no), (61, .no), (62, .no), (63, .no), (64, .no), (65, .no), (66, .no), (67, .no)])] i).getD []⟩
theorem mu5 (t : Tmp) : cfg5.mu t = List.contains (α := Nat) [] t := (rfl)
theorem ok5 : okFn Tryz.prog cfg5 Tryz.f5 = true := by kernel_rfl
/-- licit/comply.Complies -/
noncomputable def cfg9 : Cfg := ⟨fun t => List.contains (α := Nat) [] t, fun i => (look (α := List (Nat × Fl)) [] i).getD []⟩
theorem mu9 (t : Tmp) : cfg9.mu t = List.contains (α := Nat) [] t := (rfl)
theorem ok9 : okFn Tryz.prog cfg9 Tryz.f9 = true := by kernel_rfl
/-- licit/catalog.Parse -/
noncomputable def cfg13 : Cfg := ⟨fun t => List.contains (α := Nat) [17] t, fun i => (look (α := List (Nat × Fl)) [(7, [(0, .no), (1, .no), (2, .no), (3, .no), (4, .no), (5, .no), (6, .no), (7, .no), (8, .no), (9, .no)])] i).getD []⟩
theorem mu13 (t : Tmp) : cfg13.mu t = List.contains (α := Nat) [17] t := (rfl)
theorem ok13 : okFn Tryz.prog cfg13 Tryz.f13 = true := by kernel_rfl
/-- slices.Index[[]string,string] -/
noncomputable def cfg17 : Cfg := ⟨fun t => List.contains (α := Nat) [] t, fun i => (look (α := List (Nat × Fl)) [] i).getD []⟩
theorem mu17 (t : Tmp) : cfg17.mu t = List.contains (α := Nat) [] t := (rfl)
theorem ok17 : okFn Tryz.prog cfg17 Tryz.f17 = true := by kernel_rfl
/-- (*licit/comply.state).first -/
noncomputable def cfg21 : Cfg := ⟨fun t => List.contains (α := Nat) [] t, fun i => (look (α := List (Nat × Fl)) [] i).getD []⟩
theorem mu21 (t : Tmp) : cfg21.mu t = List.contains (α := Nat) [] t := (rfl)
theorem ok21 : okFn Tryz.prog cfg21 Tryz.f21 = true := by kernel_rfl
/-- licit/conflict.Check -/
noncomputable def cfg25 : Cfg := ⟨fun t => List.contains (α := Nat) [] t, fun i => (look (α := List (Nat × Fl)) [(10, [(0, .st), (7, .st), (1, .no), (2, .no), (3, .no), (4, .no), (5, .no), (6, .no), (8, .no), (9, .no), (10, .no), (11, .no), (12, .no), (13, .no)])] i).getD []⟩
theorem mu25 (t : Tmp) : cfg25.mu t = List.contains (α := Nat) [] t := (rfl)
theorem ok25 : okFn Tryz.prog cfg25 Tryz.f25 = true := by kernel_rfl
/-- strings.Split -/
noncomputable def cfg29 : Cfg := ⟨fun t => List.contains (α := Nat) [] t, fun i => (look (α := List (Nat × Fl)) [] i).getD []⟩
theorem mu29 (t : Tmp) : cfg29.mu t = List.contains (α := Nat) [] t := (rfl)
theorem ok29 : okFn Tryz.prog cfg29 Tryz.f29 = true := by kernel_rfl
/-- cmp.Compare[string] -/
noncomputable def cfg33 : Cfg := ⟨fun t => List.contains (α := Nat) [] t, fun i => (look (α := List (Nat × Fl)) [] i).getD []⟩
theorem mu33 (t : Tmp) : cfg33.mu t = List.contains (α := Nat) [] t := (rfl)
theorem ok33 : okFn Tryz.prog cfg33 Tryz.f33 = true := by kernel_rfl
/-- licit/catalog.Check -/
noncomputable def cfg40 : Cfg := ⟨fun t => List.contains (α := Nat) [] t, fun i => (look (α := List (Nat × Fl)) [] i).getD []⟩
theorem mu40 (t : Tmp) : cfg40.mu t = List.contains (α := Nat) [] t := (rfl)
theorem ok40 : okFn Tryz.prog cfg40 Tryz.f40 = true := by kernel_rfl
/-- slices.ContainsFunc[[]licit/api.Violation,licit/api.Violation] -/
noncomputable def cfg44 : Cfg := ⟨fun t => List.contains (α := Nat) [] t, fun i => (look (α := List (Nat × Fl)) [] i).getD []⟩
theorem mu44 (t : Tmp) : cfg44.mu t = List.contains (α := Nat) [] t := (rfl)
theorem ok44 : okFn Tryz.prog cfg44 Tryz.f44 = true := by kernel_rfl
/-- slices.ContainsFunc[[]licit/api.Alternative,licit/api.Alternative] -/
noncomputable def cfg48 : Cfg := ⟨fun t => List.contains (α := Nat) [] t, fun i => (look (α := List (Nat × Fl)) [] i).getD []⟩
theorem mu48 (t : Tmp) : cfg48.mu t = List.contains (α := Nat) [] t := (rfl)
theorem ok48 : okFn Tryz.prog cfg48 Tryz.f48 = true := by kernel_rfl
/-- licit/duty.CheckChoice$2 -/
noncomputable def cfg52 : Cfg := ⟨fun t => List.contains (α := Nat) [] t, fun i => (look (α := List (Nat × Fl)) [] i).getD []⟩
theorem mu52 (t : Tmp) : cfg52.mu t = List.contains (α := Nat) [] t := (rfl)
theorem ok52 : okFn Tryz.prog cfg52 Tryz.f52 = true := by kernel_rfl
/-- licit/conflict.all -/
noncomputable def cfg56 : Cfg := ⟨fun t => List.contains (α := Nat) [13] t, fun i => (look (α := List (Nat × Fl)) [] i).getD []⟩
theorem mu56 (t : Tmp) : cfg56.mu t = List.contains (α := Nat) [13] t := (rfl)
theorem ok56 : okFn Tryz.prog cfg56 Tryz.f56 = true := by kernel_rfl
/-- licit/search.Check -/
noncomputable def cfg60 : Cfg := ⟨fun t => List.contains (α := Nat) [] t, fun i => (look (α := List (Nat × Fl)) [] i).getD []⟩
theorem mu60 (t : Tmp) : cfg60.mu t = List.contains (α := Nat) [] t := (rfl)
theorem ok60 : okFn Tryz.prog cfg60 Tryz.f60 = true := by kernel_rfl
/-- slices.DeleteFunc[[]string,string] -/
noncomputable def cfg65 : Cfg := ⟨fun t => List.contains (α := Nat) [] t, fun i => (look (α := List (Nat × Fl)) [] i).getD []⟩
theorem mu65 (t : Tmp) : cfg65.mu t = List.contains (α := Nat) [] t := (rfl)
theorem ok65 : okFn Tryz.prog cfg65 Tryz.f65 = true := by kernel_rfl
/-- slices.stableCmpFunc[licit/api.License] -/
noncomputable def cfg71 : Cfg := ⟨fun t => List.contains (α := Nat) [] t, fun i => (look (α := List (Nat × Fl)) [] i).getD []⟩
theorem mu71 (t : Tmp) : cfg71.mu t = List.contains (α := Nat) [] t := (rfl)
theorem ok71 : okFn Tryz.prog cfg71 Tryz.f71 = true := by kernel_rfl
/-- cmp.Or[int] -/
noncomputable def cfg75 : Cfg := ⟨fun t => List.contains (α := Nat) [] t, fun i => (look (α := List (Nat × Fl)) [] i).getD []⟩
theorem mu75 (t : Tmp) : cfg75.mu t = List.contains (α := Nat) [] t := (rfl)
theorem ok75 : okFn Tryz.prog cfg75 Tryz.f75 = true := by kernel_rfl
/-- licit/catalog.index -/
noncomputable def cfg79 : Cfg := ⟨fun t => List.contains (α := Nat) [] t, fun i => (look (α := List (Nat × Fl)) [] i).getD []⟩
theorem mu79 (t : Tmp) : cfg79.mu t = List.contains (α := Nat) [] t := (rfl)
theorem ok79 : okFn Tryz.prog cfg79 Tryz.f79 = true := by kernel_rfl
/-- slices.Clone[licit/api.Alternative,licit/api.Term] -/
noncomputable def cfg85 : Cfg := ⟨fun t => List.contains (α := Nat) [] t, fun i => (look (α := List (Nat × Fl)) [] i).getD []⟩
theorem mu85 (t : Tmp) : cfg85.mu t = List.contains (α := Nat) [] t := (rfl)
theorem ok85 : okFn Tryz.prog cfg85 Tryz.f85 = true := by kernel_rfl
/-- licit/alternative.Of -/
noncomputable def cfg89 : Cfg := ⟨fun t => List.contains (α := Nat) [] t, fun i => (look (α := List (Nat × Fl)) [] i).getD []⟩
theorem mu89 (t : Tmp) : cfg89.mu t = List.contains (α := Nat) [] t := (rfl)
theorem ok89 : okFn Tryz.prog cfg89 Tryz.f89 = true := by kernel_rfl
/-- (*licit/comply.state).rows -/
noncomputable def cfg93 : Cfg := ⟨fun t => List.contains (α := Nat) [] t, fun i => (look (α := List (Nat × Fl)) [] i).getD []⟩
theorem mu93 (t : Tmp) : cfg93.mu t = List.contains (α := Nat) [] t := (rfl)
theorem ok93 : okFn Tryz.prog cfg93 Tryz.f93 = true := by kernel_rfl
/-- slices.Compact[[]int,int] -/
noncomputable def cfg97 : Cfg := ⟨fun t => List.contains (α := Nat) [] t, fun i => (look (α := List (Nat × Fl)) [(6, [(0, .no), (1, .no), (2, .no), (3, .no), (4, .no), (5, .no), (6, .no), (7, .no), (8, .no), (9, .no)]), (11, [(0, .no), (1, .no), (2, .no), (3, .no), (4, .no), (5, .no), (6, .no), (7, .no), (8, .no), (9, .no)])] i).getD []⟩
theorem mu97 (t : Tmp) : cfg97.mu t = List.contains (α := Nat) [] t := (rfl)
theorem ok97 : okFn Tryz.prog cfg97 Tryz.f97 = true := by kernel_rfl
/-- licit/search.open -/
noncomputable def cfg101 : Cfg := ⟨fun t => List.contains (α := Nat) [] t, fun i => (look (α := List (Nat × Fl)) [] i).getD []⟩
theorem mu101 (t : Tmp) : cfg101.mu t = List.contains (α := Nat) [] t := (rfl)
theorem ok101 : okFn Tryz.prog cfg101 Tryz.f101 = true := by kernel_rfl
/-- slices.Clone[[]string,string] -/
noncomputable def cfg106 : Cfg := ⟨fun t => List.contains (α := Nat) [7] t, fun i => (look (α := List (Nat × Fl)) [] i).getD []⟩
theorem mu106 (t : Tmp) : cfg106.mu t = List.contains (α := Nat) [7] t := (rfl)
theorem ok106 : okFn Tryz.prog cfg106 Tryz.f106 = true := by kernel_rfl
/-- strings.Join -/
noncomputable def cfg112 : Cfg := ⟨fun t => List.contains (α := Nat) [] t, fun i => (look (α := List (Nat × Fl)) [] i).getD []⟩
theorem mu112 (t : Tmp) : cfg112.mu t = List.contains (α := Nat) [] t := (rfl)
theorem ok112 : okFn Tryz.prog cfg112 Tryz.f112 = true := by kernel_rfl
/-- slices.insertionSortCmpFunc[licit/api.License] -/
noncomputable def cfg116 : Cfg := ⟨fun t => List.contains (α := Nat) [] t, fun i => (look (α := List (Nat × Fl)) [(4, [(0, .no), (1, .no), (2, .no), (3, .no), (4, .no), (5, .no), (6, .no), (7, .no), (8, .no), (9, .no), (10, .no), (11, .no), (12, .no), (13, .no), (14, .no), (15, .no), (16, .no)]), (6, [(0, .no), (1, .no), (2, .no), (3, .no), (4, .no), (5, .no), (6, .no), (7, .no), (8, .no), (9, .no), (10, .no), (11, .no), (12, .no), (13, .no), (14, .no), (15, .no), (16, .no), (17, .no)])] i).getD []⟩
theorem mu116 (t : Tmp) : cfg116.mu t = List.contains (α := Nat) [] t := (rfl)
theorem ok116 : okFn Tryz.prog cfg116 Tryz.f116 = true := by kernel_rfl
/-- slices.insertionSortCmpFunc[licit/api.Apart] -/
noncomputable def cfg123 : Cfg := ⟨fun t => List.contains (α := Nat) [] t, fun i => (look (α := List (Nat × Fl)) [(4, [(0, .no), (1, .no), (2, .no), (3, .no), (4, .no), (5, .no), (6, .no), (7, .no), (8, .no), (9, .no), (10, .no), (11, .no), (12, .no), (13, .no), (14, .no), (15, .no), (16, .no)]), (6, [(0, .no), (1, .no), (2, .no), (3, .no), (4, .no), (5, .no), (6, .no), (7, .no), (8, .no), (9, .no), (10, .no), (11, .no), (12, .no), (13, .no), (14, .no), (15, .no), (16, .no), (17, .no)])] i).getD []⟩
theorem mu123 (t : Tmp) : cfg123.mu t = List.contains (α := Nat) [] t := (rfl)
theorem ok123 : okFn Tryz.prog cfg123 Tryz.f123 = true := by kernel_rfl
/-- licit/catalog.increases[string] -/
noncomputable def cfg130 : Cfg := ⟨fun t => List.contains (α := Nat) [] t, fun i => (look (α := List (Nat × Fl)) [(4, [(0, .no), (1, .no), (2, .no), (3, .no), (4, .no), (5, .no), (6, .no), (7, .no), (8, .no), (9, .no)])] i).getD []⟩
theorem mu130 (t : Tmp) : cfg130.mu t = List.contains (α := Nat) [] t := (rfl)
theorem ok130 : okFn Tryz.prog cfg130 Tryz.f130 = true := by kernel_rfl
/-- licit/licexpr.Check -/
noncomputable def cfg134 : Cfg := ⟨fun t => List.contains (α := Nat) [] t, fun i => (look (α := List (Nat × Fl)) [] i).getD []⟩
theorem mu134 (t : Tmp) : cfg134.mu t = List.contains (α := Nat) [] t := (rfl)
theorem ok134 : okFn Tryz.prog cfg134 Tryz.f134 = true := by kernel_rfl
/-- (*licit/comply.state).lack -/
noncomputable def cfg138 : Cfg := ⟨fun t => List.contains (α := Nat) [] t, fun i => (look (α := List (Nat × Fl)) [(6, [(0, .no), (1, .no), (2, .no), (3, .no), (4, .no), (5, .no), (6, .no), (7, .no), (8, .no), (9, .no), (10, .no), (11, .no), (12, .no), (13, .no), (14, .no), (15, .no), (16, .no), (17, .no), (18, .no)])] i).getD []⟩
theorem mu138 (t : Tmp) : cfg138.mu t = List.contains (α := Nat) [] t := (rfl)
theorem ok138 : okFn Tryz.prog cfg138 Tryz.f138 = true := by kernel_rfl
/-- slices.pdqsortOrdered[int] -/
noncomputable def cfg142 : Cfg := ⟨fun t => List.contains (α := Nat) [] t, fun i => (look (α := List (Nat × Fl)) [(17, [(0, .no), (1, .no), (2, .no), (3, .no), (4, .no), (5, .no), (6, .no), (7, .no), (8, .no), (9, .no), (10, .no), (11, .no), (12, .no), (13, .no), (14, .no)])] i).getD []⟩
theorem mu142 (t : Tmp) : cfg142.mu t = List.contains (α := Nat) [] t := (rfl)
theorem ok142 : okFn Tryz.prog cfg142 Tryz.f142 = true := by kernel_rfl
/-- (*licit/search.space).formed -/
noncomputable def cfg146 : Cfg := ⟨fun t => List.contains (α := Nat) [] t, fun i => (look (α := List (Nat × Fl)) [(10, [(0, .no), (1, .no), (2, .no), (3, .no), (4, .no), (5, .st), (6, .no), (7, .no), (8, .no), (9, .no), (10, .no), (11, .no), (12, .no), (13, .no), (14, .no), (15, .no), (16, .no), (17, .no), (18, .no), (19, .st), (20, .no), (21, .no), (22, .no), (23, .no), (24, .no), (25, .no), (26, .no), (27, .no), (28, .no), (29, .no), (30, .no), (31, .no), (32, .no), (33, .no), (34, .no), (35, .no), (36, .no), (37, .no), (38, .no), (39, .no), (40, .no)])] i).getD []⟩
theorem mu146 (t : Tmp) : cfg146.mu t = List.contains (α := Nat) [] t := (rfl)
theorem ok146 : okFn Tryz.prog cfg146 Tryz.f146 = true := by kernel_rfl
/-- licit/duty.uses -/
noncomputable def cfg162 : Cfg := ⟨fun t => List.contains (α := Nat) [] t, fun i => (look (α := List (Nat × Fl)) [] i).getD []⟩
theorem mu162 (t : Tmp) : cfg162.mu t = List.contains (α := Nat) [] t := (rfl)
theorem ok162 : okFn Tryz.prog cfg162 Tryz.f162 = true := by kernel_rfl
/-- licit/licexpr.CheckForm -/
noncomputable def cfg166 : Cfg := ⟨fun t => List.contains (α := Nat) [] t, fun i => (look (α := List (Nat × Fl)) [] i).getD []⟩
theorem mu166 (t : Tmp) : cfg166.mu t = List.contains (α := Nat) [] t := (rfl)
theorem ok166 : okFn Tryz.prog cfg166 Tryz.f166 = true := by kernel_rfl
/-- (*licit/comply.state).has -/
noncomputable def cfg175 : Cfg := ⟨fun t => List.contains (α := Nat) [] t, fun i => (look (α := List (Nat × Fl)) [(1, [(0, .no), (1, .no), (2, .no), (3, .no), (4, .no), (5, .no), (6, .no), (7, .no), (8, .no)]), (4, [(4, .no), (0, .no), (1, .no), (2, .no), (3, .no), (5, .no), (6, .no), (7, .no), (8, .no), (9, .no), (10, .no), (11, .no), (12, .no), (13, .no), (14, .no), (15, .no), (16, .no), (17, .no), (18, .no), (19, .no), (20, .no), (21, .no), (22, .no), (25, .no), (23, .no), (24, .no)])] i).getD []⟩
theorem mu175 (t : Tmp) : cfg175.mu t = List.contains (α := Nat) [] t := (rfl)
theorem ok175 : okFn Tryz.prog cfg175 Tryz.f175 = true := by kernel_rfl
/-- (*licit/comply.state).must$1 -/
noncomputable def cfg181 : Cfg := ⟨fun t => List.contains (α := Nat) [] t, fun i => (look (α := List (Nat × Fl)) [] i).getD []⟩
theorem mu181 (t : Tmp) : cfg181.mu t = List.contains (α := Nat) [] t := (rfl)
theorem ok181 : okFn Tryz.prog cfg181 Tryz.f181 = true := by kernel_rfl
/-- cmp.Less[int] -/
noncomputable def cfg190 : Cfg := ⟨fun t => List.contains (α := Nat) [] t, fun i => (look (α := List (Nat × Fl)) [] i).getD []⟩
theorem mu190 (t : Tmp) : cfg190.mu t = List.contains (α := Nat) [] t := (rfl)
theorem ok190 : okFn Tryz.prog cfg190 Tryz.f190 = true := by kernel_rfl
/-- (*licit/search.space).walk$1$1 -/
noncomputable def cfg204 : Cfg := ⟨fun t => List.contains (α := Nat) [40, 60] t, fun i => (look (α := List (Nat × Fl)) [(2, [(0, .st), (4, .st), (8, .st), (1, .no), (2, .no), (3, .st), (5, .no), (6, .no), (7, .st), (9, .st), (10, .no), (11, .no), (12, .no), (13, .no), (14, .no), (15, .no), (16, .no), (17, .no)]), (4, [(0, .st), (1, .no), (4, .no), (2, .no), (3, .no), (5, .no), (6, .no), (7, .no), (8, .no), (9, .no)]), (9, [(0, .st), (1, .no), (2, .no), (3, .no), (4, .no), (5, .no), (6, .no), (7, .no), (8, .no), (9, .no)]), (13, [(0, .st), (4, .no), (11, .no), (1, .no), (2, .st), (3, .no), (5, .no), (6, .no), (7, .no), (8, .no), (9, .no), (10, .no), (12, .no), (13, .no), (14, .no), (15, .no), (16, .no), (17, .no), (18, .no), (19, .no)]), (14, [(0, .st), (1, .no), (2, .no), (3, .no), (4, .no), (5, .no), (6, .no), (7, .no)])] i).getD []⟩
theorem mu204 (t : Tmp) : cfg204.mu t = List.contains (α := Nat) [40, 60] t := (rfl)
theorem ok204 : okFn Tryz.prog cfg204 Tryz.f204 = true := by kernel_rfl
/-- (*licit/search.space).root -/
noncomputable def cfg208 : Cfg := ⟨fun t => List.contains (α := Nat) [] t, fun i => (look (α := List (Nat × Fl)) [(1, [(0, .no), (1, .no), (2, .no), (3, .st), (4, .no), (5, .no), (6, .no), (7, .no), (8, .no), (9, .st), (10, .no), (11, .no), (12, .no), (13, .no), (14, .no)])] i).getD []⟩
theorem mu208 (t : Tmp) : cfg208.mu t = List.contains (α := Nat) [] t := (rfl)
theorem ok208 : okFn Tryz.prog cfg208 Tryz.f208 = true := by kernel_rfl
/-- (*licit/search.space).decided -/
noncomputable def cfg212 : Cfg := ⟨fun t => List.contains (α := Nat) [] t, fun i => (look (α := List (Nat × Fl)) [(3, [(0, .no), (1, .no), (2, .no), (3, .no), (4, .no), (5, .no), (6, .no), (7, .no), (8, .no), (9, .no), (10, .no), (11, .no), (12, .no)])] i).getD []⟩
theorem mu212 (t : Tmp) : cfg212.mu t = List.contains (α := Nat) [] t := (rfl)
theorem ok212 : okFn Tryz.prog cfg212 Tryz.f212 = true := by kernel_rfl
/-- licit/tree.Path$1 -/
noncomputable def cfg235 : Cfg := ⟨fun t => List.contains (α := Nat) [] t, fun i => (look (α := List (Nat × Fl)) [] i).getD []⟩
theorem mu235 (t : Tmp) : cfg235.mu t = List.contains (α := Nat) [] t := (rfl)
theorem ok235 : okFn Tryz.prog cfg235 Tryz.f235 = true := by kernel_rfl
/-- licit/licexpr.checkNode -/
noncomputable def cfg239 : Cfg := ⟨fun t => List.contains (α := Nat) [] t, fun i => (look (α := List (Nat × Fl)) [] i).getD []⟩
theorem mu239 (t : Tmp) : cfg239.mu t = List.contains (α := Nat) [] t := (rfl)
theorem ok239 : okFn Tryz.prog cfg239 Tryz.f239 = true := by kernel_rfl
/-- (*licit/comply.state).triples$1 -/
noncomputable def cfg255 : Cfg := ⟨fun t => List.contains (α := Nat) [] t, fun i => (look (α := List (Nat × Fl)) [(4, [(0, .no), (4, .no), (1, .no), (2, .no), (3, .no), (5, .no), (6, .no), (7, .no), (8, .no), (9, .no), (10, .no)])] i).getD []⟩
theorem mu255 (t : Tmp) : cfg255.mu t = List.contains (α := Nat) [] t := (rfl)
theorem ok255 : okFn Tryz.prog cfg255 Tryz.f255 = true := by kernel_rfl
/-- (*licit/comply.state).facts$1 -/
noncomputable def cfg259 : Cfg := ⟨fun t => List.contains (α := Nat) [] t, fun i => (look (α := List (Nat × Fl)) [] i).getD []⟩
theorem mu259 (t : Tmp) : cfg259.mu t = List.contains (α := Nat) [] t := (rfl)
theorem ok259 : okFn Tryz.prog cfg259 Tryz.f259 = true := by kernel_rfl
/-- licit/tree.part$1 -/
noncomputable def cfg283 : Cfg := ⟨fun t => List.contains (α := Nat) [] t, fun i => (look (α := List (Nat × Fl)) [] i).getD []⟩
theorem mu283 (t : Tmp) : cfg283.mu t = List.contains (α := Nat) [] t := (rfl)
theorem ok283 : okFn Tryz.prog cfg283 Tryz.f283 = true := by kernel_rfl
/-- slices.Index[[]licit/api.Apart,licit/api.Apart] -/
noncomputable def cfg328 : Cfg := ⟨fun t => List.contains (α := Nat) [] t, fun i => (look (α := List (Nat × Fl)) [(4, [(0, .no), (1, .no), (2, .no), (3, .no), (4, .no), (5, .no)])] i).getD []⟩
theorem mu328 (t : Tmp) : cfg328.mu t = List.contains (α := Nat) [] t := (rfl)
theorem ok328 : okFn Tryz.prog cfg328 Tryz.f328 = true := by kernel_rfl
end Go.V
namespace Go.V
open Go.Proofs
/-- slices.Contains[[]string,string] -/
noncomputable def cfg6 : Cfg := ⟨fun t => List.contains (α := Nat) [] t, fun i => (look (α := List (Nat × Fl)) [] i).getD []⟩
theorem mu6 (t : Tmp) : cfg6.mu t = List.contains (α := Nat) [] t := (rfl)
theorem ok6 : okFn Tryz.prog cfg6 Tryz.f6 = true := by kernel_rfl
/-- licit/licitlaw42.awake -/
noncomputable def cfg10 : Cfg := ⟨fun t => List.contains (α := Nat) [] t, fun i => (look (α := List (Nat × Fl)) [(4, [(0, .st), (1, .no), (2, .no), (3, .st), (4, .no), (5, .no), (6, .no), (7, .no), (8, .no), (9, .no)])] i).getD []⟩
theorem mu10 (t : Tmp) : cfg10.mu t = List.contains (α := Nat) [] t := (rfl)
theorem ok10 : okFn Tryz.prog cfg10 Tryz.f10 = true := by kernel_rfl
/-- licit/duty.Nth -/
noncomputable def cfg14 : Cfg := ⟨fun t => List.contains (α := Nat) [] t, fun i => (look (α := List (Nat × Fl)) [] i).getD []⟩
theorem mu14 (t : Tmp) : cfg14.mu t = List.contains (α := Nat) [] t := (rfl)
theorem ok14 : okFn Tryz.prog cfg14 Tryz.f14 = true := by kernel_rfl
/-- licit/duty.CheckChoice -/
noncomputable def cfg18 : Cfg := ⟨fun t => List.contains (α := Nat) [] t, fun i => (look (α := List (Nat × Fl)) [] i).getD []⟩
theorem mu18 (t : Tmp) : cfg18.mu t = List.contains (α := Nat) [] t := (rfl)
theorem ok18 : okFn Tryz.prog cfg18 Tryz.f18 = true := by kernel_rfl
/-- licit/conflict.Find -/
noncomputable def cfg22 : Cfg := ⟨fun t => List.contains (α := Nat) [] t, fun i => (look (α := List (Nat × Fl)) [(4, [(0, .st), (1, .no), (2, .no), (3, .no), (4, .no), (5, .no)]), (6, [(0, .st), (1, .no), (2, .no), (3, .no), (4, .no), (5, .no), (6, .no)])] i).getD []⟩
theorem mu22 (t : Tmp) : cfg22.mu t = List.contains (α := Nat) [] t := (rfl)
theorem ok22 : okFn Tryz.prog cfg22 Tryz.f22 = true := by kernel_rfl
/-- slices.ContainsFunc[[]int,int] -/
noncomputable def cfg26 : Cfg := ⟨fun t => List.contains (α := Nat) [] t, fun i => (look (α := List (Nat × Fl)) [] i).getD []⟩
theorem mu26 (t : Tmp) : cfg26.mu t = List.contains (α := Nat) [] t := (rfl)
theorem ok26 : okFn Tryz.prog cfg26 Tryz.f26 = true := by kernel_rfl
/-- (*licit/catalog.reader).line -/
noncomputable def cfg30 : Cfg := ⟨fun t => List.contains (α := Nat) [] t, fun i => (look (α := List (Nat × Fl)) [] i).getD []⟩
theorem mu30 (t : Tmp) : cfg30.mu t = List.contains (α := Nat) [] t := (rfl)
theorem ok30 : okFn Tryz.prog cfg30 Tryz.f30 = true := by kernel_rfl
/-- slices.SortStableFunc[[]licit/api.Exception,licit/api.Exception] -/
noncomputable def cfg34 : Cfg := ⟨fun t => List.contains (α := Nat) [] t, fun i => (look (α := List (Nat × Fl)) [] i).getD []⟩
theorem mu34 (t : Tmp) : cfg34.mu t = List.contains (α := Nat) [] t := (rfl)
theorem ok34 : okFn Tryz.prog cfg34 Tryz.f34 = true := by kernel_rfl
/-- licit/duty.counted -/
noncomputable def cfg41 : Cfg := ⟨fun t => List.contains (α := Nat) [] t, fun i => (look (α := List (Nat × Fl)) [] i).getD []⟩
theorem mu41 (t : Tmp) : cfg41.mu t = List.contains (α := Nat) [] t := (rfl)
theorem ok41 : okFn Tryz.prog cfg41 Tryz.f41 = true := by kernel_rfl
/-- licit/comply.Check$1 -/
noncomputable def cfg45 : Cfg := ⟨fun t => List.contains (α := Nat) [] t, fun i => (look (α := List (Nat × Fl)) [] i).getD []⟩
theorem mu45 (t : Tmp) : cfg45.mu t = List.contains (α := Nat) [] t := (rfl)
theorem ok45 : okFn Tryz.prog cfg45 Tryz.f45 = true := by kernel_rfl
/-- licit/duty.CheckChoice$1 -/
noncomputable def cfg49 : Cfg := ⟨fun t => List.contains (α := Nat) [] t, fun i => (look (α := List (Nat × Fl)) [] i).getD []⟩
theorem mu49 (t : Tmp) : cfg49.mu t = List.contains (α := Nat) [] t := (rfl)
theorem ok49 : okFn Tryz.prog cfg49 Tryz.f49 = true := by kernel_rfl
/-- (*licit/comply.state).violations -/
noncomputable def cfg53 : Cfg := ⟨fun t => List.contains (α := Nat) [] t, fun i => (look (α := List (Nat × Fl)) [] i).getD []⟩
theorem mu53 (t : Tmp) : cfg53.mu t = List.contains (α := Nat) [] t := (rfl)
theorem ok53 : okFn Tryz.prog cfg53 Tryz.f53 = true := by kernel_rfl
/-- licit/conflict.shrink -/
noncomputable def cfg57 : Cfg := ⟨fun t => List.contains (α := Nat) [] t, fun i => (look (α := List (Nat × Fl)) [(9, [(0, .st), (1, .no), (2, .no), (3, .st), (4, .st), (5, .no), (6, .no), (7, .no), (8, .no), (9, .no), (10, .no)]), (14, [(0, .st), (1, .no), (2, .no), (3, .no), (4, .st), (5, .st), (6, .st), (7, .no), (8, .no), (9, .no), (10, .no), (11, .no), (12, .no)])] i).getD []⟩
theorem mu57 (t : Tmp) : cfg57.mu t = List.contains (α := Nat) [] t := (rfl)
theorem ok57 : okFn Tryz.prog cfg57 Tryz.f57 = true := by kernel_rfl
/-- slices.IndexFunc[[]int,int] -/
noncomputable def cfg62 : Cfg := ⟨fun t => List.contains (α := Nat) [] t, fun i => (look (α := List (Nat × Fl)) [] i).getD []⟩
theorem mu62 (t : Tmp) : cfg62.mu t = List.contains (α := Nat) [] t := (rfl)
theorem ok62 : okFn Tryz.prog cfg62 Tryz.f62 = true := by kernel_rfl
/-- (*licit/catalog.reader).line$1 -/
noncomputable def cfg66 : Cfg := ⟨fun t => List.contains (α := Nat) [] t, fun i => (look (α := List (Nat × Fl)) [] i).getD []⟩
theorem mu66 (t : Tmp) : cfg66.mu t = List.contains (α := Nat) [] t := (rfl)
theorem ok66 : okFn Tryz.prog cfg66 Tryz.f66 = true := by kernel_rfl
/-- cmp.isNaN[string] -/
noncomputable def cfg72 : Cfg := ⟨fun t => List.contains (α := Nat) [] t, fun i => (look (α := List (Nat × Fl)) [] i).getD []⟩
theorem mu72 (t : Tmp) : cfg72.mu t = List.contains (α := Nat) [] t := (rfl)
theorem ok72 : okFn Tryz.prog cfg72 Tryz.f72 = true := by kernel_rfl
/-- cmp.Compare[int] -/
noncomputable def cfg76 : Cfg := ⟨fun t => List.contains (α := Nat) [] t, fun i => (look (α := List (Nat × Fl)) [] i).getD []⟩
theorem mu76 (t : Tmp) : cfg76.mu t = List.contains (α := Nat) [] t := (rfl)
theorem ok76 : okFn Tryz.prog cfg76 Tryz.f76 = true := by kernel_rfl
/-- licit/catalog.checkClause -/
noncomputable def cfg81 : Cfg := ⟨fun t => List.contains (α := Nat) [] t, fun i => (look (α := List (Nat × Fl)) [(16, [(0, .no), (1, .no), (2, .no), (3, .no), (4, .no), (5, .no), (6, .no), (7, .no), (13, .no), (8, .no), (9, .no), (10, .no), (11, .no), (12, .no), (14, .no), (15, .no), (16, .no), (17, .no)])] i).getD []⟩
theorem mu81 (t : Tmp) : cfg81.mu t = List.contains (α := Nat) [] t := (rfl)
theorem ok81 : okFn Tryz.prog cfg81 Tryz.f81 = true := by kernel_rfl
/-- slices.IndexFunc[[]licit/api.Violation,licit/api.Violation] -/
noncomputable def cfg86 : Cfg := ⟨fun t => List.contains (α := Nat) [] t, fun i => (look (α := List (Nat × Fl)) [] i).getD []⟩
theorem mu86 (t : Tmp) : cfg86.mu t = List.contains (α := Nat) [] t := (rfl)
theorem ok86 : okFn Tryz.prog cfg86 Tryz.f86 = true := by kernel_rfl
/-- slices.IndexFunc[[]licit/api.Alternative,licit/api.Alternative] -/
noncomputable def cfg90 : Cfg := ⟨fun t => List.contains (α := Nat) [] t, fun i => (look (α := List (Nat × Fl)) [] i).getD []⟩
theorem mu90 (t : Tmp) : cfg90.mu t = List.contains (α := Nat) [] t := (rfl)
theorem ok90 : okFn Tryz.prog cfg90 Tryz.f90 = true := by kernel_rfl
/-- (*licit/comply.state).violations$1$1 -/
noncomputable def cfg94 : Cfg := ⟨fun t => List.contains (α := Nat) [16] t, fun i => (look (α := List (Nat × Fl)) [(2, [(0, .st), (1, .no), (2, .st), (3, .no), (4, .no), (5, .no), (6, .no), (7, .no), (8, .no)])] i).getD []⟩
theorem mu94 (t : Tmp) : cfg94.mu t = List.contains (α := Nat) [16] t := (rfl)
theorem ok94 : okFn Tryz.prog cfg94 Tryz.f94 = true := by kernel_rfl
/-- slices.SortFunc[[]licit/api.Violation,licit/api.Violation] -/
noncomputable def cfg98 : Cfg := ⟨fun t => List.contains (α := Nat) [] t, fun i => (look (α := List (Nat × Fl)) [] i).getD []⟩
theorem mu98 (t : Tmp) : cfg98.mu t = List.contains (α := Nat) [] t := (rfl)
theorem ok98 : okFn Tryz.prog cfg98 Tryz.f98 = true := by kernel_rfl
/-- (*licit/search.space).right -/
noncomputable def cfg102 : Cfg := ⟨fun t => List.contains (α := Nat) [] t, fun i => (look (α := List (Nat × Fl)) [(12, [(0, .no), (1, .no), (2, .no), (3, .no), (4, .no), (8, .no), (12, .no), (5, .no), (6, .no), (7, .no), (9, .no), (10, .no), (11, .no), (13, .no), (14, .no), (15, .no), (16, .no), (17, .no)])] i).getD []⟩
theorem mu102 (t : Tmp) : cfg102.mu t = List.contains (α := Nat) [] t := (rfl)
theorem ok102 : okFn Tryz.prog cfg102 Tryz.f102 = true := by kernel_rfl
/-- strings.Count -/
noncomputable def cfg108 : Cfg := ⟨fun t => List.contains (α := Nat) [] t, fun i => (look (α := List (Nat × Fl)) [] i).getD []⟩
theorem mu108 (t : Tmp) : cfg108.mu t = List.contains (α := Nat) [] t := (rfl)
theorem ok108 : okFn Tryz.prog cfg108 Tryz.f108 = true := by kernel_rfl
/-- licit/catalog.dutyWords -/
noncomputable def cfg113 : Cfg := ⟨fun t => List.contains (α := Nat) [] t, fun i => (look (α := List (Nat × Fl)) [] i).getD []⟩
theorem mu113 (t : Tmp) : cfg113.mu t = List.contains (α := Nat) [] t := (rfl)
theorem ok113 : okFn Tryz.prog cfg113 Tryz.f113 = true := by kernel_rfl
/-- slices.insertionSortCmpFunc[licit/api.Exception] -/
noncomputable def cfg118 : Cfg := ⟨fun t => List.contains (α := Nat) [] t, fun i => (look (α := List (Nat × Fl)) [(4, [(0, .no), (1, .no), (2, .no), (3, .no), (4, .no), (5, .no), (6, .no), (7, .no), (8, .no), (9, .no), (10, .no), (11, .no), (12, .no), (13, .no), (14, .no), (15, .no), (16, .no)]), (6, [(0, .no), (1, .no), (2, .no), (3, .no), (4, .no), (5, .no), (6, .no), (7, .no), (8, .no), (9, .no), (10, .no), (11, .no), (12, .no), (13, .no), (14, .no), (15, .no), (16, .no), (17, .no)])] i).getD []⟩
theorem mu118 (t : Tmp) : cfg118.mu t = List.contains (α := Nat) [] t := (rfl)
theorem ok118 : okFn Tryz.prog cfg118 Tryz.f118 = true := by kernel_rfl
/-- licit/catalog.isName -/
noncomputable def cfg125 : Cfg := ⟨fun t => List.contains (α := Nat) [] t, fun i => (look (α := List (Nat × Fl)) [] i).getD []⟩
theorem mu125 (t : Tmp) : cfg125.mu t = List.contains (α := Nat) [] t := (rfl)
theorem ok125 : okFn Tryz.prog cfg125 Tryz.f125 = true := by kernel_rfl
/-- slices.Index[[]int,int] -/
noncomputable def cfg131 : Cfg := ⟨fun t => List.contains (α := Nat) [] t, fun i => (look (α := List (Nat × Fl)) [] i).getD []⟩
theorem mu131 (t : Tmp) : cfg131.mu t = List.contains (α := Nat) [] t := (rfl)
theorem ok131 : okFn Tryz.prog cfg131 Tryz.f131 = true := by kernel_rfl
/-- licit/alternative.meaning -/
noncomputable def cfg135 : Cfg := ⟨fun t => List.contains (α := Nat) [] t, fun i => (look (α := List (Nat × Fl)) [] i).getD []⟩
theorem mu135 (t : Tmp) : cfg135.mu t = List.contains (α := Nat) [] t := (rfl)
theorem ok135 : okFn Tryz.prog cfg135 Tryz.f135 = true := by kernel_rfl
/-- (*licit/comply.state).apart -/
noncomputable def cfg139 : Cfg := ⟨fun t => List.contains (α := Nat) [] t, fun i => (look (α := List (Nat × Fl)) [(3, [(0, .no), (1, .no), (2, .no), (3, .no), (4, .no), (5, .no), (6, .no), (7, .no), (8, .no), (9, .no)]), (6, [(0, .no), (9, .no), (1, .no), (2, .no), (3, .no), (4, .no), (5, .no), (6, .no), (7, .no), (8, .no), (10, .no), (11, .no), (12, .no), (13, .no), (14, .no), (15, .no), (16, .no), (17, .no), (18, .no), (19, .no)]), (7, [(0, .no), (1, .no), (2, .no), (3, .no), (4, .no), (5, .no), (6, .no), (7, .no), (8, .no), (9, .no), (10, .no), (11, .no), (12, .no), (13, .no), (14, .no), (15, .no), (16, .no), (17, .no), (18, .no), (19, .no), (20, .no), (21, .no), (22, .no), (23, .no), (24, .no), (25, .no), (26, .no), (27, .no), (28, .no), (29, .no), (30, .no), (31, .no), (32, .no), (33, .no)]), (8, [(0, .no), (1, .no), (8, .no), (2, .no), (3, .no), (4, .no), (5, .no), (6, .no), (7, .no), (9, .no), (10, .no), (11, .no), (12, .no), (13, .no), (14, .no), (15, .no)])] i).getD []⟩
theorem mu139 (t : Tmp) : cfg139.mu t = List.contains (α := Nat) [] t := (rfl)
theorem ok139 : okFn Tryz.prog cfg139 Tryz.f139 = true := by kernel_rfl
/-- math/bits.Len -/
noncomputable def cfg143 : Cfg := ⟨fun t => List.contains (α := Nat) [] t, fun i => (look (α := List (Nat × Fl)) [] i).getD []⟩
theorem mu143 (t : Tmp) : cfg143.mu t = List.contains (α := Nat) [] t := (rfl)
theorem ok143 : okFn Tryz.prog cfg143 Tryz.f143 = true := by kernel_rfl
/-- (*licit/search.space).leaves -/
noncomputable def cfg147 : Cfg := ⟨fun t => List.contains (α := Nat) [] t, fun i => (look (α := List (Nat × Fl)) [] i).getD []⟩
theorem mu147 (t : Tmp) : cfg147.mu t = List.contains (α := Nat) [] t := (rfl)
theorem ok147 : okFn Tryz.prog cfg147 Tryz.f147 = true := by kernel_rfl
/-- licit/duty.extra -/
noncomputable def cfg163 : Cfg := ⟨fun t => List.contains (α := Nat) [] t, fun i => (look (α := List (Nat × Fl)) [] i).getD []⟩
theorem mu163 (t : Tmp) : cfg163.mu t = List.contains (α := Nat) [] t := (rfl)
theorem ok163 : okFn Tryz.prog cfg163 Tryz.f163 = true := by kernel_rfl
/-- licit/licexpr.nodes -/
noncomputable def cfg167 : Cfg := ⟨fun t => List.contains (α := Nat) [] t, fun i => (look (α := List (Nat × Fl)) [] i).getD []⟩
theorem mu167 (t : Tmp) : cfg167.mu t = List.contains (α := Nat) [] t := (rfl)
theorem ok167 : okFn Tryz.prog cfg167 Tryz.f167 = true := by kernel_rfl
/-- (*licit/comply.state).share$1 -/
noncomputable def cfg177 : Cfg := ⟨fun t => List.contains (α := Nat) [] t, fun i => (look (α := List (Nat × Fl)) [] i).getD []⟩
theorem mu177 (t : Tmp) : cfg177.mu t = List.contains (α := Nat) [] t := (rfl)
theorem ok177 : okFn Tryz.prog cfg177 Tryz.f177 = true := by kernel_rfl
/-- (*licit/comply.state).must$2 -/
noncomputable def cfg182 : Cfg := ⟨fun t => List.contains (α := Nat) [] t, fun i => (look (α := List (Nat × Fl)) [(1, [(2, .no), (6, .no), (0, .no), (1, .no), (3, .no), (4, .no), (5, .no), (7, .no), (8, .no), (9, .no), (10, .no), (11, .no)])] i).getD []⟩
theorem mu182 (t : Tmp) : cfg182.mu t = List.contains (α := Nat) [] t := (rfl)
theorem ok182 : okFn Tryz.prog cfg182 Tryz.f182 = true := by kernel_rfl
/-- math/bits.Len64 -/
noncomputable def cfg194 : Cfg := ⟨fun t => List.contains (α := Nat) [] t, fun i => (look (α := List (Nat × Fl)) [] i).getD []⟩
theorem mu194 (t : Tmp) : cfg194.mu t = List.contains (α := Nat) [] t := (rfl)
theorem ok194 : okFn Tryz.prog cfg194 Tryz.f194 = true := by kernel_rfl
/-- (*licit/search.space).next -/
noncomputable def cfg205 : Cfg := ⟨fun t => List.contains (α := Nat) [] t, fun i => (look (α := List (Nat × Fl)) [] i).getD []⟩
theorem mu205 (t : Tmp) : cfg205.mu t = List.contains (α := Nat) [] t := (rfl)
theorem ok205 : okFn Tryz.prog cfg205 Tryz.f205 = true := by kernel_rfl
/-- (*licit/search.space).count -/
noncomputable def cfg209 : Cfg := ⟨fun t => List.contains (α := Nat) [] t, fun i => (look (α := List (Nat × Fl)) [(1, [(0, .no), (1, .no), (2, .no), (3, .no), (4, .no), (5, .no), (6, .no), (7, .no), (8, .no), (9, .no), (10, .no), (11, .no)])] i).getD []⟩
theorem mu209 (t : Tmp) : cfg209.mu t = List.contains (α := Nat) [] t := (rfl)
theorem ok209 : okFn Tryz.prog cfg209 Tryz.f209 = true := by kernel_rfl
/-- internal/strconv.Atoi -/
noncomputable def cfg225 : Cfg := ⟨fun t => List.contains (α := Nat) [] t, fun i => (look (α := List (Nat × Fl)) [] i).getD []⟩
theorem mu225 (t : Tmp) : cfg225.mu t = List.contains (α := Nat) [] t := (rfl)
theorem ok225 : okFn Tryz.prog cfg225 Tryz.f225 = true := by kernel_rfl
/-- licit/tree.part -/
noncomputable def cfg236 : Cfg := ⟨fun t => List.contains (α := Nat) [] t, fun i => (look (α := List (Nat × Fl)) [] i).getD []⟩
theorem mu236 (t : Tmp) : cfg236.mu t = List.contains (α := Nat) [] t := (rfl)
theorem ok236 : okFn Tryz.prog cfg236 Tryz.f236 = true := by kernel_rfl
/-- licit/licexpr.nodes$1 -/
noncomputable def cfg240 : Cfg := ⟨fun t => List.contains (α := Nat) [] t, fun i => (look (α := List (Nat × Fl)) [] i).getD []⟩
theorem mu240 (t : Tmp) : cfg240.mu t = List.contains (α := Nat) [] t := (rfl)
theorem ok240 : okFn Tryz.prog cfg240 Tryz.f240 = true := by kernel_rfl
/-- (*licit/comply.state).triples$1$1 -/
noncomputable def cfg256 : Cfg := ⟨fun t => List.contains (α := Nat) [] t, fun i => (look (α := List (Nat × Fl)) [] i).getD []⟩
theorem mu256 (t : Tmp) : cfg256.mu t = List.contains (α := Nat) [] t := (rfl)
theorem ok256 : okFn Tryz.prog cfg256 Tryz.f256 = true := by kernel_rfl
/-- licit/catalog.Incompatible -/
noncomputable def cfg260 : Cfg := ⟨fun t => List.contains (α := Nat) [] t, fun i => (look (α := List (Nat × Fl)) [] i).getD []⟩
theorem mu260 (t : Tmp) : cfg260.mu t = List.contains (α := Nat) [] t := (rfl)
theorem ok260 : okFn Tryz.prog cfg260 Tryz.f260 = true := by kernel_rfl
/-- licit/licexpr.isName -/
noncomputable def cfg284 : Cfg := ⟨fun t => List.contains (α := Nat) [] t, fun i => (look (α := List (Nat × Fl)) [] i).getD []⟩
theorem mu284 (t : Tmp) : cfg284.mu t = List.contains (α := Nat) [] t := (rfl)
theorem ok284 : okFn Tryz.prog cfg284 Tryz.f284 = true := by kernel_rfl
/-- strings.indexFunc -/
noncomputable def cfg334 : Cfg := ⟨fun t => List.contains (α := Nat) [] t, fun i => (look (α := List (Nat × Fl)) [] i).getD []⟩
theorem mu334 (t : Tmp) : cfg334.mu t = List.contains (α := Nat) [] t := (rfl)
theorem ok334 : okFn Tryz.prog cfg334 Tryz.f334 = true := by kernel_rfl
end Go.V
namespace Go.V
open Go.Proofs
/-- licit/comply.Violations -/
noncomputable def cfg7 : Cfg := ⟨fun t => List.contains (α := Nat) [] t, fun i => (look (α := List (Nat × Fl)) [] i).getD []⟩
theorem mu7 (t : Tmp) : cfg7.mu t = List.contains (α := Nat) [] t := (rfl)
theorem ok7 : okFn Tryz.prog cfg7 Tryz.f7 = true := by kernel_rfl
/-- licit/conflict.Part -/
noncomputable def cfg11 : Cfg := ⟨fun t => List.contains (α := Nat) [] t, fun i => (look (α := List (Nat × Fl)) [(6, [(0, .no), (1, .no), (2, .no), (3, .no), (4, .no), (5, .no), (6, .no), (7, .no), (8, .no), (9, .no)])] i).getD []⟩
theorem mu11 (t : Tmp) : cfg11.mu t = List.contains (α := Nat) [] t := (rfl)
theorem ok11 : okFn Tryz.prog cfg11 Tryz.f11 = true := by kernel_rfl
/-- licit/comply.First -/
noncomputable def cfg15 : Cfg := ⟨fun t => List.contains (α := Nat) [] t, fun i => (look (α := List (Nat × Fl)) [] i).getD []⟩
theorem mu15 (t : Tmp) : cfg15.mu t = List.contains (α := Nat) [] t := (rfl)
theorem ok15 : okFn Tryz.prog cfg15 Tryz.f15 = true := by kernel_rfl
/-- licit/comply.start -/
noncomputable def cfg19 : Cfg := ⟨fun t => List.contains (α := Nat) [] t, fun i => (look (α := List (Nat × Fl)) [(10, [(0, .no), (1, .no), (2, .no), (3, .no), (4, .no), (5, .no), (6, .no), (7, .no), (8, .no), (9, .no), (10, .no)]), (16, [(0, .no), (1, .no), (2, .no), (3, .no), (4, .no), (5, .no), (6, .no), (7, .no)])] i).getD []⟩
theorem mu19 (t : Tmp) : cfg19.mu t = List.contains (α := Nat) [] t := (rfl)
theorem ok19 : okFn Tryz.prog cfg19 Tryz.f19 = true := by kernel_rfl
/-- licit/conflict.Packing -/
noncomputable def cfg23 : Cfg := ⟨fun t => List.contains (α := Nat) [] t, fun i => (look (α := List (Nat × Fl)) [] i).getD []⟩
theorem mu23 (t : Tmp) : cfg23.mu t = List.contains (α := Nat) [] t := (rfl)
theorem ok23 : okFn Tryz.prog cfg23 Tryz.f23 = true := by kernel_rfl
/-- licit/conflict.Part$1 -/
noncomputable def cfg27 : Cfg := ⟨fun t => List.contains (α := Nat) [] t, fun i => (look (α := List (Nat × Fl)) [] i).getD []⟩
theorem mu27 (t : Tmp) : cfg27.mu t = List.contains (α := Nat) [] t := (rfl)
theorem ok27 : okFn Tryz.prog cfg27 Tryz.f27 = true := by kernel_rfl
/-- slices.SortStableFunc[[]licit/api.License,licit/api.License] -/
noncomputable def cfg31 : Cfg := ⟨fun t => List.contains (α := Nat) [] t, fun i => (look (α := List (Nat × Fl)) [] i).getD []⟩
theorem mu31 (t : Tmp) : cfg31.mu t = List.contains (α := Nat) [] t := (rfl)
theorem ok31 : okFn Tryz.prog cfg31 Tryz.f31 = true := by kernel_rfl
/-- slices.SortStableFunc[[]licit/api.Clause,licit/api.Clause] -/
noncomputable def cfg36 : Cfg := ⟨fun t => List.contains (α := Nat) [] t, fun i => (look (α := List (Nat × Fl)) [] i).getD []⟩
theorem mu36 (t : Tmp) : cfg36.mu t = List.contains (α := Nat) [] t := (rfl)
theorem ok36 : okFn Tryz.prog cfg36 Tryz.f36 = true := by kernel_rfl
/-- (licit/duty.counter).total -/
noncomputable def cfg42 : Cfg := ⟨fun t => List.contains (α := Nat) [] t, fun i => (look (α := List (Nat × Fl)) [] i).getD []⟩
theorem mu42 (t : Tmp) : cfg42.mu t = List.contains (α := Nat) [] t := (rfl)
theorem ok42 : okFn Tryz.prog cfg42 Tryz.f42 = true := by kernel_rfl
/-- licit/comply.equal -/
noncomputable def cfg46 : Cfg := ⟨fun t => List.contains (α := Nat) [] t, fun i => (look (α := List (Nat × Fl)) [] i).getD []⟩
theorem mu46 (t : Tmp) : cfg46.mu t = List.contains (α := Nat) [] t := (rfl)
theorem ok46 : okFn Tryz.prog cfg46 Tryz.f46 = true := by kernel_rfl
/-- slices.Equal[licit/api.Alternative,licit/api.Term] -/
noncomputable def cfg50 : Cfg := ⟨fun t => List.contains (α := Nat) [] t, fun i => (look (α := List (Nat × Fl)) [(6, [(0, .no), (1, .no), (2, .no), (3, .no), (4, .no), (5, .no), (6, .no), (7, .no), (8, .no)])] i).getD []⟩
theorem mu50 (t : Tmp) : cfg50.mu t = List.contains (α := Nat) [] t := (rfl)
theorem ok50 : okFn Tryz.prog cfg50 Tryz.f50 = true := by kernel_rfl
/-- licit/duty.Count -/
noncomputable def cfg54 : Cfg := ⟨fun t => List.contains (α := Nat) [] t, fun i => (look (α := List (Nat × Fl)) [] i).getD []⟩
theorem mu54 (t : Tmp) : cfg54.mu t = List.contains (α := Nat) [] t := (rfl)
theorem ok54 : okFn Tryz.prog cfg54 Tryz.f54 = true := by kernel_rfl
/-- slices.DeleteFunc[[]int,int] -/
noncomputable def cfg58 : Cfg := ⟨fun t => List.contains (α := Nat) [] t, fun i => (look (α := List (Nat × Fl)) [] i).getD []⟩
theorem mu58 (t : Tmp) : cfg58.mu t = List.contains (α := Nat) [] t := (rfl)
theorem ok58 : okFn Tryz.prog cfg58 Tryz.f58 = true := by kernel_rfl
/-- licit/conflict.chosen -/
noncomputable def cfg63 : Cfg := ⟨fun t => List.contains (α := Nat) [] t, fun i => (look (α := List (Nat × Fl)) [] i).getD []⟩
theorem mu63 (t : Tmp) : cfg63.mu t = List.contains (α := Nat) [] t := (rfl)
theorem ok63 : okFn Tryz.prog cfg63 Tryz.f63 = true := by kernel_rfl
/-- (*licit/catalog.reader).license -/
noncomputable def cfg67 : Cfg := ⟨fun t => List.contains (α := Nat) [] t, fun i => (look (α := List (Nat × Fl)) [(7, [(0, .no), (1, .no), (2, .no), (3, .no), (4, .no), (5, .no), (6, .no), (7, .no), (8, .no), (9, .no), (10, .no), (11, .no)]), (9, [(0, .no), (1, .no), (2, .no), (3, .no), (4, .no), (5, .no), (6, .no), (7, .no), (8, .no), (9, .no), (10, .no), (11, .no), (12, .no), (13, .no), (14, .no), (15, .no), (16, .no)]), (11, [(0, .no), (1, .no), (2, .no), (3, .no), (4, .no), (5, .no), (6, .no), (7, .no), (8, .no), (9, .no), (10, .no), (11, .no), (12, .no), (13, .no), (14, .no), (15, .no), (16, .no), (17, .no), (18, .no), (19, .no), (20, .no)])] i).getD []⟩
theorem mu67 (t : Tmp) : cfg67.mu t = List.contains (α := Nat) [] t := (rfl)
theorem ok67 : okFn Tryz.prog cfg67 Tryz.f67 = true := by kernel_rfl
/-- slices.stableCmpFunc[licit/api.Exception] -/
noncomputable def cfg73 : Cfg := ⟨fun t => List.contains (α := Nat) [] t, fun i => (look (α := List (Nat × Fl)) [] i).getD []⟩
theorem mu73 (t : Tmp) : cfg73.mu t = List.contains (α := Nat) [] t := (rfl)
theorem ok73 : okFn Tryz.prog cfg73 Tryz.f73 = true := by kernel_rfl
/-- slices.stableCmpFunc[licit/api.Apart] -/
noncomputable def cfg77 : Cfg := ⟨fun t => List.contains (α := Nat) [] t, fun i => (look (α := List (Nat × Fl)) [] i).getD []⟩
theorem mu77 (t : Tmp) : cfg77.mu t = List.contains (α := Nat) [] t := (rfl)
theorem ok77 : okFn Tryz.prog cfg77 Tryz.f77 = true := by kernel_rfl
/-- (licit/duty.counter).radices -/
noncomputable def cfg83 : Cfg := ⟨fun t => List.contains (α := Nat) [] t, fun i => (look (α := List (Nat × Fl)) [] i).getD []⟩
theorem mu83 (t : Tmp) : cfg83.mu t = List.contains (α := Nat) [] t := (rfl)
theorem ok83 : okFn Tryz.prog cfg83 Tryz.f83 = true := by kernel_rfl
/-- licit/comply.compare -/
noncomputable def cfg87 : Cfg := ⟨fun t => List.contains (α := Nat) [] t, fun i => (look (α := List (Nat × Fl)) [(1, [(0, .no), (1, .no), (2, .no), (3, .no), (5, .no), (6, .st), (7, .no), (8, .st), (4, .no), (9, .no), (10, .no), (11, .no), (12, .no)])] i).getD []⟩
theorem mu87 (t : Tmp) : cfg87.mu t = List.contains (α := Nat) [] t := (rfl)
theorem ok87 : okFn Tryz.prog cfg87 Tryz.f87 = true := by kernel_rfl
/-- slices.IndexFunc[[]licit/api.License,licit/api.License] -/
noncomputable def cfg91 : Cfg := ⟨fun t => List.contains (α := Nat) [] t, fun i => (look (α := List (Nat × Fl)) [] i).getD []⟩
theorem mu91 (t : Tmp) : cfg91.mu t = List.contains (α := Nat) [] t := (rfl)
theorem ok91 : okFn Tryz.prog cfg91 Tryz.f91 = true := by kernel_rfl
/-- slices.Clone[[]int,int] -/
noncomputable def cfg95 : Cfg := ⟨fun t => List.contains (α := Nat) [7] t, fun i => (look (α := List (Nat × Fl)) [] i).getD []⟩
theorem mu95 (t : Tmp) : cfg95.mu t = List.contains (α := Nat) [7] t := (rfl)
theorem ok95 : okFn Tryz.prog cfg95 Tryz.f95 = true := by kernel_rfl
/-- slices.CompactFunc[[]licit/api.Violation,licit/api.Violation] -/
noncomputable def cfg99 : Cfg := ⟨fun t => List.contains (α := Nat) [] t, fun i => (look (α := List (Nat × Fl)) [(6, [(0, .no), (1, .no), (2, .no), (3, .no), (4, .no), (5, .no), (6, .no), (7, .no), (8, .no), (9, .no), (10, .no)]), (11, [(0, .no), (1, .no), (2, .no), (3, .no), (4, .no), (5, .no), (6, .no), (7, .no), (8, .no), (9, .no), (10, .no), (11, .no)])] i).getD []⟩
theorem mu99 (t : Tmp) : cfg99.mu t = List.contains (α := Nat) [] t := (rfl)
theorem ok99 : okFn Tryz.prog cfg99 Tryz.f99 = true := by kernel_rfl
/-- licit/conflict.chosen$1 -/
noncomputable def cfg104 : Cfg := ⟨fun t => List.contains (α := Nat) [] t, fun i => (look (α := List (Nat × Fl)) [(4, [(0, .no), (1, .no), (3, .no), (4, .st), (2, .no), (6, .no), (5, .no), (7, .no), (8, .no), (9, .no)])] i).getD []⟩
theorem mu104 (t : Tmp) : cfg104.mu t = List.contains (α := Nat) [] t := (rfl)
theorem ok104 : okFn Tryz.prog cfg104 Tryz.f104 = true := by kernel_rfl
/-- slices.IndexFunc[[]string,string] -/
noncomputable def cfg110 : Cfg := ⟨fun t => List.contains (α := Nat) [] t, fun i => (look (α := List (Nat × Fl)) [] i).getD []⟩
theorem mu110 (t : Tmp) : cfg110.mu t = List.contains (α := Nat) [] t := (rfl)
theorem ok110 : okFn Tryz.prog cfg110 Tryz.f110 = true := by kernel_rfl
/-- licit/catalog.wayWords -/
noncomputable def cfg114 : Cfg := ⟨fun t => List.contains (α := Nat) [] t, fun i => (look (α := List (Nat × Fl)) [] i).getD []⟩
theorem mu114 (t : Tmp) : cfg114.mu t = List.contains (α := Nat) [] t := (rfl)
theorem ok114 : okFn Tryz.prog cfg114 Tryz.f114 = true := by kernel_rfl
/-- slices.insertionSortCmpFunc[licit/api.Clause] -/
noncomputable def cfg120 : Cfg := ⟨fun t => List.contains (α := Nat) [] t, fun i => (look (α := List (Nat × Fl)) [(4, [(0, .no), (1, .no), (2, .no), (3, .no), (4, .no), (5, .no), (6, .no), (7, .no), (8, .no), (9, .no), (10, .no), (11, .no), (12, .no), (13, .no), (14, .no), (15, .no), (16, .no)]), (6, [(0, .no), (1, .no), (2, .no), (3, .no), (4, .no), (5, .no), (6, .no), (7, .no), (8, .no), (9, .no), (10, .no), (11, .no), (12, .no), (13, .no), (14, .no), (15, .no), (16, .no), (17, .no)])] i).getD []⟩
theorem mu120 (t : Tmp) : cfg120.mu t = List.contains (α := Nat) [] t := (rfl)
theorem ok120 : okFn Tryz.prog cfg120 Tryz.f120 = true := by kernel_rfl
/-- licit/catalog.lines -/
noncomputable def cfg126 : Cfg := ⟨fun t => List.contains (α := Nat) [] t, fun i => (look (α := List (Nat × Fl)) [] i).getD []⟩
theorem mu126 (t : Tmp) : cfg126.mu t = List.contains (α := Nat) [] t := (rfl)
theorem ok126 : okFn Tryz.prog cfg126 Tryz.f126 = true := by kernel_rfl
/-- slices.Compare[[]int,int] -/
noncomputable def cfg132 : Cfg := ⟨fun t => List.contains (α := Nat) [] t, fun i => (look (α := List (Nat × Fl)) [] i).getD []⟩
theorem mu132 (t : Tmp) : cfg132.mu t = List.contains (α := Nat) [] t := (rfl)
theorem ok132 : okFn Tryz.prog cfg132 Tryz.f132 = true := by kernel_rfl
/-- (*licit/comply.state).forbid -/
noncomputable def cfg136 : Cfg := ⟨fun t => List.contains (α := Nat) [] t, fun i => (look (α := List (Nat × Fl)) [] i).getD []⟩
theorem mu136 (t : Tmp) : cfg136.mu t = List.contains (α := Nat) [] t := (rfl)
theorem ok136 : okFn Tryz.prog cfg136 Tryz.f136 = true := by kernel_rfl
/-- (*licit/comply.state).must -/
noncomputable def cfg140 : Cfg := ⟨fun t => List.contains (α := Nat) [] t, fun i => (look (α := List (Nat × Fl)) [(3, [(0, .no), (4, .no), (8, .no), (1, .no), (2, .no), (3, .no), (5, .no), (6, .no), (7, .no), (9, .no), (10, .no), (11, .no), (12, .no), (13, .no), (14, .no), (15, .no), (16, .no), (17, .no)]), (4, [(0, .no), (1, .no), (2, .no), (3, .no), (7, .no), (4, .no), (5, .no), (6, .no), (8, .no), (9, .no), (10, .no), (11, .no), (12, .no), (13, .no)])] i).getD []⟩
theorem mu140 (t : Tmp) : cfg140.mu t = List.contains (α := Nat) [] t := (rfl)
theorem ok140 : okFn Tryz.prog cfg140 Tryz.f140 = true := by kernel_rfl
/-- slices.pdqsortCmpFunc[licit/api.Violation] -/
noncomputable def cfg144 : Cfg := ⟨fun t => List.contains (α := Nat) [] t, fun i => (look (α := List (Nat × Fl)) [(17, [(0, .no), (1, .no), (2, .no), (3, .no), (4, .no), (5, .no), (6, .no), (7, .no), (8, .no), (9, .no), (10, .no), (11, .no), (12, .no), (13, .no), (14, .no), (15, .no), (16, .no)])] i).getD []⟩
theorem mu144 (t : Tmp) : cfg144.mu t = List.contains (α := Nat) [] t := (rfl)
theorem ok144 : okFn Tryz.prog cfg144 Tryz.f144 = true := by kernel_rfl
/-- slices.Clone[[]licit/api.LicExpr,licit/api.LicExpr] -/
noncomputable def cfg148 : Cfg := ⟨fun t => List.contains (α := Nat) [7] t, fun i => (look (α := List (Nat × Fl)) [] i).getD []⟩
theorem mu148 (t : Tmp) : cfg148.mu t = List.contains (α := Nat) [7] t := (rfl)
theorem ok148 : okFn Tryz.prog cfg148 Tryz.f148 = true := by kernel_rfl
/-- licit/tree.Path -/
noncomputable def cfg164 : Cfg := ⟨fun t => List.contains (α := Nat) [] t, fun i => (look (α := List (Nat × Fl)) [] i).getD []⟩
theorem mu164 (t : Tmp) : cfg164.mu t = List.contains (α := Nat) [] t := (rfl)
theorem ok164 : okFn Tryz.prog cfg164 Tryz.f164 = true := by kernel_rfl
/-- licit/catalog.Known -/
noncomputable def cfg168 : Cfg := ⟨fun t => List.contains (α := Nat) [] t, fun i => (look (α := List (Nat × Fl)) [] i).getD []⟩
theorem mu168 (t : Tmp) : cfg168.mu t = List.contains (α := Nat) [] t := (rfl)
theorem ok168 : okFn Tryz.prog cfg168 Tryz.f168 = true := by kernel_rfl
/-- (*licit/comply.state).facts -/
noncomputable def cfg178 : Cfg := ⟨fun t => List.contains (α := Nat) [] t, fun i => (look (α := List (Nat × Fl)) [] i).getD []⟩
theorem mu178 (t : Tmp) : cfg178.mu t = List.contains (α := Nat) [] t := (rfl)
theorem ok178 : okFn Tryz.prog cfg178 Tryz.f178 = true := by kernel_rfl
/-- (*licit/comply.state).none$1 -/
noncomputable def cfg183 : Cfg := ⟨fun t => List.contains (α := Nat) [] t, fun i => (look (α := List (Nat × Fl)) [] i).getD []⟩
theorem mu183 (t : Tmp) : cfg183.mu t = List.contains (α := Nat) [] t := (rfl)
theorem ok183 : okFn Tryz.prog cfg183 Tryz.f183 = true := by kernel_rfl
/-- slices.insertionSortCmpFunc[licit/api.Violation] -/
noncomputable def cfg195 : Cfg := ⟨fun t => List.contains (α := Nat) [] t, fun i => (look (α := List (Nat × Fl)) [(4, [(0, .no), (1, .no), (2, .no), (3, .no), (4, .no), (5, .no), (6, .no), (7, .no), (8, .no), (9, .no), (10, .no), (11, .no), (12, .no), (13, .no), (14, .no), (15, .no), (16, .no)]), (6, [(0, .no), (1, .no), (2, .no), (3, .no), (4, .no), (5, .no), (6, .no), (7, .no), (8, .no), (9, .no), (10, .no), (11, .no), (12, .no), (13, .no), (14, .no), (15, .no), (16, .no), (17, .no)])] i).getD []⟩
theorem mu195 (t : Tmp) : cfg195.mu t = List.contains (α := Nat) [] t := (rfl)
theorem ok195 : okFn Tryz.prog cfg195 Tryz.f195 = true := by kernel_rfl
/-- (*licit/search.space).size -/
noncomputable def cfg206 : Cfg := ⟨fun t => List.contains (α := Nat) [] t, fun i => (look (α := List (Nat × Fl)) [] i).getD []⟩
theorem mu206 (t : Tmp) : cfg206.mu t = List.contains (α := Nat) [] t := (rfl)
theorem ok206 : okFn Tryz.prog cfg206 Tryz.f206 = true := by kernel_rfl
/-- (*licit/search.space).leaves$1 -/
noncomputable def cfg210 : Cfg := ⟨fun t => List.contains (α := Nat) [] t, fun i => (look (α := List (Nat × Fl)) [(3, [(0, .st), (1, .no), (2, .no), (3, .no)])] i).getD []⟩
theorem mu210 (t : Tmp) : cfg210.mu t = List.contains (α := Nat) [] t := (rfl)
theorem ok210 : okFn Tryz.prog cfg210 Tryz.f210 = true := by kernel_rfl
/-- licit/duty.plain -/
noncomputable def cfg233 : Cfg := ⟨fun t => List.contains (α := Nat) [] t, fun i => (look (α := List (Nat × Fl)) [] i).getD []⟩
theorem mu233 (t : Tmp) : cfg233.mu t = List.contains (α := Nat) [] t := (rfl)
theorem ok233 : okFn Tryz.prog cfg233 Tryz.f233 = true := by kernel_rfl
/-- licit/licexpr.Size -/
noncomputable def cfg237 : Cfg := ⟨fun t => List.contains (α := Nat) [] t, fun i => (look (α := List (Nat × Fl)) [] i).getD []⟩
theorem mu237 (t : Tmp) : cfg237.mu t = List.contains (α := Nat) [] t := (rfl)
theorem ok237 : okFn Tryz.prog cfg237 Tryz.f237 = true := by kernel_rfl
/-- licit/licexpr.nodes$2 -/
noncomputable def cfg241 : Cfg := ⟨fun t => List.contains (α := Nat) [] t, fun i => (look (α := List (Nat × Fl)) [] i).getD []⟩
theorem mu241 (t : Tmp) : cfg241.mu t = List.contains (α := Nat) [] t := (rfl)
theorem ok241 : okFn Tryz.prog cfg241 Tryz.f241 = true := by kernel_rfl
/-- (*licit/comply.state).triples$1$2 -/
noncomputable def cfg257 : Cfg := ⟨fun t => List.contains (α := Nat) [] t, fun i => (look (α := List (Nat × Fl)) [(1, [(2, .no), (6, .no), (0, .no), (1, .no), (3, .no), (4, .no), (5, .no), (7, .no), (8, .no), (9, .no), (10, .no), (11, .no)])] i).getD []⟩
theorem mu257 (t : Tmp) : cfg257.mu t = List.contains (α := Nat) [] t := (rfl)
theorem ok257 : okFn Tryz.prog cfg257 Tryz.f257 = true := by kernel_rfl
/-- slices.Clone[[]licit/api.Alternative,licit/api.Alternative] -/
noncomputable def cfg269 : Cfg := ⟨fun t => List.contains (α := Nat) [7] t, fun i => (look (α := List (Nat × Fl)) [] i).getD []⟩
theorem mu269 (t : Tmp) : cfg269.mu t = List.contains (α := Nat) [7] t := (rfl)
theorem ok269 : okFn Tryz.prog cfg269 Tryz.f269 = true := by kernel_rfl
/-- slices.Contains[[]licit/api.Apart,licit/api.Apart] -/
noncomputable def cfg293 : Cfg := ⟨fun t => List.contains (α := Nat) [] t, fun i => (look (α := List (Nat × Fl)) [] i).getD []⟩
theorem mu293 (t : Tmp) : cfg293.mu t = List.contains (α := Nat) [] t := (rfl)
theorem ok293 : okFn Tryz.prog cfg293 Tryz.f293 = true := by kernel_rfl
end Go.V
namespace Go.V
open Go.Proofs
noncomputable def tab : List (Nat × (Func × Cfg)) := [(5, (Tryz.f5, cfg5)), (6, (Tryz.f6, cfg6)), (7, (Tryz.f7, cfg7)), (8, (Tryz.f8, cfg8)), (9, (Tryz.f9, cfg9)), (13, (Tryz.f13, cfg13)), (14, (Tryz.f14, cfg14)), (15, (Tryz.f15, cfg15)), (16, (Tryz.f16, cfg16)), (17, (Tryz.f17, cfg17)), (18, (Tryz.f18, cfg18)), (19, (Tryz.f19, cfg19)), (20, (Tryz.f20, cfg20)), (21, (Tryz.f21, cfg21)), (29, (Tryz.f29, cfg29)), (30, (Tryz.f30, cfg30)), (31, (Tryz.f31, cfg31)), (32, (Tryz.f32, cfg32)), (33, (Tryz.f33, cfg33)), (34, (Tryz.f34, cfg34)), (36, (Tryz.f36, cfg36)), (38, (Tryz.f38, cfg38)), (40, (Tryz.f40, cfg40)), (41, (Tryz.f41, cfg41)), (42, (Tryz.f42, cfg42)), (43, (Tryz.f43, cfg43)), (44, (Tryz.f44, cfg44)), (45, (Tryz.f45, cfg45)), (46, (Tryz.f46, cfg46)), (47, (Tryz.f47, cfg47)), (48, (Tryz.f48, cfg48)), (49, (Tryz.f49, cfg49)), (50, (Tryz.f50, cfg50)), (51, (Tryz.f51, cfg51)), (52, (Tryz.f52, cfg52)), (53, (Tryz.f53, cfg53)), (64, (Tryz.f64, cfg64)), (65, (Tryz.f65, cfg65)), (66, (Tryz.f66, cfg66)), (67, (Tryz.f67, cfg67)), (69, (Tryz.f69, cfg69)), (71, (Tryz.f71, cfg71)), (72, (Tryz.f72, cfg72)), (73, (Tryz.f73, cfg73)), (74, (Tryz.f74, cfg74)), (75, (Tryz.f75, cfg75)), (76, (Tryz.f76, cfg76)), (77, (Tryz.f77, cfg77)), (78, (Tryz.f78, cfg78)), (79, (Tryz.f79, cfg79)), (81, (Tryz.f81, cfg81)), (83, (Tryz.f83, cfg83)), (84, (Tryz.f84, cfg84)), (85, (Tryz.f85, cfg85)), (86, (Tryz.f86, cfg86)), (87, (Tryz.f87, cfg87)), (88, (Tryz.f88, cfg88)), (89, (Tryz.f89, cfg89)), (90, (Tryz.f90, cfg90)), (91, (Tryz.f91, cfg91)), (92, (Tryz.f92, cfg92)), (93, (Tryz.f93, cfg93)), (94, (Tryz.f94, cfg94)), (95, (Tryz.f95, cfg95)), (96, (Tryz.f96, cfg96)), (97, (Tryz.f97, cfg97)), (98, (Tryz.f98, cfg98)), (99, (Tryz.f99, cfg99)), (106, (Tryz.f106, cfg106)), (108, (Tryz.f108, cfg108)), (110, (Tryz.f110, cfg110)), (111, (Tryz.f111, cfg111)), (112, (Tryz.f112, cfg112)), (113, (Tryz.f113, cfg113)), (114, (Tryz.f114, cfg114)), (115, (Tryz.f115, cfg115)), (116, (Tryz.f116, cfg116)), (118, (Tryz.f118, cfg118)), (120, (Tryz.f120, cfg120)), (122, (Tryz.f122, cfg122)), (123, (Tryz.f123, cfg123)), (125, (Tryz.f125, cfg125)), (126, (Tryz.f126, cfg126)), (128, (Tryz.f128, cfg128)), (130, (Tryz.f130, cfg130)), (131, (Tryz.f131, cfg131)), (132, (Tryz.f132, cfg132)), (133, (Tryz.f133, cfg133)), (134, (Tryz.f134, cfg134)), (135, (Tryz.f135, cfg135)), (136, (Tryz.f136, cfg136)), (137, (Tryz.f137, cfg137)), (138, (Tryz.f138, cfg138)), (139, (Tryz.f139, cfg139)), (140, (Tryz.f140, cfg140)), (141, (Tryz.f141, cfg141)), (142, (Tryz.f142, cfg142)), (143, (Tryz.f143, cfg143)), (144, (Tryz.f144, cfg144)), (154, (Tryz.f154, cfg154)), (162, (Tryz.f162, cfg162)), (163, (Tryz.f163, cfg163)), (164, (Tryz.f164, cfg164)), (165, (Tryz.f165, cfg165)), (166, (Tryz.f166, cfg166)), (167, (Tryz.f167, cfg167)), (168, (Tryz.f168, cfg168)), (174, (Tryz.f174, cfg174)), (175, (Tryz.f175, cfg175)), (177, (Tryz.f177, cfg177)), (178, (Tryz.f178, cfg178)), (180, (Tryz.f180, cfg180)), (181, (Tryz.f181, cfg181)), (182, (Tryz.f182, cfg182)), (184, (Tryz.f184, cfg184)), (190, (Tryz.f190, cfg190)), (194, (Tryz.f194, cfg194)), (195, (Tryz.f195, cfg195)), (225, (Tryz.f225, cfg225)), (233, (Tryz.f233, cfg233)), (234, (Tryz.f234, cfg234)), (235, (Tryz.f235, cfg235)), (236, (Tryz.f236, cfg236)), (237, (Tryz.f237, cfg237)), (238, (Tryz.f238, cfg238)), (239, (Tryz.f239, cfg239)), (240, (Tryz.f240, cfg240)), (241, (Tryz.f241, cfg241)), (242, (Tryz.f242, cfg242)), (255, (Tryz.f255, cfg255)), (256, (Tryz.f256, cfg256)), (257, (Tryz.f257, cfg257)), (258, (Tryz.f258, cfg258)), (259, (Tryz.f259, cfg259)), (260, (Tryz.f260, cfg260)), (282, (Tryz.f282, cfg282)), (283, (Tryz.f283, cfg283)), (284, (Tryz.f284, cfg284)), (293, (Tryz.f293, cfg293)), (302, (Tryz.f302, cfg302)), (328, (Tryz.f328, cfg328)), (334, (Tryz.f334, cfg334))]
theorem tab_ok : GoodTab Tryz.prog tab := ⟨⟨Tryz.func5, ok5⟩, ⟨Tryz.func6, ok6⟩, ⟨Tryz.func7, ok7⟩, ⟨Tryz.func8, ok8⟩, ⟨Tryz.func9, ok9⟩, ⟨Tryz.func13, ok13⟩, ⟨Tryz.func14, ok14⟩, ⟨Tryz.func15, ok15⟩, ⟨Tryz.func16, ok16⟩, ⟨Tryz.func17, ok17⟩, ⟨Tryz.func18, ok18⟩, ⟨Tryz.func19, ok19⟩, ⟨Tryz.func20, ok20⟩, ⟨Tryz.func21, ok21⟩, ⟨Tryz.func29, ok29⟩, ⟨Tryz.func30, ok30⟩, ⟨Tryz.func31, ok31⟩, ⟨Tryz.func32, ok32⟩, ⟨Tryz.func33, ok33⟩, ⟨Tryz.func34, ok34⟩, ⟨Tryz.func36, ok36⟩, ⟨Tryz.func38, ok38⟩, ⟨Tryz.func40, ok40⟩, ⟨Tryz.func41, ok41⟩, ⟨Tryz.func42, ok42⟩, ⟨Tryz.func43, ok43⟩, ⟨Tryz.func44, ok44⟩, ⟨Tryz.func45, ok45⟩, ⟨Tryz.func46, ok46⟩, ⟨Tryz.func47, ok47⟩, ⟨Tryz.func48, ok48⟩, ⟨Tryz.func49, ok49⟩, ⟨Tryz.func50, ok50⟩, ⟨Tryz.func51, ok51⟩, ⟨Tryz.func52, ok52⟩, ⟨Tryz.func53, ok53⟩, ⟨Tryz.func64, ok64⟩, ⟨Tryz.func65, ok65⟩, ⟨Tryz.func66, ok66⟩, ⟨Tryz.func67, ok67⟩, ⟨Tryz.func69, ok69⟩, ⟨Tryz.func71, ok71⟩, ⟨Tryz.func72, ok72⟩, ⟨Tryz.func73, ok73⟩, ⟨Tryz.func74, ok74⟩, ⟨Tryz.func75, ok75⟩, ⟨Tryz.func76, ok76⟩, ⟨Tryz.func77, ok77⟩, ⟨Tryz.func78, ok78⟩, ⟨Tryz.func79, ok79⟩, ⟨Tryz.func81, ok81⟩, ⟨Tryz.func83, ok83⟩, ⟨Tryz.func84, ok84⟩, ⟨Tryz.func85, ok85⟩, ⟨Tryz.func86, ok86⟩, ⟨Tryz.func87, ok87⟩, ⟨Tryz.func88, ok88⟩, ⟨Tryz.func89, ok89⟩, ⟨Tryz.func90, ok90⟩, ⟨Tryz.func91, ok91⟩, ⟨Tryz.func92, ok92⟩, ⟨Tryz.func93, ok93⟩, ⟨Tryz.func94, ok94⟩, ⟨Tryz.func95, ok95⟩, ⟨Tryz.func96, ok96⟩, ⟨Tryz.func97, ok97⟩, ⟨Tryz.func98, ok98⟩, ⟨Tryz.func99, ok99⟩, ⟨Tryz.func106, ok106⟩, ⟨Tryz.func108, ok108⟩, ⟨Tryz.func110, ok110⟩, ⟨Tryz.func111, ok111⟩, ⟨Tryz.func112, ok112⟩, ⟨Tryz.func113, ok113⟩, ⟨Tryz.func114, ok114⟩, ⟨Tryz.func115, ok115⟩, ⟨Tryz.func116, ok116⟩, ⟨Tryz.func118, ok118⟩, ⟨Tryz.func120, ok120⟩, ⟨Tryz.func122, ok122⟩, ⟨Tryz.func123, ok123⟩, ⟨Tryz.func125, ok125⟩, ⟨Tryz.func126, ok126⟩, ⟨Tryz.func128, ok128⟩, ⟨Tryz.func130, ok130⟩, ⟨Tryz.func131, ok131⟩, ⟨Tryz.func132, ok132⟩, ⟨Tryz.func133, ok133⟩, ⟨Tryz.func134, ok134⟩, ⟨Tryz.func135, ok135⟩, ⟨Tryz.func136, ok136⟩, ⟨Tryz.func137, ok137⟩, ⟨Tryz.func138, ok138⟩, ⟨Tryz.func139, ok139⟩, ⟨Tryz.func140, ok140⟩, ⟨Tryz.func141, ok141⟩, ⟨Tryz.func142, ok142⟩, ⟨Tryz.func143, ok143⟩, ⟨Tryz.func144, ok144⟩, ⟨Tryz.func154, ok154⟩, ⟨Tryz.func162, ok162⟩, ⟨Tryz.func163, ok163⟩, ⟨Tryz.func164, ok164⟩, ⟨Tryz.func165, ok165⟩, ⟨Tryz.func166, ok166⟩, ⟨Tryz.func167, ok167⟩, ⟨Tryz.func168, ok168⟩, ⟨Tryz.func174, ok174⟩, ⟨Tryz.func175, ok175⟩, ⟨Tryz.func177, ok177⟩, ⟨Tryz.func178, ok178⟩, ⟨Tryz.func180, ok180⟩, ⟨Tryz.func181, ok181⟩, ⟨Tryz.func182, ok182⟩, ⟨Tryz.func184, ok184⟩, ⟨Tryz.func190, ok190⟩, ⟨Tryz.func194, ok194⟩, ⟨Tryz.func195, ok195⟩, ⟨Tryz.func225, ok225⟩, ⟨Tryz.func233, ok233⟩, ⟨Tryz.func234, ok234⟩, ⟨Tryz.func235, ok235⟩, ⟨Tryz.func236, ok236⟩, ⟨Tryz.func237, ok237⟩, ⟨Tryz.func238, ok238⟩, ⟨Tryz.func239, ok239⟩, ⟨Tryz.func240, ok240⟩, ⟨Tryz.func241, ok241⟩, ⟨Tryz.func242, ok242⟩, ⟨Tryz.func255, ok255⟩, ⟨Tryz.func256, ok256⟩, ⟨Tryz.func257, ok257⟩, ⟨Tryz.func258, ok258⟩, ⟨Tryz.func259, ok259⟩, ⟨Tryz.func260, ok260⟩, ⟨Tryz.func282, ok282⟩, ⟨Tryz.func283, ok283⟩, ⟨Tryz.func284, ok284⟩, ⟨Tryz.func293, ok293⟩, ⟨Tryz.func302, ok302⟩, ⟨Tryz.func328, ok328⟩, ⟨Tryz.func334, ok334⟩, trivial⟩
theorem mix : Tryz.prog.follows .mixedOrders = true := by kernel_rfl
end Go.V
