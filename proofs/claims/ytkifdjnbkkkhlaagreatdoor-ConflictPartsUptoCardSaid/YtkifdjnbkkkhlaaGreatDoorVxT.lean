/- How the functions of this program are read by the evaluator. No condition. -/
import Derived.Test.YtkifdjnbkkkhlaaGreatDoorVhC
import Derived.KernelRfl
import Derived.Test.YtkifdjnbkkkhlaaGreatDoorProg
set_option linter.unusedSimpArgs false
set_option linter.unusedVariables false
set_option linter.constructorNameAsVariable false
set_option linter.deprecated false
namespace Go.V
open Go.Proofs
/-- slices.Contains[[]string,string] -/
noncomputable def cfg6 : Cfg := ⟨fun t => List.contains (α := Nat) [] t, fun i => (look (α := List (Nat × Fl)) [] i).getD []⟩
theorem ok6 : okFn Tryz.prog cfg6 Tryz.f6 = true := by kernel_rfl
/-- licit/conflict.Part -/
noncomputable def cfg11 : Cfg := ⟨fun t => List.contains (α := Nat) [] t, fun i => (look (α := List (Nat × Fl)) [(6, [(0, .no), (1, .no), (2, .no), (3, .no), (4, .no), (5, .no), (6, .no), (7, .no), (8, .no), (9, .no)])] i).getD []⟩
theorem ok11 : okFn Tryz.prog cfg11 Tryz.f11 = true := by kernel_rfl
/-- licit/comply.Check -/
noncomputable def cfg16 : Cfg := ⟨fun t => List.contains (α := Nat) [] t, fun i => (look (α := List (Nat × Fl)) [] i).getD []⟩
theorem ok16 : okFn Tryz.prog cfg16 Tryz.f16 = true := by kernel_rfl
/-- (*licit/comply.state).all -/
noncomputable def cfg20 : Cfg := ⟨fun t => List.contains (α := Nat) [] t, fun i => (look (α := List (Nat × Fl)) [] i).getD []⟩
theorem ok20 : okFn Tryz.prog cfg20 Tryz.f20 = true := by kernel_rfl
/-- slices.Equal[[]string,string] -/
noncomputable def cfg24 : Cfg := ⟨fun t => List.contains (α := Nat) [] t, fun i => (look (α := List (Nat × Fl)) [(6, [(0, .no), (1, .no), (2, .no), (3, .no), (4, .no), (5, .no), (6, .no), (7, .no), (8, .no)])] i).getD []⟩
theorem ok24 : okFn Tryz.prog cfg24 Tryz.f24 = true := by kernel_rfl
/-- licit/conflict.part -/
noncomputable def cfg28 : Cfg := ⟨fun t => List.contains (α := Nat) [] t, fun i => (look (α := List (Nat × Fl)) [] i).getD []⟩
theorem ok28 : okFn Tryz.prog cfg28 Tryz.f28 = true := by kernel_rfl
/-- licit/catalog.Parse$1 -/
noncomputable def cfg32 : Cfg := ⟨fun t => List.contains (α := Nat) [] t, fun i => (look (α := List (Nat × Fl)) [] i).getD []⟩
theorem ok32 : okFn Tryz.prog cfg32 Tryz.f32 = true := by kernel_rfl
/-- slices.SortStableFunc[[]licit/api.Apart,licit/api.Apart] -/
noncomputable def cfg38 : Cfg := ⟨fun t => List.contains (α := Nat) [] t, fun i => (look (α := List (Nat × Fl)) [] i).getD []⟩
theorem ok38 : okFn Tryz.prog cfg38 Tryz.f38 = true := by kernel_rfl
/-- slices.ContainsFunc[[]licit/api.Violation,licit/api.Violation] -/
noncomputable def cfg44 : Cfg := ⟨fun t => List.contains (α := Nat) [] t, fun i => (look (α := List (Nat × Fl)) [] i).getD []⟩
theorem ok44 : okFn Tryz.prog cfg44 Tryz.f44 = true := by kernel_rfl
/-- slices.ContainsFunc[[]licit/api.Alternative,licit/api.Alternative] -/
noncomputable def cfg48 : Cfg := ⟨fun t => List.contains (α := Nat) [] t, fun i => (look (α := List (Nat × Fl)) [] i).getD []⟩
theorem ok48 : okFn Tryz.prog cfg48 Tryz.f48 = true := by kernel_rfl
/-- licit/duty.CheckChoice$2 -/
noncomputable def cfg52 : Cfg := ⟨fun t => List.contains (α := Nat) [] t, fun i => (look (α := List (Nat × Fl)) [] i).getD []⟩
theorem ok52 : okFn Tryz.prog cfg52 Tryz.f52 = true := by kernel_rfl
/-- licit/conflict.all -/
noncomputable def cfg56 : Cfg := ⟨fun t => List.contains (α := Nat) [13] t, fun i => (look (α := List (Nat × Fl)) [] i).getD []⟩
theorem ok56 : okFn Tryz.prog cfg56 Tryz.f56 = true := by kernel_rfl
/-- licit/search.Check -/
noncomputable def cfg60 : Cfg := ⟨fun t => List.contains (α := Nat) [] t, fun i => (look (α := List (Nat × Fl)) [] i).getD []⟩
theorem ok60 : okFn Tryz.prog cfg60 Tryz.f60 = true := by kernel_rfl
/-- strings.genSplit -/
noncomputable def cfg64 : Cfg := ⟨fun t => List.contains (α := Nat) [31] t, fun i => (look (α := List (Nat × Fl)) [] i).getD []⟩
theorem ok64 : okFn Tryz.prog cfg64 Tryz.f64 = true := by kernel_rfl
/-- (*licit/catalog.reader).clause -/
noncomputable def cfg69 : Cfg := ⟨fun t => List.contains (α := Nat) [] t, fun i => (look (α := List (Nat × Fl)) [(3, [(0, .no), (1, .no), (2, .st), (4, .no), (5, .no), (6, .st), (9, .no), (10, .no), (11, .st), (14, .no), (15, .no), (16, .st), (3, .st), (7, .st), (8, .st), (12, .st), (13, .st), (17, .st), (18, .no), (19, .no), (20, .no)]), (6, [(0, .no), (1, .no), (2, .no), (3, .no), (4, .no), (5, .no), (6, .no)]), (7, [(6, .no), (0, .no), (1, .no), (2, .no), (3, .no), (4, .no), (5, .no), (7, .no), (8, .no), (9, .no), (10, .no), (11, .no), (12, .no)])] i).getD []⟩
theorem ok69 : okFn Tryz.prog cfg69 Tryz.f69 = true := by kernel_rfl
/-- slices.stableCmpFunc[licit/api.Clause] -/
noncomputable def cfg74 : Cfg := ⟨fun t => List.contains (α := Nat) [] t, fun i => (look (α := List (Nat × Fl)) [] i).getD []⟩
theorem ok74 : okFn Tryz.prog cfg74 Tryz.f74 = true := by kernel_rfl
/-- licit/catalog.checkLicense -/
noncomputable def cfg78 : Cfg := ⟨fun t => List.contains (α := Nat) [] t, fun i => (look (α := List (Nat × Fl)) [(14, [(0, .no), (1, .no), (2, .no), (3, .no), (4, .no), (5, .no), (6, .no), (7, .no), (8, .no), (9, .no), (10, .no), (11, .no), (12, .no)])] i).getD []⟩
theorem ok78 : okFn Tryz.prog cfg78 Tryz.f78 = true := by kernel_rfl
/-- slices.Contains[[]int,int] -/
noncomputable def cfg84 : Cfg := ⟨fun t => List.contains (α := Nat) [] t, fun i => (look (α := List (Nat × Fl)) [] i).getD []⟩
theorem ok84 : okFn Tryz.prog cfg84 Tryz.f84 = true := by kernel_rfl
/-- licit/duty.Check -/
noncomputable def cfg88 : Cfg := ⟨fun t => List.contains (α := Nat) [] t, fun i => (look (α := List (Nat × Fl)) [] i).getD []⟩
theorem ok88 : okFn Tryz.prog cfg88 Tryz.f88 = true := by kernel_rfl
/-- (*licit/comply.state).violations$1 -/
noncomputable def cfg92 : Cfg := ⟨fun t => List.contains (α := Nat) [] t, fun i => (look (α := List (Nat × Fl)) [] i).getD []⟩
theorem ok92 : okFn Tryz.prog cfg92 Tryz.f92 = true := by kernel_rfl
/-- slices.Sort[[]int,int] -/
noncomputable def cfg96 : Cfg := ⟨fun t => List.contains (α := Nat) [] t, fun i => (look (α := List (Nat × Fl)) [] i).getD []⟩
theorem ok96 : okFn Tryz.prog cfg96 Tryz.f96 = true := by kernel_rfl
/-- licit/search.Solve -/
noncomputable def cfg100 : Cfg := ⟨fun t => List.contains (α := Nat) [] t, fun i => (look (α := List (Nat × Fl)) [] i).getD []⟩
theorem ok100 : okFn Tryz.prog cfg100 Tryz.f100 = true := by kernel_rfl
/-- licit/conflict.own -/
noncomputable def cfg105 : Cfg := ⟨fun t => List.contains (α := Nat) [1] t, fun i => (look (α := List (Nat × Fl)) [(5, [(0, .no), (1, .st), (2, .no), (3, .no), (4, .no), (5, .no), (6, .no), (7, .no), (8, .no), (9, .no), (10, .no)])] i).getD []⟩
theorem ok105 : okFn Tryz.prog cfg105 Tryz.f105 = true := by kernel_rfl
/-- licit/catalog.number -/
noncomputable def cfg111 : Cfg := ⟨fun t => List.contains (α := Nat) [] t, fun i => (look (α := List (Nat × Fl)) [(4, [(0, .no), (1, .no), (2, .no), (3, .no), (4, .no)])] i).getD []⟩
theorem ok111 : okFn Tryz.prog cfg111 Tryz.f111 = true := by kernel_rfl
/-- licit/catalog.relationWords -/
noncomputable def cfg115 : Cfg := ⟨fun t => List.contains (α := Nat) [] t, fun i => (look (α := List (Nat × Fl)) [] i).getD []⟩
theorem ok115 : okFn Tryz.prog cfg115 Tryz.f115 = true := by kernel_rfl
/-- cmp.isNaN[int] -/
noncomputable def cfg122 : Cfg := ⟨fun t => List.contains (α := Nat) [] t, fun i => (look (α := List (Nat × Fl)) [] i).getD []⟩
theorem ok122 : okFn Tryz.prog cfg122 Tryz.f122 = true := by kernel_rfl
/-- licit/catalog.isDuty -/
noncomputable def cfg128 : Cfg := ⟨fun t => List.contains (α := Nat) [] t, fun i => (look (α := List (Nat × Fl)) [] i).getD []⟩
theorem ok128 : okFn Tryz.prog cfg128 Tryz.f128 = true := by kernel_rfl
/-- licit/duty.checkFact -/
noncomputable def cfg133 : Cfg := ⟨fun t => List.contains (α := Nat) [] t, fun i => (look (α := List (Nat × Fl)) [(20, [(0, .no), (1, .no), (2, .no), (3, .no), (4, .no), (5, .no), (6, .no), (7, .no), (8, .no), (9, .no), (10, .no), (11, .no)])] i).getD []⟩
theorem ok133 : okFn Tryz.prog cfg133 Tryz.f133 = true := by kernel_rfl
/-- (*licit/comply.state).share -/
noncomputable def cfg137 : Cfg := ⟨fun t => List.contains (α := Nat) [] t, fun i => (look (α := List (Nat × Fl)) [(3, [(0, .st), (4, .st), (1, .no), (2, .no), (3, .st), (5, .no), (6, .no), (7, .st), (8, .no), (9, .st), (10, .no), (11, .no), (12, .st), (13, .st), (14, .no), (15, .no), (16, .no), (17, .no), (18, .no), (19, .no)])] i).getD []⟩
theorem ok137 : okFn Tryz.prog cfg137 Tryz.f137 = true := by kernel_rfl
/-- (*licit/comply.state).none -/
noncomputable def cfg141 : Cfg := ⟨fun t => List.contains (α := Nat) [] t, fun i => (look (α := List (Nat × Fl)) [] i).getD []⟩
theorem ok141 : okFn Tryz.prog cfg141 Tryz.f141 = true := by kernel_rfl
/-- (*licit/search.space).walk -/
noncomputable def cfg145 : Cfg := ⟨fun t => List.contains (α := Nat) [] t, fun i => (look (α := List (Nat × Fl)) [] i).getD []⟩
theorem ok145 : okFn Tryz.prog cfg145 Tryz.f145 = true := by kernel_rfl
/-- strconv.Atoi -/
noncomputable def cfg154 : Cfg := ⟨fun t => List.contains (α := Nat) [] t, fun i => (look (α := List (Nat × Fl)) [] i).getD []⟩
theorem ok154 : okFn Tryz.prog cfg154 Tryz.f154 = true := by kernel_rfl
/-- licit/catalog.Find -/
noncomputable def cfg165 : Cfg := ⟨fun t => List.contains (α := Nat) [] t, fun i => (look (α := List (Nat × Fl)) [] i).getD []⟩
theorem ok165 : okFn Tryz.prog cfg165 Tryz.f165 = true := by kernel_rfl
/-- (*licit/comply.state).triples -/
noncomputable def cfg174 : Cfg := ⟨fun t => List.contains (α := Nat) [] t, fun i => (look (α := List (Nat × Fl)) [] i).getD []⟩
theorem ok174 : okFn Tryz.prog cfg174 Tryz.f174 = true := by kernel_rfl
/-- (*licit/comply.state).opposed -/
noncomputable def cfg180 : Cfg := ⟨fun t => List.contains (α := Nat) [] t, fun i => (look (α := List (Nat × Fl)) [(7, [(0, .no), (1, .no), (2, .no), (3, .no), (4, .no), (5, .no), (6, .no), (7, .no), (8, .no)])] i).getD []⟩
theorem ok180 : okFn Tryz.prog cfg180 Tryz.f180 = true := by kernel_rfl
/-- cmp.Less[int] -/
noncomputable def cfg190 : Cfg := ⟨fun t => List.contains (α := Nat) [] t, fun i => (look (α := List (Nat × Fl)) [] i).getD []⟩
theorem ok190 : okFn Tryz.prog cfg190 Tryz.f190 = true := by kernel_rfl
/-- (*licit/search.space).walk$1$1 -/
noncomputable def cfg204 : Cfg := ⟨fun t => List.contains (α := Nat) [40, 60] t, fun i => (look (α := List (Nat × Fl)) [(2, [(0, .st), (4, .st), (8, .st), (1, .no), (2, .no), (3, .st), (5, .no), (6, .no), (7, .st), (9, .st), (10, .no), (11, .no), (12, .no), (13, .no), (14, .no), (15, .no), (16, .no), (17, .no)]), (4, [(0, .st), (1, .no), (4, .no), (2, .no), (3, .no), (5, .no), (6, .no), (7, .no), (8, .no), (9, .no)]), (9, [(0, .st), (1, .no), (2, .no), (3, .no), (4, .no), (5, .no), (6, .no), (7, .no), (8, .no), (9, .no)]), (13, [(0, .st), (4, .no), (11, .no), (1, .no), (2, .st), (3, .no), (5, .no), (6, .no), (7, .no), (8, .no), (9, .no), (10, .no), (12, .no), (13, .no), (14, .no), (15, .no), (16, .no), (17, .no), (18, .no), (19, .no)]), (14, [(0, .st), (1, .no), (2, .no), (3, .no), (4, .no), (5, .no), (6, .no), (7, .no)])] i).getD []⟩
theorem ok204 : okFn Tryz.prog cfg204 Tryz.f204 = true := by kernel_rfl
/-- (*licit/search.space).root -/
noncomputable def cfg208 : Cfg := ⟨fun t => List.contains (α := Nat) [] t, fun i => (look (α := List (Nat × Fl)) [(1, [(0, .no), (1, .no), (2, .no), (3, .st), (4, .no), (5, .no), (6, .no), (7, .no), (8, .no), (9, .st), (10, .no), (11, .no), (12, .no), (13, .no), (14, .no)])] i).getD []⟩
theorem ok208 : okFn Tryz.prog cfg208 Tryz.f208 = true := by kernel_rfl
/-- (*licit/search.space).decided -/
noncomputable def cfg212 : Cfg := ⟨fun t => List.contains (α := Nat) [] t, fun i => (look (α := List (Nat × Fl)) [(3, [(0, .no), (1, .no), (2, .no), (3, .no), (4, .no), (5, .no), (6, .no), (7, .no), (8, .no), (9, .no), (10, .no), (11, .no), (12, .no)])] i).getD []⟩
theorem ok212 : okFn Tryz.prog cfg212 Tryz.f212 = true := by kernel_rfl
/-- licit/tree.Path$1 -/
noncomputable def cfg235 : Cfg := ⟨fun t => List.contains (α := Nat) [] t, fun i => (look (α := List (Nat × Fl)) [] i).getD []⟩
theorem ok235 : okFn Tryz.prog cfg235 Tryz.f235 = true := by kernel_rfl
/-- licit/licexpr.checkNode -/
noncomputable def cfg239 : Cfg := ⟨fun t => List.contains (α := Nat) [] t, fun i => (look (α := List (Nat × Fl)) [] i).getD []⟩
theorem ok239 : okFn Tryz.prog cfg239 Tryz.f239 = true := by kernel_rfl
/-- (*licit/comply.state).triples$1 -/
noncomputable def cfg255 : Cfg := ⟨fun t => List.contains (α := Nat) [] t, fun i => (look (α := List (Nat × Fl)) [(4, [(0, .no), (4, .no), (1, .no), (2, .no), (3, .no), (5, .no), (6, .no), (7, .no), (8, .no), (9, .no), (10, .no)])] i).getD []⟩
theorem ok255 : okFn Tryz.prog cfg255 Tryz.f255 = true := by kernel_rfl
/-- (*licit/comply.state).facts$1 -/
noncomputable def cfg259 : Cfg := ⟨fun t => List.contains (α := Nat) [] t, fun i => (look (α := List (Nat × Fl)) [] i).getD []⟩
theorem ok259 : okFn Tryz.prog cfg259 Tryz.f259 = true := by kernel_rfl
/-- licit/tree.part$1 -/
noncomputable def cfg283 : Cfg := ⟨fun t => List.contains (α := Nat) [] t, fun i => (look (α := List (Nat × Fl)) [] i).getD []⟩
theorem ok283 : okFn Tryz.prog cfg283 Tryz.f283 = true := by kernel_rfl
/-- slices.Index[[]licit/api.Apart,licit/api.Apart] -/
noncomputable def cfg328 : Cfg := ⟨fun t => List.contains (α := Nat) [] t, fun i => (look (α := List (Nat × Fl)) [(4, [(0, .no), (1, .no), (2, .no), (3, .no), (4, .no), (5, .no)])] i).getD []⟩
theorem ok328 : okFn Tryz.prog cfg328 Tryz.f328 = true := by kernel_rfl
end Go.V
namespace Go.V
open Go.Proofs
/-- slices.Equal[[]int,int] -/
noncomputable def cfg8 : Cfg := ⟨fun t => List.contains (α := Nat) [] t, fun i => (look (α := List (Nat × Fl)) [(6, [(0, .no), (1, .no), (2, .no), (3, .no), (4, .no), (5, .no), (6, .no), (7, .no), (8, .no)])] i).getD []⟩
theorem ok8 : okFn Tryz.prog cfg8 Tryz.f8 = true := by kernel_rfl
/-- licit/licitref42.Part -/
noncomputable def cfg12 : Cfg := ⟨fun t => List.contains (α := Nat) [] t, fun i => (look (α := List (Nat × Fl)) [(10, [(0, .no), (1, .no), (2, .no), (3, .no), (4, .no), (5, .no), (6, .no), (7, .no), (8, .no), (9, .no), (10, .no), (11, .no), (12, .no), (13, .no)])] i).getD []⟩
theorem ok12 : okFn Tryz.prog cfg12 Tryz.f12 = true := by kernel_rfl
/-- slices.Index[[]string,string] -/
noncomputable def cfg17 : Cfg := ⟨fun t => List.contains (α := Nat) [] t, fun i => (look (α := List (Nat × Fl)) [] i).getD []⟩
theorem ok17 : okFn Tryz.prog cfg17 Tryz.f17 = true := by kernel_rfl
/-- (*licit/comply.state).first -/
noncomputable def cfg21 : Cfg := ⟨fun t => List.contains (α := Nat) [] t, fun i => (look (α := List (Nat × Fl)) [] i).getD []⟩
theorem ok21 : okFn Tryz.prog cfg21 Tryz.f21 = true := by kernel_rfl
/-- licit/conflict.Check -/
noncomputable def cfg25 : Cfg := ⟨fun t => List.contains (α := Nat) [] t, fun i => (look (α := List (Nat × Fl)) [(10, [(0, .st), (7, .st), (1, .no), (2, .no), (3, .no), (4, .no), (5, .no), (6, .no), (8, .no), (9, .no), (10, .no), (11, .no), (12, .no), (13, .no)])] i).getD []⟩
theorem ok25 : okFn Tryz.prog cfg25 Tryz.f25 = true := by kernel_rfl
/-- strings.Split -/
noncomputable def cfg29 : Cfg := ⟨fun t => List.contains (α := Nat) [] t, fun i => (look (α := List (Nat × Fl)) [] i).getD []⟩
theorem ok29 : okFn Tryz.prog cfg29 Tryz.f29 = true := by kernel_rfl
/-- cmp.Compare[string] -/
noncomputable def cfg33 : Cfg := ⟨fun t => List.contains (α := Nat) [] t, fun i => (look (α := List (Nat × Fl)) [] i).getD []⟩
theorem ok33 : okFn Tryz.prog cfg33 Tryz.f33 = true := by kernel_rfl
/-- licit/catalog.Check -/
noncomputable def cfg40 : Cfg := ⟨fun t => List.contains (α := Nat) [] t, fun i => (look (α := List (Nat × Fl)) [] i).getD []⟩
theorem ok40 : okFn Tryz.prog cfg40 Tryz.f40 = true := by kernel_rfl
/-- licit/comply.Check$1 -/
noncomputable def cfg45 : Cfg := ⟨fun t => List.contains (α := Nat) [] t, fun i => (look (α := List (Nat × Fl)) [] i).getD []⟩
theorem ok45 : okFn Tryz.prog cfg45 Tryz.f45 = true := by kernel_rfl
/-- licit/duty.CheckChoice$1 -/
noncomputable def cfg49 : Cfg := ⟨fun t => List.contains (α := Nat) [] t, fun i => (look (α := List (Nat × Fl)) [] i).getD []⟩
theorem ok49 : okFn Tryz.prog cfg49 Tryz.f49 = true := by kernel_rfl
/-- (*licit/comply.state).violations -/
noncomputable def cfg53 : Cfg := ⟨fun t => List.contains (α := Nat) [] t, fun i => (look (α := List (Nat × Fl)) [] i).getD []⟩
theorem ok53 : okFn Tryz.prog cfg53 Tryz.f53 = true := by kernel_rfl
/-- licit/conflict.shrink -/
noncomputable def cfg57 : Cfg := ⟨fun t => List.contains (α := Nat) [] t, fun i => (look (α := List (Nat × Fl)) [(9, [(0, .st), (1, .no), (2, .no), (3, .st), (4, .st), (5, .no), (6, .no), (7, .no), (8, .no), (9, .no), (10, .no)]), (14, [(0, .st), (1, .no), (2, .no), (3, .no), (4, .st), (5, .st), (6, .st), (7, .no), (8, .no), (9, .no), (10, .no), (11, .no), (12, .no)])] i).getD []⟩
theorem ok57 : okFn Tryz.prog cfg57 Tryz.f57 = true := by kernel_rfl
/-- licit/conflict.without -/
noncomputable def cfg61 : Cfg := ⟨fun t => List.contains (α := Nat) [] t, fun i => (look (α := List (Nat × Fl)) [] i).getD []⟩
theorem ok61 : okFn Tryz.prog cfg61 Tryz.f61 = true := by kernel_rfl
/-- slices.DeleteFunc[[]string,string] -/
noncomputable def cfg65 : Cfg := ⟨fun t => List.contains (α := Nat) [] t, fun i => (look (α := List (Nat × Fl)) [] i).getD []⟩
theorem ok65 : okFn Tryz.prog cfg65 Tryz.f65 = true := by kernel_rfl
/-- slices.stableCmpFunc[licit/api.License] -/
noncomputable def cfg71 : Cfg := ⟨fun t => List.contains (α := Nat) [] t, fun i => (look (α := List (Nat × Fl)) [] i).getD []⟩
theorem ok71 : okFn Tryz.prog cfg71 Tryz.f71 = true := by kernel_rfl
/-- cmp.Or[int] -/
noncomputable def cfg75 : Cfg := ⟨fun t => List.contains (α := Nat) [] t, fun i => (look (α := List (Nat × Fl)) [] i).getD []⟩
theorem ok75 : okFn Tryz.prog cfg75 Tryz.f75 = true := by kernel_rfl
/-- licit/catalog.index -/
noncomputable def cfg79 : Cfg := ⟨fun t => List.contains (α := Nat) [] t, fun i => (look (α := List (Nat × Fl)) [] i).getD []⟩
theorem ok79 : okFn Tryz.prog cfg79 Tryz.f79 = true := by kernel_rfl
/-- slices.Clone[licit/api.Alternative,licit/api.Term] -/
noncomputable def cfg85 : Cfg := ⟨fun t => List.contains (α := Nat) [] t, fun i => (look (α := List (Nat × Fl)) [] i).getD []⟩
theorem ok85 : okFn Tryz.prog cfg85 Tryz.f85 = true := by kernel_rfl
/-- licit/alternative.Of -/
noncomputable def cfg89 : Cfg := ⟨fun t => List.contains (α := Nat) [] t, fun i => (look (α := List (Nat × Fl)) [] i).getD []⟩
theorem ok89 : okFn Tryz.prog cfg89 Tryz.f89 = true := by kernel_rfl
/-- (*licit/comply.state).rows -/
noncomputable def cfg93 : Cfg := ⟨fun t => List.contains (α := Nat) [] t, fun i => (look (α := List (Nat × Fl)) [] i).getD []⟩
theorem ok93 : okFn Tryz.prog cfg93 Tryz.f93 = true := by kernel_rfl
/-- slices.Compact[[]int,int] -/
noncomputable def cfg97 : Cfg := ⟨fun t => List.contains (α := Nat) [] t, fun i => (look (α := List (Nat × Fl)) [(6, [(0, .no), (1, .no), (2, .no), (3, .no), (4, .no), (5, .no), (6, .no), (7, .no), (8, .no), (9, .no)]), (11, [(0, .no), (1, .no), (2, .no), (3, .no), (4, .no), (5, .no), (6, .no), (7, .no), (8, .no), (9, .no)])] i).getD []⟩
theorem ok97 : okFn Tryz.prog cfg97 Tryz.f97 = true := by kernel_rfl
/-- licit/search.open -/
noncomputable def cfg101 : Cfg := ⟨fun t => List.contains (α := Nat) [] t, fun i => (look (α := List (Nat × Fl)) [] i).getD []⟩
theorem ok101 : okFn Tryz.prog cfg101 Tryz.f101 = true := by kernel_rfl
/-- slices.Clone[[]string,string] -/
noncomputable def cfg106 : Cfg := ⟨fun t => List.contains (α := Nat) [7] t, fun i => (look (α := List (Nat × Fl)) [] i).getD []⟩
theorem ok106 : okFn Tryz.prog cfg106 Tryz.f106 = true := by kernel_rfl
/-- strings.Join -/
noncomputable def cfg112 : Cfg := ⟨fun t => List.contains (α := Nat) [] t, fun i => (look (α := List (Nat × Fl)) [] i).getD []⟩
theorem ok112 : okFn Tryz.prog cfg112 Tryz.f112 = true := by kernel_rfl
/-- slices.insertionSortCmpFunc[licit/api.License] -/
noncomputable def cfg116 : Cfg := ⟨fun t => List.contains (α := Nat) [] t, fun i => (look (α := List (Nat × Fl)) [(4, [(0, .no), (1, .no), (2, .no), (3, .no), (4, .no), (5, .no), (6, .no), (7, .no), (8, .no), (9, .no), (10, .no), (11, .no), (12, .no), (13, .no), (14, .no), (15, .no), (16, .no)]), (6, [(0, .no), (1, .no), (2, .no), (3, .no), (4, .no), (5, .no), (6, .no), (7, .no), (8, .no), (9, .no), (10, .no), (11, .no), (12, .no), (13, .no), (14, .no), (15, .no), (16, .no), (17, .no)])] i).getD []⟩
theorem ok116 : okFn Tryz.prog cfg116 Tryz.f116 = true := by kernel_rfl
/-- slices.insertionSortCmpFunc[licit/api.Apart] -/
noncomputable def cfg123 : Cfg := ⟨fun t => List.contains (α := Nat) [] t, fun i => (look (α := List (Nat × Fl)) [(4, [(0, .no), (1, .no), (2, .no), (3, .no), (4, .no), (5, .no), (6, .no), (7, .no), (8, .no), (9, .no), (10, .no), (11, .no), (12, .no), (13, .no), (14, .no), (15, .no), (16, .no)]), (6, [(0, .no), (1, .no), (2, .no), (3, .no), (4, .no), (5, .no), (6, .no), (7, .no), (8, .no), (9, .no), (10, .no), (11, .no), (12, .no), (13, .no), (14, .no), (15, .no), (16, .no), (17, .no)])] i).getD []⟩
theorem ok123 : okFn Tryz.prog cfg123 Tryz.f123 = true := by kernel_rfl
/-- licit/catalog.increases[string] -/
noncomputable def cfg130 : Cfg := ⟨fun t => List.contains (α := Nat) [] t, fun i => (look (α := List (Nat × Fl)) [(4, [(0, .no), (1, .no), (2, .no), (3, .no), (4, .no), (5, .no), (6, .no), (7, .no), (8, .no), (9, .no)])] i).getD []⟩
theorem ok130 : okFn Tryz.prog cfg130 Tryz.f130 = true := by kernel_rfl
/-- licit/licexpr.Check -/
noncomputable def cfg134 : Cfg := ⟨fun t => List.contains (α := Nat) [] t, fun i => (look (α := List (Nat × Fl)) [] i).getD []⟩
theorem ok134 : okFn Tryz.prog cfg134 Tryz.f134 = true := by kernel_rfl
/-- (*licit/comply.state).lack -/
noncomputable def cfg138 : Cfg := ⟨fun t => List.contains (α := Nat) [] t, fun i => (look (α := List (Nat × Fl)) [(6, [(0, .no), (1, .no), (2, .no), (3, .no), (4, .no), (5, .no), (6, .no), (7, .no), (8, .no), (9, .no), (10, .no), (11, .no), (12, .no), (13, .no), (14, .no), (15, .no), (16, .no), (17, .no), (18, .no)])] i).getD []⟩
theorem ok138 : okFn Tryz.prog cfg138 Tryz.f138 = true := by kernel_rfl
/-- slices.pdqsortOrdered[int] -/
noncomputable def cfg142 : Cfg := ⟨fun t => List.contains (α := Nat) [] t, fun i => (look (α := List (Nat × Fl)) [(17, [(0, .no), (1, .no), (2, .no), (3, .no), (4, .no), (5, .no), (6, .no), (7, .no), (8, .no), (9, .no), (10, .no), (11, .no), (12, .no), (13, .no), (14, .no)])] i).getD []⟩
theorem ok142 : okFn Tryz.prog cfg142 Tryz.f142 = true := by kernel_rfl
/-- (*licit/search.space).formed -/
noncomputable def cfg146 : Cfg := ⟨fun t => List.contains (α := Nat) [] t, fun i => (look (α := List (Nat × Fl)) [(10, [(0, .no), (1, .no), (2, .no), (3, .no), (4, .no), (5, .st), (6, .no), (7, .no), (8, .no), (9, .no), (10, .no), (11, .no), (12, .no), (13, .no), (14, .no), (15, .no), (16, .no), (17, .no), (18, .no), (19, .st), (20, .no), (21, .no), (22, .no), (23, .no), (24, .no), (25, .no), (26, .no), (27, .no), (28, .no), (29, .no), (30, .no), (31, .no), (32, .no), (33, .no), (34, .no), (35, .no), (36, .no), (37, .no), (38, .no), (39, .no), (40, .no)])] i).getD []⟩
theorem ok146 : okFn Tryz.prog cfg146 Tryz.f146 = true := by kernel_rfl
/-- licit/duty.uses -/
noncomputable def cfg162 : Cfg := ⟨fun t => List.contains (α := Nat) [] t, fun i => (look (α := List (Nat × Fl)) [] i).getD []⟩
theorem ok162 : okFn Tryz.prog cfg162 Tryz.f162 = true := by kernel_rfl
/-- licit/licexpr.CheckForm -/
noncomputable def cfg166 : Cfg := ⟨fun t => List.contains (α := Nat) [] t, fun i => (look (α := List (Nat × Fl)) [] i).getD []⟩
theorem ok166 : okFn Tryz.prog cfg166 Tryz.f166 = true := by kernel_rfl
/-- (*licit/comply.state).has -/
noncomputable def cfg175 : Cfg := ⟨fun t => List.contains (α := Nat) [] t, fun i => (look (α := List (Nat × Fl)) [(1, [(0, .no), (1, .no), (2, .no), (3, .no), (4, .no), (5, .no), (6, .no), (7, .no), (8, .no)]), (4, [(4, .no), (0, .no), (1, .no), (2, .no), (3, .no), (5, .no), (6, .no), (7, .no), (8, .no), (9, .no), (10, .no), (11, .no), (12, .no), (13, .no), (14, .no), (15, .no), (16, .no), (17, .no), (18, .no), (19, .no), (20, .no), (21, .no), (22, .no), (25, .no), (23, .no), (24, .no)])] i).getD []⟩
theorem ok175 : okFn Tryz.prog cfg175 Tryz.f175 = true := by kernel_rfl
/-- (*licit/comply.state).must$1 -/
noncomputable def cfg181 : Cfg := ⟨fun t => List.contains (α := Nat) [] t, fun i => (look (α := List (Nat × Fl)) [] i).getD []⟩
theorem ok181 : okFn Tryz.prog cfg181 Tryz.f181 = true := by kernel_rfl
/-- math/bits.Len64 -/
noncomputable def cfg194 : Cfg := ⟨fun t => List.contains (α := Nat) [] t, fun i => (look (α := List (Nat × Fl)) [] i).getD []⟩
theorem ok194 : okFn Tryz.prog cfg194 Tryz.f194 = true := by kernel_rfl
/-- (*licit/search.space).next -/
noncomputable def cfg205 : Cfg := ⟨fun t => List.contains (α := Nat) [] t, fun i => (look (α := List (Nat × Fl)) [] i).getD []⟩
theorem ok205 : okFn Tryz.prog cfg205 Tryz.f205 = true := by kernel_rfl
/-- (*licit/search.space).count -/
noncomputable def cfg209 : Cfg := ⟨fun t => List.contains (α := Nat) [] t, fun i => (look (α := List (Nat × Fl)) [(1, [(0, .no), (1, .no), (2, .no), (3, .no), (4, .no), (5, .no), (6, .no), (7, .no), (8, .no), (9, .no), (10, .no), (11, .no)])] i).getD []⟩
theorem ok209 : okFn Tryz.prog cfg209 Tryz.f209 = true := by kernel_rfl
/-- internal/strconv.Atoi -/
noncomputable def cfg225 : Cfg := ⟨fun t => List.contains (α := Nat) [] t, fun i => (look (α := List (Nat × Fl)) [] i).getD []⟩
theorem ok225 : okFn Tryz.prog cfg225 Tryz.f225 = true := by kernel_rfl
/-- licit/tree.part -/
noncomputable def cfg236 : Cfg := ⟨fun t => List.contains (α := Nat) [] t, fun i => (look (α := List (Nat × Fl)) [] i).getD []⟩
theorem ok236 : okFn Tryz.prog cfg236 Tryz.f236 = true := by kernel_rfl
/-- licit/licexpr.nodes$1 -/
noncomputable def cfg240 : Cfg := ⟨fun t => List.contains (α := Nat) [] t, fun i => (look (α := List (Nat × Fl)) [] i).getD []⟩
theorem ok240 : okFn Tryz.prog cfg240 Tryz.f240 = true := by kernel_rfl
/-- (*licit/comply.state).triples$1$1 -/
noncomputable def cfg256 : Cfg := ⟨fun t => List.contains (α := Nat) [] t, fun i => (look (α := List (Nat × Fl)) [] i).getD []⟩
theorem ok256 : okFn Tryz.prog cfg256 Tryz.f256 = true := by kernel_rfl
/-- licit/catalog.Incompatible -/
noncomputable def cfg260 : Cfg := ⟨fun t => List.contains (α := Nat) [] t, fun i => (look (α := List (Nat × Fl)) [] i).getD []⟩
theorem ok260 : okFn Tryz.prog cfg260 Tryz.f260 = true := by kernel_rfl
/-- licit/licexpr.isName -/
noncomputable def cfg284 : Cfg := ⟨fun t => List.contains (α := Nat) [] t, fun i => (look (α := List (Nat × Fl)) [] i).getD []⟩
theorem ok284 : okFn Tryz.prog cfg284 Tryz.f284 = true := by kernel_rfl
/-- strings.indexFunc -/
noncomputable def cfg334 : Cfg := ⟨fun t => List.contains (α := Nat) [] t, fun i => (look (α := List (Nat × Fl)) [] i).getD []⟩
theorem ok334 : okFn Tryz.prog cfg334 Tryz.f334 = true := by kernel_rfl
end Go.V
namespace Go.V
open Go.Proofs
/-- licit/comply.Complies -/
noncomputable def cfg9 : Cfg := ⟨fun t => List.contains (α := Nat) [] t, fun i => (look (α := List (Nat × Fl)) [] i).getD []⟩
theorem ok9 : okFn Tryz.prog cfg9 Tryz.f9 = true := by kernel_rfl
/-- licit/catalog.Parse -/
noncomputable def cfg13 : Cfg := ⟨fun t => List.contains (α := Nat) [17] t, fun i => (look (α := List (Nat × Fl)) [(7, [(0, .no), (1, .no), (2, .no), (3, .no), (4, .no), (5, .no), (6, .no), (7, .no), (8, .no), (9, .no)])] i).getD []⟩
theorem ok13 : okFn Tryz.prog cfg13 Tryz.f13 = true := by kernel_rfl
/-- licit/duty.CheckChoice -/
noncomputable def cfg18 : Cfg := ⟨fun t => List.contains (α := Nat) [] t, fun i => (look (α := List (Nat × Fl)) [] i).getD []⟩
theorem ok18 : okFn Tryz.prog cfg18 Tryz.f18 = true := by kernel_rfl
/-- licit/conflict.Find -/
noncomputable def cfg22 : Cfg := ⟨fun t => List.contains (α := Nat) [] t, fun i => (look (α := List (Nat × Fl)) [(4, [(0, .st), (1, .no), (2, .no), (3, .no), (4, .no), (5, .no)]), (6, [(0, .st), (1, .no), (2, .no), (3, .no), (4, .no), (5, .no), (6, .no)])] i).getD []⟩
theorem ok22 : okFn Tryz.prog cfg22 Tryz.f22 = true := by kernel_rfl
/-- slices.ContainsFunc[[]int,int] -/
noncomputable def cfg26 : Cfg := ⟨fun t => List.contains (α := Nat) [] t, fun i => (look (α := List (Nat × Fl)) [] i).getD []⟩
theorem ok26 : okFn Tryz.prog cfg26 Tryz.f26 = true := by kernel_rfl
/-- (*licit/catalog.reader).line -/
noncomputable def cfg30 : Cfg := ⟨fun t => List.contains (α := Nat) [] t, fun i => (look (α := List (Nat × Fl)) [] i).getD []⟩
theorem ok30 : okFn Tryz.prog cfg30 Tryz.f30 = true := by kernel_rfl
/-- slices.SortStableFunc[[]licit/api.Exception,licit/api.Exception] -/
noncomputable def cfg34 : Cfg := ⟨fun t => List.contains (α := Nat) [] t, fun i => (look (α := List (Nat × Fl)) [] i).getD []⟩
theorem ok34 : okFn Tryz.prog cfg34 Tryz.f34 = true := by kernel_rfl
/-- licit/duty.counted -/
noncomputable def cfg41 : Cfg := ⟨fun t => List.contains (α := Nat) [] t, fun i => (look (α := List (Nat × Fl)) [] i).getD []⟩
theorem ok41 : okFn Tryz.prog cfg41 Tryz.f41 = true := by kernel_rfl
/-- licit/comply.equal -/
noncomputable def cfg46 : Cfg := ⟨fun t => List.contains (α := Nat) [] t, fun i => (look (α := List (Nat × Fl)) [] i).getD []⟩
theorem ok46 : okFn Tryz.prog cfg46 Tryz.f46 = true := by kernel_rfl
/-- slices.Equal[licit/api.Alternative,licit/api.Term] -/
noncomputable def cfg50 : Cfg := ⟨fun t => List.contains (α := Nat) [] t, fun i => (look (α := List (Nat × Fl)) [(6, [(0, .no), (1, .no), (2, .no), (3, .no), (4, .no), (5, .no), (6, .no), (7, .no), (8, .no)])] i).getD []⟩
theorem ok50 : okFn Tryz.prog cfg50 Tryz.f50 = true := by kernel_rfl
/-- licit/duty.Count -/
noncomputable def cfg54 : Cfg := ⟨fun t => List.contains (α := Nat) [] t, fun i => (look (α := List (Nat × Fl)) [] i).getD []⟩
theorem ok54 : okFn Tryz.prog cfg54 Tryz.f54 = true := by kernel_rfl
/-- slices.DeleteFunc[[]int,int] -/
noncomputable def cfg58 : Cfg := ⟨fun t => List.contains (α := Nat) [] t, fun i => (look (α := List (Nat × Fl)) [] i).getD []⟩
theorem ok58 : okFn Tryz.prog cfg58 Tryz.f58 = true := by kernel_rfl
/-- slices.IndexFunc[[]int,int] -/
noncomputable def cfg62 : Cfg := ⟨fun t => List.contains (α := Nat) [] t, fun i => (look (α := List (Nat × Fl)) [] i).getD []⟩
theorem ok62 : okFn Tryz.prog cfg62 Tryz.f62 = true := by kernel_rfl
/-- (*licit/catalog.reader).line$1 -/
noncomputable def cfg66 : Cfg := ⟨fun t => List.contains (α := Nat) [] t, fun i => (look (α := List (Nat × Fl)) [] i).getD []⟩
theorem ok66 : okFn Tryz.prog cfg66 Tryz.f66 = true := by kernel_rfl
/-- cmp.isNaN[string] -/
noncomputable def cfg72 : Cfg := ⟨fun t => List.contains (α := Nat) [] t, fun i => (look (α := List (Nat × Fl)) [] i).getD []⟩
theorem ok72 : okFn Tryz.prog cfg72 Tryz.f72 = true := by kernel_rfl
/-- cmp.Compare[int] -/
noncomputable def cfg76 : Cfg := ⟨fun t => List.contains (α := Nat) [] t, fun i => (look (α := List (Nat × Fl)) [] i).getD []⟩
theorem ok76 : okFn Tryz.prog cfg76 Tryz.f76 = true := by kernel_rfl
/-- licit/catalog.checkClause -/
noncomputable def cfg81 : Cfg := ⟨fun t => List.contains (α := Nat) [] t, fun i => (look (α := List (Nat × Fl)) [(16, [(0, .no), (1, .no), (2, .no), (3, .no), (4, .no), (5, .no), (6, .no), (7, .no), (13, .no), (8, .no), (9, .no), (10, .no), (11, .no), (12, .no), (14, .no), (15, .no), (16, .no), (17, .no)])] i).getD []⟩
theorem ok81 : okFn Tryz.prog cfg81 Tryz.f81 = true := by kernel_rfl
/-- slices.IndexFunc[[]licit/api.Violation,licit/api.Violation] -/
noncomputable def cfg86 : Cfg := ⟨fun t => List.contains (α := Nat) [] t, fun i => (look (α := List (Nat × Fl)) [] i).getD []⟩
theorem ok86 : okFn Tryz.prog cfg86 Tryz.f86 = true := by kernel_rfl
/-- slices.IndexFunc[[]licit/api.Alternative,licit/api.Alternative] -/
noncomputable def cfg90 : Cfg := ⟨fun t => List.contains (α := Nat) [] t, fun i => (look (α := List (Nat × Fl)) [] i).getD []⟩
theorem ok90 : okFn Tryz.prog cfg90 Tryz.f90 = true := by kernel_rfl
/-- (*licit/comply.state).violations$1$1 -/
noncomputable def cfg94 : Cfg := ⟨fun t => List.contains (α := Nat) [16] t, fun i => (look (α := List (Nat × Fl)) [(2, [(0, .st), (1, .no), (2, .st), (3, .no), (4, .no), (5, .no), (6, .no), (7, .no), (8, .no)])] i).getD []⟩
theorem ok94 : okFn Tryz.prog cfg94 Tryz.f94 = true := by kernel_rfl
/-- slices.SortFunc[[]licit/api.Violation,licit/api.Violation] -/
noncomputable def cfg98 : Cfg := ⟨fun t => List.contains (α := Nat) [] t, fun i => (look (α := List (Nat × Fl)) [] i).getD []⟩
theorem ok98 : okFn Tryz.prog cfg98 Tryz.f98 = true := by kernel_rfl
/-- (*licit/search.space).right -/
noncomputable def cfg102 : Cfg := ⟨fun t => List.contains (α := Nat) [] t, fun i => (look (α := List (Nat × Fl)) [(12, [(0, .no), (1, .no), (2, .no), (3, .no), (4, .no), (8, .no), (12, .no), (5, .no), (6, .no), (7, .no), (9, .no), (10, .no), (11, .no), (13, .no), (14, .no), (15, .no), (16, .no), (17, .no)])] i).getD []⟩
theorem ok102 : okFn Tryz.prog cfg102 Tryz.f102 = true := by kernel_rfl
/-- strings.Count -/
noncomputable def cfg108 : Cfg := ⟨fun t => List.contains (α := Nat) [] t, fun i => (look (α := List (Nat × Fl)) [] i).getD []⟩
theorem ok108 : okFn Tryz.prog cfg108 Tryz.f108 = true := by kernel_rfl
/-- licit/catalog.dutyWords -/
noncomputable def cfg113 : Cfg := ⟨fun t => List.contains (α := Nat) [] t, fun i => (look (α := List (Nat × Fl)) [] i).getD []⟩
theorem ok113 : okFn Tryz.prog cfg113 Tryz.f113 = true := by kernel_rfl
/-- slices.insertionSortCmpFunc[licit/api.Exception] -/
noncomputable def cfg118 : Cfg := ⟨fun t => List.contains (α := Nat) [] t, fun i => (look (α := List (Nat × Fl)) [(4, [(0, .no), (1, .no), (2, .no), (3, .no), (4, .no), (5, .no), (6, .no), (7, .no), (8, .no), (9, .no), (10, .no), (11, .no), (12, .no), (13, .no), (14, .no), (15, .no), (16, .no)]), (6, [(0, .no), (1, .no), (2, .no), (3, .no), (4, .no), (5, .no), (6, .no), (7, .no), (8, .no), (9, .no), (10, .no), (11, .no), (12, .no), (13, .no), (14, .no), (15, .no), (16, .no), (17, .no)])] i).getD []⟩
theorem ok118 : okFn Tryz.prog cfg118 Tryz.f118 = true := by kernel_rfl
/-- licit/catalog.isName -/
noncomputable def cfg125 : Cfg := ⟨fun t => List.contains (α := Nat) [] t, fun i => (look (α := List (Nat × Fl)) [] i).getD []⟩
theorem ok125 : okFn Tryz.prog cfg125 Tryz.f125 = true := by kernel_rfl
/-- slices.Index[[]int,int] -/
noncomputable def cfg131 : Cfg := ⟨fun t => List.contains (α := Nat) [] t, fun i => (look (α := List (Nat × Fl)) [] i).getD []⟩
theorem ok131 : okFn Tryz.prog cfg131 Tryz.f131 = true := by kernel_rfl
/-- licit/alternative.meaning -/
noncomputable def cfg135 : Cfg := ⟨fun t => List.contains (α := Nat) [] t, fun i => (look (α := List (Nat × Fl)) [] i).getD []⟩
theorem ok135 : okFn Tryz.prog cfg135 Tryz.f135 = true := by kernel_rfl
/-- (*licit/comply.state).apart -/
noncomputable def cfg139 : Cfg := ⟨fun t => List.contains (α := Nat) [] t, fun i => (look (α := List (Nat × Fl)) [(3, [(0, .no), (1, .no), (2, .no), (3, .no), (4, .no), (5, .no), (6, .no), (7, .no), (8, .no), (9, .no)]), (6, [(0, .no), (9, .no), (1, .no), (2, .no), (3, .no), (4, .no), (5, .no), (6, .no), (7, .no), (8, .no), (10, .no), (11, .no), (12, .no), (13, .no), (14, .no), (15, .no), (16, .no), (17, .no), (18, .no), (19, .no)]), (7, [(0, .no), (1, .no), (2, .no), (3, .no), (4, .no), (5, .no), (6, .no), (7, .no), (8, .no), (9, .no), (10, .no), (11, .no), (12, .no), (13, .no), (14, .no), (15, .no), (16, .no), (17, .no), (18, .no), (19, .no), (20, .no), (21, .no), (22, .no), (23, .no), (24, .no), (25, .no), (26, .no), (27, .no), (28, .no), (29, .no), (30, .no), (31, .no), (32, .no), (33, .no)]), (8, [(0, .no), (1, .no), (8, .no), (2, .no), (3, .no), (4, .no), (5, .no), (6, .no), (7, .no), (9, .no), (10, .no), (11, .no), (12, .no), (13, .no), (14, .no), (15, .no)])] i).getD []⟩
theorem ok139 : okFn Tryz.prog cfg139 Tryz.f139 = true := by kernel_rfl
/-- math/bits.Len -/
noncomputable def cfg143 : Cfg := ⟨fun t => List.contains (α := Nat) [] t, fun i => (look (α := List (Nat × Fl)) [] i).getD []⟩
theorem ok143 : okFn Tryz.prog cfg143 Tryz.f143 = true := by kernel_rfl
/-- (*licit/search.space).leaves -/
noncomputable def cfg147 : Cfg := ⟨fun t => List.contains (α := Nat) [] t, fun i => (look (α := List (Nat × Fl)) [] i).getD []⟩
theorem ok147 : okFn Tryz.prog cfg147 Tryz.f147 = true := by kernel_rfl
/-- licit/duty.extra -/
noncomputable def cfg163 : Cfg := ⟨fun t => List.contains (α := Nat) [] t, fun i => (look (α := List (Nat × Fl)) [] i).getD []⟩
theorem ok163 : okFn Tryz.prog cfg163 Tryz.f163 = true := by kernel_rfl
/-- licit/licexpr.nodes -/
noncomputable def cfg167 : Cfg := ⟨fun t => List.contains (α := Nat) [] t, fun i => (look (α := List (Nat × Fl)) [] i).getD []⟩
theorem ok167 : okFn Tryz.prog cfg167 Tryz.f167 = true := by kernel_rfl
/-- (*licit/comply.state).share$1 -/
noncomputable def cfg177 : Cfg := ⟨fun t => List.contains (α := Nat) [] t, fun i => (look (α := List (Nat × Fl)) [] i).getD []⟩
theorem ok177 : okFn Tryz.prog cfg177 Tryz.f177 = true := by kernel_rfl
/-- (*licit/comply.state).must$2 -/
noncomputable def cfg182 : Cfg := ⟨fun t => List.contains (α := Nat) [] t, fun i => (look (α := List (Nat × Fl)) [(1, [(2, .no), (6, .no), (0, .no), (1, .no), (3, .no), (4, .no), (5, .no), (7, .no), (8, .no), (9, .no), (10, .no), (11, .no)])] i).getD []⟩
theorem ok182 : okFn Tryz.prog cfg182 Tryz.f182 = true := by kernel_rfl
/-- slices.insertionSortCmpFunc[licit/api.Violation] -/
noncomputable def cfg195 : Cfg := ⟨fun t => List.contains (α := Nat) [] t, fun i => (look (α := List (Nat × Fl)) [(4, [(0, .no), (1, .no), (2, .no), (3, .no), (4, .no), (5, .no), (6, .no), (7, .no), (8, .no), (9, .no), (10, .no), (11, .no), (12, .no), (13, .no), (14, .no), (15, .no), (16, .no)]), (6, [(0, .no), (1, .no), (2, .no), (3, .no), (4, .no), (5, .no), (6, .no), (7, .no), (8, .no), (9, .no), (10, .no), (11, .no), (12, .no), (13, .no), (14, .no), (15, .no), (16, .no), (17, .no)])] i).getD []⟩
theorem ok195 : okFn Tryz.prog cfg195 Tryz.f195 = true := by kernel_rfl
/-- (*licit/search.space).size -/
noncomputable def cfg206 : Cfg := ⟨fun t => List.contains (α := Nat) [] t, fun i => (look (α := List (Nat × Fl)) [] i).getD []⟩
theorem ok206 : okFn Tryz.prog cfg206 Tryz.f206 = true := by kernel_rfl
/-- (*licit/search.space).leaves$1 -/
noncomputable def cfg210 : Cfg := ⟨fun t => List.contains (α := Nat) [] t, fun i => (look (α := List (Nat × Fl)) [(3, [(0, .st), (1, .no), (2, .no), (3, .no)])] i).getD []⟩
theorem ok210 : okFn Tryz.prog cfg210 Tryz.f210 = true := by kernel_rfl
/-- licit/duty.plain -/
noncomputable def cfg233 : Cfg := ⟨fun t => List.contains (α := Nat) [] t, fun i => (look (α := List (Nat × Fl)) [] i).getD []⟩
theorem ok233 : okFn Tryz.prog cfg233 Tryz.f233 = true := by kernel_rfl
/-- licit/licexpr.Size -/
noncomputable def cfg237 : Cfg := ⟨fun t => List.contains (α := Nat) [] t, fun i => (look (α := List (Nat × Fl)) [] i).getD []⟩
theorem ok237 : okFn Tryz.prog cfg237 Tryz.f237 = true := by kernel_rfl
/-- licit/licexpr.nodes$2 -/
noncomputable def cfg241 : Cfg := ⟨fun t => List.contains (α := Nat) [] t, fun i => (look (α := List (Nat × Fl)) [] i).getD []⟩
theorem ok241 : okFn Tryz.prog cfg241 Tryz.f241 = true := by kernel_rfl
/-- (*licit/comply.state).triples$1$2 -/
noncomputable def cfg257 : Cfg := ⟨fun t => List.contains (α := Nat) [] t, fun i => (look (α := List (Nat × Fl)) [(1, [(2, .no), (6, .no), (0, .no), (1, .no), (3, .no), (4, .no), (5, .no), (7, .no), (8, .no), (9, .no), (10, .no), (11, .no)])] i).getD []⟩
theorem ok257 : okFn Tryz.prog cfg257 Tryz.f257 = true := by kernel_rfl
/-- slices.Clone[[]licit/api.Alternative,licit/api.Alternative] -/
noncomputable def cfg269 : Cfg := ⟨fun t => List.contains (α := Nat) [7] t, fun i => (look (α := List (Nat × Fl)) [] i).getD []⟩
theorem ok269 : okFn Tryz.prog cfg269 Tryz.f269 = true := by kernel_rfl
/-- slices.Contains[[]licit/api.Apart,licit/api.Apart] -/
noncomputable def cfg293 : Cfg := ⟨fun t => List.contains (α := Nat) [] t, fun i => (look (α := List (Nat × Fl)) [] i).getD []⟩
theorem ok293 : okFn Tryz.prog cfg293 Tryz.f293 = true := by kernel_rfl
end Go.V
namespace Go.V
open Go.Proofs
/-- licit/licitlaw42.awake -/
noncomputable def cfg10 : Cfg := ⟨fun t => List.contains (α := Nat) [] t, fun i => (look (α := List (Nat × Fl)) [(4, [(0, .st), (1, .no), (2, .no), (3, .st), (4, .no), (5, .no), (6, .no), (7, .no), (8, .no), (9, .no)])] i).getD []⟩
theorem ok10 : okFn Tryz.prog cfg10 Tryz.f10 = true := by kernel_rfl
/-- licit/comply.First -/
noncomputable def cfg15 : Cfg := ⟨fun t => List.contains (α := Nat) [] t, fun i => (look (α := List (Nat × Fl)) [] i).getD []⟩
theorem ok15 : okFn Tryz.prog cfg15 Tryz.f15 = true := by kernel_rfl
/-- licit/comply.start -/
noncomputable def cfg19 : Cfg := ⟨fun t => List.contains (α := Nat) [] t, fun i => (look (α := List (Nat × Fl)) [(10, [(0, .no), (1, .no), (2, .no), (3, .no), (4, .no), (5, .no), (6, .no), (7, .no), (8, .no), (9, .no), (10, .no)]), (16, [(0, .no), (1, .no), (2, .no), (3, .no), (4, .no), (5, .no), (6, .no), (7, .no)])] i).getD []⟩
theorem ok19 : okFn Tryz.prog cfg19 Tryz.f19 = true := by kernel_rfl
/-- licit/conflict.Packing -/
noncomputable def cfg23 : Cfg := ⟨fun t => List.contains (α := Nat) [] t, fun i => (look (α := List (Nat × Fl)) [] i).getD []⟩
theorem ok23 : okFn Tryz.prog cfg23 Tryz.f23 = true := by kernel_rfl
/-- licit/conflict.Part$1 -/
noncomputable def cfg27 : Cfg := ⟨fun t => List.contains (α := Nat) [] t, fun i => (look (α := List (Nat × Fl)) [] i).getD []⟩
theorem ok27 : okFn Tryz.prog cfg27 Tryz.f27 = true := by kernel_rfl
/-- slices.SortStableFunc[[]licit/api.License,licit/api.License] -/
noncomputable def cfg31 : Cfg := ⟨fun t => List.contains (α := Nat) [] t, fun i => (look (α := List (Nat × Fl)) [] i).getD []⟩
theorem ok31 : okFn Tryz.prog cfg31 Tryz.f31 = true := by kernel_rfl
/-- slices.SortStableFunc[[]licit/api.Clause,licit/api.Clause] -/
noncomputable def cfg36 : Cfg := ⟨fun t => List.contains (α := Nat) [] t, fun i => (look (α := List (Nat × Fl)) [] i).getD []⟩
theorem ok36 : okFn Tryz.prog cfg36 Tryz.f36 = true := by kernel_rfl
/-- (licit/duty.counter).total -/
noncomputable def cfg42 : Cfg := ⟨fun t => List.contains (α := Nat) [] t, fun i => (look (α := List (Nat × Fl)) [] i).getD []⟩
theorem ok42 : okFn Tryz.prog cfg42 Tryz.f42 = true := by kernel_rfl
/-- licit/duty.Values -/
noncomputable def cfg47 : Cfg := ⟨fun t => List.contains (α := Nat) [] t, fun i => (look (α := List (Nat × Fl)) [] i).getD []⟩
theorem ok47 : okFn Tryz.prog cfg47 Tryz.f47 = true := by kernel_rfl
/-- slices.ContainsFunc[[]licit/api.License,licit/api.License] -/
noncomputable def cfg51 : Cfg := ⟨fun t => List.contains (α := Nat) [] t, fun i => (look (α := List (Nat × Fl)) [] i).getD []⟩
theorem ok51 : okFn Tryz.prog cfg51 Tryz.f51 = true := by kernel_rfl
/-- licit/conflict.rejected -/
noncomputable def cfg55 : Cfg := ⟨fun t => List.contains (α := Nat) [] t, fun i => (look (α := List (Nat × Fl)) [(1, [(0, .st), (1, .no), (2, .no), (3, .st), (4, .st), (5, .no), (6, .no), (7, .no), (8, .no), (9, .no), (10, .no)])] i).getD []⟩
theorem ok55 : okFn Tryz.prog cfg55 Tryz.f55 = true := by kernel_rfl
/-- licit/conflict.Packing$1 -/
noncomputable def cfg59 : Cfg := ⟨fun t => List.contains (α := Nat) [] t, fun i => (look (α := List (Nat × Fl)) [] i).getD []⟩
theorem ok59 : okFn Tryz.prog cfg59 Tryz.f59 = true := by kernel_rfl
/-- licit/conflict.chosen -/
noncomputable def cfg63 : Cfg := ⟨fun t => List.contains (α := Nat) [] t, fun i => (look (α := List (Nat × Fl)) [] i).getD []⟩
theorem ok63 : okFn Tryz.prog cfg63 Tryz.f63 = true := by kernel_rfl
/-- (*licit/catalog.reader).license -/
noncomputable def cfg67 : Cfg := ⟨fun t => List.contains (α := Nat) [] t, fun i => (look (α := List (Nat × Fl)) [(7, [(0, .no), (1, .no), (2, .no), (3, .no), (4, .no), (5, .no), (6, .no), (7, .no), (8, .no), (9, .no), (10, .no), (11, .no)]), (9, [(0, .no), (1, .no), (2, .no), (3, .no), (4, .no), (5, .no), (6, .no), (7, .no), (8, .no), (9, .no), (10, .no), (11, .no), (12, .no), (13, .no), (14, .no), (15, .no), (16, .no)]), (11, [(0, .no), (1, .no), (2, .no), (3, .no), (4, .no), (5, .no), (6, .no), (7, .no), (8, .no), (9, .no), (10, .no), (11, .no), (12, .no), (13, .no), (14, .no), (15, .no), (16, .no), (17, .no), (18, .no), (19, .no), (20, .no)])] i).getD []⟩
theorem ok67 : okFn Tryz.prog cfg67 Tryz.f67 = true := by kernel_rfl
/-- slices.stableCmpFunc[licit/api.Exception] -/
noncomputable def cfg73 : Cfg := ⟨fun t => List.contains (α := Nat) [] t, fun i => (look (α := List (Nat × Fl)) [] i).getD []⟩
theorem ok73 : okFn Tryz.prog cfg73 Tryz.f73 = true := by kernel_rfl
/-- slices.stableCmpFunc[licit/api.Apart] -/
noncomputable def cfg77 : Cfg := ⟨fun t => List.contains (α := Nat) [] t, fun i => (look (α := List (Nat × Fl)) [] i).getD []⟩
theorem ok77 : okFn Tryz.prog cfg77 Tryz.f77 = true := by kernel_rfl
/-- (licit/duty.counter).radices -/
noncomputable def cfg83 : Cfg := ⟨fun t => List.contains (α := Nat) [] t, fun i => (look (α := List (Nat × Fl)) [] i).getD []⟩
theorem ok83 : okFn Tryz.prog cfg83 Tryz.f83 = true := by kernel_rfl
/-- licit/comply.compare -/
noncomputable def cfg87 : Cfg := ⟨fun t => List.contains (α := Nat) [] t, fun i => (look (α := List (Nat × Fl)) [(1, [(0, .no), (1, .no), (2, .no), (3, .no), (5, .no), (6, .st), (7, .no), (8, .st), (4, .no), (9, .no), (10, .no), (11, .no), (12, .no)])] i).getD []⟩
theorem ok87 : okFn Tryz.prog cfg87 Tryz.f87 = true := by kernel_rfl
/-- slices.IndexFunc[[]licit/api.License,licit/api.License] -/
noncomputable def cfg91 : Cfg := ⟨fun t => List.contains (α := Nat) [] t, fun i => (look (α := List (Nat × Fl)) [] i).getD []⟩
theorem ok91 : okFn Tryz.prog cfg91 Tryz.f91 = true := by kernel_rfl
/-- slices.Clone[[]int,int] -/
noncomputable def cfg95 : Cfg := ⟨fun t => List.contains (α := Nat) [7] t, fun i => (look (α := List (Nat × Fl)) [] i).getD []⟩
theorem ok95 : okFn Tryz.prog cfg95 Tryz.f95 = true := by kernel_rfl
/-- slices.CompactFunc[[]licit/api.Violation,licit/api.Violation] -/
noncomputable def cfg99 : Cfg := ⟨fun t => List.contains (α := Nat) [] t, fun i => (look (α := List (Nat × Fl)) [(6, [(0, .no), (1, .no), (2, .no), (3, .no), (4, .no), (5, .no), (6, .no), (7, .no), (8, .no), (9, .no), (10, .no)]), (11, [(0, .no), (1, .no), (2, .no), (3, .no), (4, .no), (5, .no), (6, .no), (7, .no), (8, .no), (9, .no), (10, .no), (11, .no)])] i).getD []⟩
theorem ok99 : okFn Tryz.prog cfg99 Tryz.f99 = true := by kernel_rfl
/-- licit/conflict.chosen$1 -/
noncomputable def cfg104 : Cfg := ⟨fun t => List.contains (α := Nat) [] t, fun i => (look (α := List (Nat × Fl)) [(4, [(0, .no), (1, .no), (3, .no), (4, .st), (2, .no), (6, .no), (5, .no), (7, .no), (8, .no), (9, .no)])] i).getD []⟩
theorem ok104 : okFn Tryz.prog cfg104 Tryz.f104 = true := by kernel_rfl
/-- slices.IndexFunc[[]string,string] -/
noncomputable def cfg110 : Cfg := ⟨fun t => List.contains (α := Nat) [] t, fun i => (look (α := List (Nat × Fl)) [] i).getD []⟩
theorem ok110 : okFn Tryz.prog cfg110 Tryz.f110 = true := by kernel_rfl
/-- licit/catalog.wayWords -/
noncomputable def cfg114 : Cfg := ⟨fun t => List.contains (α := Nat) [] t, fun i => (look (α := List (Nat × Fl)) [] i).getD []⟩
theorem ok114 : okFn Tryz.prog cfg114 Tryz.f114 = true := by kernel_rfl
/-- slices.insertionSortCmpFunc[licit/api.Clause] -/
noncomputable def cfg120 : Cfg := ⟨fun t => List.contains (α := Nat) [] t, fun i => (look (α := List (Nat × Fl)) [(4, [(0, .no), (1, .no), (2, .no), (3, .no), (4, .no), (5, .no), (6, .no), (7, .no), (8, .no), (9, .no), (10, .no), (11, .no), (12, .no), (13, .no), (14, .no), (15, .no), (16, .no)]), (6, [(0, .no), (1, .no), (2, .no), (3, .no), (4, .no), (5, .no), (6, .no), (7, .no), (8, .no), (9, .no), (10, .no), (11, .no), (12, .no), (13, .no), (14, .no), (15, .no), (16, .no), (17, .no)])] i).getD []⟩
theorem ok120 : okFn Tryz.prog cfg120 Tryz.f120 = true := by kernel_rfl
/-- licit/catalog.lines -/
noncomputable def cfg126 : Cfg := ⟨fun t => List.contains (α := Nat) [] t, fun i => (look (α := List (Nat × Fl)) [] i).getD []⟩
theorem ok126 : okFn Tryz.prog cfg126 Tryz.f126 = true := by kernel_rfl
/-- slices.Compare[[]int,int] -/
noncomputable def cfg132 : Cfg := ⟨fun t => List.contains (α := Nat) [] t, fun i => (look (α := List (Nat × Fl)) [] i).getD []⟩
theorem ok132 : okFn Tryz.prog cfg132 Tryz.f132 = true := by kernel_rfl
/-- (*licit/comply.state).forbid -/
noncomputable def cfg136 : Cfg := ⟨fun t => List.contains (α := Nat) [] t, fun i => (look (α := List (Nat × Fl)) [] i).getD []⟩
theorem ok136 : okFn Tryz.prog cfg136 Tryz.f136 = true := by kernel_rfl
/-- (*licit/comply.state).must -/
noncomputable def cfg140 : Cfg := ⟨fun t => List.contains (α := Nat) [] t, fun i => (look (α := List (Nat × Fl)) [(3, [(0, .no), (4, .no), (8, .no), (1, .no), (2, .no), (3, .no), (5, .no), (6, .no), (7, .no), (9, .no), (10, .no), (11, .no), (12, .no), (13, .no), (14, .no), (15, .no), (16, .no), (17, .no)]), (4, [(0, .no), (1, .no), (2, .no), (3, .no), (7, .no), (4, .no), (5, .no), (6, .no), (8, .no), (9, .no), (10, .no), (11, .no), (12, .no), (13, .no)])] i).getD []⟩
theorem ok140 : okFn Tryz.prog cfg140 Tryz.f140 = true := by kernel_rfl
/-- slices.pdqsortCmpFunc[licit/api.Violation] -/
noncomputable def cfg144 : Cfg := ⟨fun t => List.contains (α := Nat) [] t, fun i => (look (α := List (Nat × Fl)) [(17, [(0, .no), (1, .no), (2, .no), (3, .no), (4, .no), (5, .no), (6, .no), (7, .no), (8, .no), (9, .no), (10, .no), (11, .no), (12, .no), (13, .no), (14, .no), (15, .no), (16, .no)])] i).getD []⟩
theorem ok144 : okFn Tryz.prog cfg144 Tryz.f144 = true := by kernel_rfl
/-- slices.Clone[[]licit/api.LicExpr,licit/api.LicExpr] -/
noncomputable def cfg148 : Cfg := ⟨fun t => List.contains (α := Nat) [7] t, fun i => (look (α := List (Nat × Fl)) [] i).getD []⟩
theorem ok148 : okFn Tryz.prog cfg148 Tryz.f148 = true := by kernel_rfl
/-- licit/tree.Path -/
noncomputable def cfg164 : Cfg := ⟨fun t => List.contains (α := Nat) [] t, fun i => (look (α := List (Nat × Fl)) [] i).getD []⟩
theorem ok164 : okFn Tryz.prog cfg164 Tryz.f164 = true := by kernel_rfl
/-- licit/catalog.Known -/
noncomputable def cfg168 : Cfg := ⟨fun t => List.contains (α := Nat) [] t, fun i => (look (α := List (Nat × Fl)) [] i).getD []⟩
theorem ok168 : okFn Tryz.prog cfg168 Tryz.f168 = true := by kernel_rfl
/-- (*licit/comply.state).facts -/
noncomputable def cfg178 : Cfg := ⟨fun t => List.contains (α := Nat) [] t, fun i => (look (α := List (Nat × Fl)) [] i).getD []⟩
theorem ok178 : okFn Tryz.prog cfg178 Tryz.f178 = true := by kernel_rfl
/-- slices.insertionSortOrdered[int] -/
noncomputable def cfg184 : Cfg := ⟨fun t => List.contains (α := Nat) [] t, fun i => (look (α := List (Nat × Fl)) [(4, [(0, .no), (1, .no), (2, .no), (3, .no), (4, .no), (5, .no), (6, .no), (7, .no), (8, .no), (9, .no), (10, .no), (11, .no), (12, .no), (13, .no), (14, .no)]), (6, [(0, .no), (1, .no), (2, .no), (3, .no), (4, .no), (5, .no), (6, .no), (7, .no), (8, .no), (9, .no), (10, .no), (11, .no), (12, .no), (13, .no), (14, .no), (15, .no), (16, .no), (17, .no)])] i).getD []⟩
theorem ok184 : okFn Tryz.prog cfg184 Tryz.f184 = true := by kernel_rfl
/-- (*licit/search.space).walk$1 -/
noncomputable def cfg203 : Cfg := ⟨fun t => List.contains (α := Nat) [] t, fun i => (look (α := List (Nat × Fl)) [(3, [(0, .st), (1, .no), (2, .no), (3, .no)])] i).getD []⟩
theorem ok203 : okFn Tryz.prog cfg203 Tryz.f203 = true := by kernel_rfl
/-- (*licit/search.space).decide -/
noncomputable def cfg207 : Cfg := ⟨fun t => List.contains (α := Nat) [5] t, fun i => (look (α := List (Nat × Fl)) [(1, [(0, .no), (1, .no), (3, .no), (4, .st), (2, .no), (6, .no), (5, .no), (7, .no), (8, .no), (9, .no)]), (3, [(0, .no), (1, .st), (2, .no), (3, .no), (4, .no), (5, .no), (6, .no), (7, .no), (8, .no), (9, .no), (10, .no), (11, .no), (12, .no), (13, .no), (14, .no), (15, .no)]), (4, [(0, .no), (1, .no), (2, .no), (3, .no), (4, .no), (5, .no), (6, .no), (7, .no), (8, .no), (9, .no), (10, .no), (11, .no), (12, .no), (13, .no), (14, .no), (15, .no), (16, .no), (17, .no), (18, .no), (19, .no)])] i).getD []⟩
theorem ok207 : okFn Tryz.prog cfg207 Tryz.f207 = true := by kernel_rfl
/-- (*licit/search.space).leaves$1$1 -/
noncomputable def cfg211 : Cfg := ⟨fun t => List.contains (α := Nat) [] t, fun i => (look (α := List (Nat × Fl)) [(7, [(0, .st), (2, .no), (3, .no), (1, .no), (4, .no), (5, .no), (6, .no), (7, .no), (8, .no), (9, .no)])] i).getD []⟩
theorem ok211 : okFn Tryz.prog cfg211 Tryz.f211 = true := by kernel_rfl
/-- slices.ContainsFunc[[]string,string] -/
noncomputable def cfg234 : Cfg := ⟨fun t => List.contains (α := Nat) [] t, fun i => (look (α := List (Nat × Fl)) [] i).getD []⟩
theorem ok234 : okFn Tryz.prog cfg234 Tryz.f234 = true := by kernel_rfl
/-- licit/licexpr.Depth -/
noncomputable def cfg238 : Cfg := ⟨fun t => List.contains (α := Nat) [] t, fun i => (look (α := List (Nat × Fl)) [] i).getD []⟩
theorem ok238 : okFn Tryz.prog cfg238 Tryz.f238 = true := by kernel_rfl
/-- licit/catalog.lifts -/
noncomputable def cfg242 : Cfg := ⟨fun t => List.contains (α := Nat) [] t, fun i => (look (α := List (Nat × Fl)) [] i).getD []⟩
theorem ok242 : okFn Tryz.prog cfg242 Tryz.f242 = true := by kernel_rfl
/-- licit/catalog.Clauses -/
noncomputable def cfg258 : Cfg := ⟨fun t => List.contains (α := Nat) [] t, fun i => (look (α := List (Nat × Fl)) [] i).getD []⟩
theorem ok258 : okFn Tryz.prog cfg258 Tryz.f258 = true := by kernel_rfl
/-- strings.ContainsFunc -/
noncomputable def cfg282 : Cfg := ⟨fun t => List.contains (α := Nat) [] t, fun i => (look (α := List (Nat × Fl)) [] i).getD []⟩
theorem ok282 : okFn Tryz.prog cfg282 Tryz.f282 = true := by kernel_rfl
/-- strings.IndexFunc -/
noncomputable def cfg302 : Cfg := ⟨fun t => List.contains (α := Nat) [] t, fun i => (look (α := List (Nat × Fl)) [] i).getD []⟩
theorem ok302 : okFn Tryz.prog cfg302 Tryz.f302 = true := by kernel_rfl
end Go.V
namespace Go.V
open Go.Proofs
noncomputable def tab : List (Nat × (Func × Cfg)) := [(6, (Tryz.f6, cfg6)), (8, (Tryz.f8, cfg8)), (9, (Tryz.f9, cfg9)), (10, (Tryz.f10, cfg10)), (11, (Tryz.f11, cfg11)), (13, (Tryz.f13, cfg13)), (15, (Tryz.f15, cfg15)), (16, (Tryz.f16, cfg16)), (17, (Tryz.f17, cfg17)), (18, (Tryz.f18, cfg18)), (19, (Tryz.f19, cfg19)), (20, (Tryz.f20, cfg20)), (21, (Tryz.f21, cfg21)), (22, (Tryz.f22, cfg22)), (23, (Tryz.f23, cfg23)), (24, (Tryz.f24, cfg24)), (25, (Tryz.f25, cfg25)), (26, (Tryz.f26, cfg26)), (27, (Tryz.f27, cfg27)), (28, (Tryz.f28, cfg28)), (29, (Tryz.f29, cfg29)), (30, (Tryz.f30, cfg30)), (31, (Tryz.f31, cfg31)), (32, (Tryz.f32, cfg32)), (33, (Tryz.f33, cfg33)), (34, (Tryz.f34, cfg34)), (36, (Tryz.f36, cfg36)), (38, (Tryz.f38, cfg38)), (40, (Tryz.f40, cfg40)), (41, (Tryz.f41, cfg41)), (42, (Tryz.f42, cfg42)), (44, (Tryz.f44, cfg44)), (45, (Tryz.f45, cfg45)), (46, (Tryz.f46, cfg46)), (47, (Tryz.f47, cfg47)), (48, (Tryz.f48, cfg48)), (49, (Tryz.f49, cfg49)), (50, (Tryz.f50, cfg50)), (51, (Tryz.f51, cfg51)), (52, (Tryz.f52, cfg52)), (53, (Tryz.f53, cfg53)), (54, (Tryz.f54, cfg54)), (55, (Tryz.f55, cfg55)), (56, (Tryz.f56, cfg56)), (57, (Tryz.f57, cfg57)), (58, (Tryz.f58, cfg58)), (59, (Tryz.f59, cfg59)), (60, (Tryz.f60, cfg60)), (62, (Tryz.f62, cfg62)), (63, (Tryz.f63, cfg63)), (64, (Tryz.f64, cfg64)), (65, (Tryz.f65, cfg65)), (66, (Tryz.f66, cfg66)), (67, (Tryz.f67, cfg67)), (69, (Tryz.f69, cfg69)), (71, (Tryz.f71, cfg71)), (72, (Tryz.f72, cfg72)), (73, (Tryz.f73, cfg73)), (74, (Tryz.f74, cfg74)), (75, (Tryz.f75, cfg75)), (76, (Tryz.f76, cfg76)), (77, (Tryz.f77, cfg77)), (78, (Tryz.f78, cfg78)), (79, (Tryz.f79, cfg79)), (81, (Tryz.f81, cfg81)), (83, (Tryz.f83, cfg83)), (84, (Tryz.f84, cfg84)), (85, (Tryz.f85, cfg85)), (86, (Tryz.f86, cfg86)), (87, (Tryz.f87, cfg87)), (88, (Tryz.f88, cfg88)), (89, (Tryz.f89, cfg89)), (90, (Tryz.f90, cfg90)), (91, (Tryz.f91, cfg91)), (92, (Tryz.f92, cfg92)), (93, (Tryz.f93, cfg93)), (94, (Tryz.f94, cfg94)), (95, (Tryz.f95, cfg95)), (96, (Tryz.f96, cfg96)), (97, (Tryz.f97, cfg97)), (98, (Tryz.f98, cfg98)), (99, (Tryz.f99, cfg99)), (100, (Tryz.f100, cfg100)), (101, (Tryz.f101, cfg101)), (102, (Tryz.f102, cfg102)), (104, (Tryz.f104, cfg104)), (105, (Tryz.f105, cfg105)), (106, (Tryz.f106, cfg106)), (108, (Tryz.f108, cfg108)), (110, (Tryz.f110, cfg110)), (111, (Tryz.f111, cfg111)), (112, (Tryz.f112, cfg112)), (113, (Tryz.f113, cfg113)), (114, (Tryz.f114, cfg114)), (115, (Tryz.f115, cfg115)), (116, (Tryz.f116, cfg116)), (118, (Tryz.f118, cfg118)), (120, (Tryz.f120, cfg120)), (122, (Tryz.f122, cfg122)), (123, (Tryz.f123, cfg123)), (125, (Tryz.f125, cfg125)), (126, (Tryz.f126, cfg126)), (128, (Tryz.f128, cfg128)), (130, (Tryz.f130, cfg130)), (131, (Tryz.f131, cfg131)), (132, (Tryz.f132, cfg132)), (133, (Tryz.f133, cfg133)), (134, (Tryz.f134, cfg134)), (135, (Tryz.f135, cfg135)), (136, (Tryz.f136, cfg136)), (137, (Tryz.f137, cfg137)), (138, (Tryz.f138, cfg138)), (139, (Tryz.f139, cfg139)), (140, (Tryz.f140, cfg140)), (141, (Tryz.f141, cfg141)), (142, (Tryz.f142, cfg142)), (143, (Tryz.f143, cfg143)), (144, (Tryz.f144, cfg144)), (145, (Tryz.f145, cfg145)), (146, (Tryz.f146, cfg146)), (147, (Tryz.f147, cfg147)), (148, (Tryz.f148, cfg148)), (154, (Tryz.f154, cfg154)), (162, (Tryz.f162, cfg162)), (163, (Tryz.f163, cfg163)), (164, (Tryz.f164, cfg164)), (165, (Tryz.f165, cfg165)), (166, (Tryz.f166, cfg166)), (167, (Tryz.f167, cfg167)), (168, (Tryz.f168, cfg168)), (174, (Tryz.f174, cfg174)), (175, (Tryz.f175, cfg175)), (177, (Tryz.f177, cfg177)), (178, (Tryz.f178, cfg178)), (180, (Tryz.f180, cfg180)), (181, (Tryz.f181, cfg181)), (182, (Tryz.f182, cfg182)), (184, (Tryz.f184, cfg184)), (190, (Tryz.f190, cfg190)), (194, (Tryz.f194, cfg194)), (195, (Tryz.f195, cfg195)), (203, (Tryz.f203, cfg203)), (204, (Tryz.f204, cfg204)), (205, (Tryz.f205, cfg205)), (206, (Tryz.f206, cfg206)), (207, (Tryz.f207, cfg207)), (208, (Tryz.f208, cfg208)), (209, (Tryz.f209, cfg209)), (210, (Tryz.f210, cfg210)), (211, (Tryz.f211, cfg211)), (212, (Tryz.f212, cfg212)), (225, (Tryz.f225, cfg225)), (233, (Tryz.f233, cfg233)), (234, (Tryz.f234, cfg234)), (235, (Tryz.f235, cfg235)), (236, (Tryz.f236, cfg236)), (237, (Tryz.f237, cfg237)), (238, (Tryz.f238, cfg238)), (239, (Tryz.f239, cfg239)), (240, (Tryz.f240, cfg240)), (241, (Tryz.f241, cfg241)), (242, (Tryz.f242, cfg242)), (255, (Tryz.f255, cfg255)), (256, (Tryz.f256, cfg256)), (257, (Tryz.f257, cfg257)), (258, (Tryz.f258, cfg258)), (259, (Tryz.f259, cfg259)), (260, (Tryz.f260, cfg260)), (269, (Tryz.f269, cfg269)), (282, (Tryz.f282, cfg282)), (283, (Tryz.f283, cfg283)), (284, (Tryz.f284, cfg284)), (293, (Tryz.f293, cfg293)), (302, (Tryz.f302, cfg302)), (328, (Tryz.f328, cfg328)), (334, (Tryz.f334, cfg334))]
theorem tab_ok : GoodTab Tryz.prog tab := ⟨⟨Tryz.func6, ok6⟩, ⟨Tryz.func8, ok8⟩, ⟨Tryz.func9, ok9⟩, ⟨Tryz.func10, ok10⟩, ⟨Tryz.func11, ok11⟩, ⟨Tryz.func13, ok13⟩, ⟨Tryz.func15, ok15⟩, ⟨Tryz.func16, ok16⟩, ⟨Tryz.func17, ok17⟩, ⟨Tryz.func18, ok18⟩, ⟨Tryz.func19, ok19⟩, ⟨Tryz.func20, ok20⟩, ⟨Tryz.func21, ok21⟩, ⟨Tryz.func22, ok22⟩, ⟨Tryz.func23, ok23⟩, ⟨Tryz.func24, ok24⟩, ⟨Tryz.func25, ok25⟩, ⟨Tryz.func26, ok26⟩, ⟨Tryz.func27, ok27⟩, ⟨Tryz.func28, ok28⟩, ⟨Tryz.func29, ok29⟩, ⟨Tryz.func30, ok30⟩, ⟨Tryz.func31, ok31⟩, ⟨Tryz.func32, ok32⟩, ⟨Tryz.func33, ok33⟩, ⟨Tryz.func34, ok34⟩, ⟨Tryz.func36, ok36⟩, ⟨Tryz.func38, ok38⟩, ⟨Tryz.func40, ok40⟩, ⟨Tryz.func41, ok41⟩, ⟨Tryz.func42, ok42⟩, ⟨Tryz.func44, ok44⟩, ⟨Tryz.func45, ok45⟩, ⟨Tryz.func46, ok46⟩, ⟨Tryz.func47, ok47⟩, ⟨Tryz.func48, ok48⟩, ⟨Tryz.func49, ok49⟩, ⟨Tryz.func50, ok50⟩, ⟨Tryz.func51, ok51⟩, ⟨Tryz.func52, ok52⟩, ⟨Tryz.func53, ok53⟩, ⟨Tryz.func54, ok54⟩, ⟨Tryz.func55, ok55⟩, ⟨Tryz.func56, ok56⟩, ⟨Tryz.func57, ok57⟩, ⟨Tryz.func58, ok58⟩, ⟨Tryz.func59, ok59⟩, ⟨Tryz.func60, ok60⟩, ⟨Tryz.func62, ok62⟩, ⟨Tryz.func63, ok63⟩, ⟨Tryz.func64, ok64⟩, ⟨Tryz.func65, ok65⟩, ⟨Tryz.func66, ok66⟩, ⟨Tryz.func67, ok67⟩, ⟨Tryz.func69, ok69⟩, ⟨Tryz.func71, ok71⟩, ⟨Tryz.func72, ok72⟩, ⟨Tryz.func73, ok73⟩, ⟨Tryz.func74, ok74⟩, ⟨Tryz.func75, ok75⟩, ⟨Tryz.func76, ok76⟩, ⟨Tryz.func77, ok77⟩, ⟨Tryz.func78, ok78⟩, ⟨Tryz.func79, ok79⟩, ⟨Tryz.func81, ok81⟩, ⟨Tryz.func83, ok83⟩, ⟨Tryz.func84, ok84⟩, ⟨Tryz.func85, ok85⟩, ⟨Tryz.func86, ok86⟩, ⟨Tryz.func87, ok87⟩, ⟨Tryz.func88, ok88⟩, ⟨Tryz.func89, ok89⟩, ⟨Tryz.func90, ok90⟩, ⟨Tryz.func91, ok91⟩, ⟨Tryz.func92, ok92⟩, ⟨Tryz.func93, ok93⟩, ⟨Tryz.func94, ok94⟩, ⟨Tryz.func95, ok95⟩, ⟨Tryz.func96, ok96⟩, ⟨Tryz.func97, ok97⟩, ⟨Tryz.func98, ok98⟩, ⟨Tryz.func99, ok99⟩, ⟨Tryz.func100, ok100⟩, ⟨Tryz.func101, ok101⟩, ⟨Tryz.func102, ok102⟩, ⟨Tryz.func104, ok104⟩, ⟨Tryz.func105, ok105⟩, ⟨Tryz.func106, ok106⟩, ⟨Tryz.func108, ok108⟩, ⟨Tryz.func110, ok110⟩, ⟨Tryz.func111, ok111⟩, ⟨Tryz.func112, ok112⟩, ⟨Tryz.func113, ok113⟩, ⟨Tryz.func114, ok114⟩, ⟨Tryz.func115, ok115⟩, ⟨Tryz.func116, ok116⟩, ⟨Tryz.func118, ok118⟩, ⟨Tryz.func120, ok120⟩, ⟨Tryz.func122, ok122⟩, ⟨Tryz.func123, ok123⟩, ⟨Tryz.func125, ok125⟩, ⟨Tryz.func126, ok126⟩, ⟨Tryz.func128, ok128⟩, ⟨Tryz.func130, ok130⟩, ⟨Tryz.func131, ok131⟩, ⟨Tryz.func132, ok132⟩, ⟨Tryz.func133, ok133⟩, ⟨Tryz.func134, ok134⟩, ⟨Tryz.func135, ok135⟩, ⟨Tryz.func136, ok136⟩, ⟨Tryz.func137, ok137⟩, ⟨Tryz.func138, ok138⟩, ⟨Tryz.func139, ok139⟩, ⟨Tryz.func140, ok140⟩, ⟨Tryz.func141, ok141⟩, ⟨Tryz.func142, ok142⟩, ⟨Tryz.func143, ok143⟩, ⟨Tryz.func144, ok144⟩, ⟨Tryz.func145, ok145⟩, ⟨Tryz.func146, ok146⟩, ⟨Tryz.func147, ok147⟩, ⟨Tryz.func148, ok148⟩, ⟨Tryz.func154, ok154⟩, ⟨Tryz.func162, ok162⟩, ⟨Tryz.func163, ok163⟩, ⟨Tryz.func164, ok164⟩, ⟨Tryz.func165, ok165⟩, ⟨Tryz.func166, ok166⟩, ⟨Tryz.func167, ok167⟩, ⟨Tryz.func168, ok168⟩, ⟨Tryz.func174, ok174⟩, ⟨Tryz.func175, ok175⟩, ⟨Tryz.func177, ok177⟩, ⟨Tryz.func178, ok178⟩, ⟨Tryz.func180, ok180⟩, ⟨Tryz.func181, ok181⟩, ⟨Tryz.func182, ok182⟩, ⟨Tryz.func184, ok184⟩, ⟨Tryz.func190, ok190⟩, ⟨Tryz.func194, ok194⟩, ⟨Tryz.func195, ok195⟩, ⟨Tryz.func203, ok203⟩, ⟨Tryz.func204, ok204⟩, ⟨Tryz.func205, ok205⟩, ⟨Tryz.func206, ok206⟩, ⟨Tryz.func207, ok207⟩, ⟨Tryz.func208, ok208⟩, ⟨Tryz.func209, ok209⟩, ⟨Tryz.func210, ok210⟩, ⟨Tryz.func211, ok211⟩, ⟨Tryz.func212, ok212⟩, ⟨Tryz.func225, ok225⟩, ⟨Tryz.func233, ok233⟩, ⟨Tryz.func234, ok234⟩, ⟨Tryz.func235, ok235⟩, ⟨Tryz.func236, ok236⟩, ⟨Tryz.func237, ok237⟩, ⟨Tryz.func238, ok238⟩, ⟨Tryz.func239, ok239⟩, ⟨Tryz.func240, ok240⟩, ⟨Tryz.func241, ok241⟩, ⟨Tryz.func242, ok242⟩, ⟨Tryz.func255, ok255⟩, ⟨Tryz.func256, ok256⟩, ⟨Tryz.func257, ok257⟩, ⟨Tryz.func258, ok258⟩, ⟨Tryz.func259, ok259⟩, ⟨Tryz.func260, ok260⟩, ⟨Tryz.func269, ok269⟩, ⟨Tryz.func282, ok282⟩, ⟨Tryz.func283, ok283⟩, ⟨Tryz.func284, ok284⟩, ⟨Tryz.func293, ok293⟩, ⟨Tryz.func302, ok302⟩, ⟨Tryz.func328, ok328⟩, ⟨Tryz.func334, ok334⟩, trivial⟩
theorem mix : Tryz.prog.follows .mixedOrders = true := by kernel_rfl
end Go.V
