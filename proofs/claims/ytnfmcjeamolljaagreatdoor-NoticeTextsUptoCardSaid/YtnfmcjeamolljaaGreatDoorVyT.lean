/- Facts about types of this program. No condition. -/
import Derived.Test.YtnfmcjeamolljaaGreatDoorVhD
import Derived.Test.YtnfmcjeamolljaaGreatDoorProg
set_option linter.unusedSimpArgs false
set_option linter.unusedVariables false
set_option linter.constructorNameAsVariable false
set_option linter.deprecated false
namespace Go.V
open Go.Proofs
@[go_sem] theorem szT_2 : szT Tryz.prog 2 = 1 := by kernel_rfl
@[go_sem] theorem agT_2 : agT Tryz.prog 2 = some false := by kernel_rfl
@[go_sem] theorem zeroT_2 : zeroT Tryz.prog 2 = some (.int .i64 0) := by kernel_rfl
@[go_sem] theorem elemT_2 : elemT Tryz.prog 2 = none := by kernel_rfl
@[go_sem] theorem concT_2 : concT Tryz.prog 2 = true := by kernel_rfl
@[go_sem] theorem spreadT_2 : spreadT Tryz.prog 2 = false := by kernel_rfl
@[go_sem] theorem zokT_2 : zokT Tryz.prog 2 = true := by kernel_rfl
@[go_sem] theorem bytesT_2 : bytesT Tryz.prog 2 = 8 := by kernel_rfl
@[go_sem] theorem arrT_2 : arrT Tryz.prog 2 = none := by kernel_rfl
@[go_sem] theorem keyT_2 : keyT Tryz.prog 2 = some (false, [.i]) := by kernel_rfl
@[go_sem] theorem szT_3 : szT Tryz.prog 3 = 1 := by kernel_rfl
@[go_sem] theorem agT_3 : agT Tryz.prog 3 = some false := by kernel_rfl
@[go_sem] theorem zeroT_3 : zeroT Tryz.prog 3 = some (.int .i64 0) := by kernel_rfl
@[go_sem] theorem elemT_3 : elemT Tryz.prog 3 = none := by kernel_rfl
@[go_sem] theorem concT_3 : concT Tryz.prog 3 = true := by kernel_rfl
@[go_sem] theorem spreadT_3 : spreadT Tryz.prog 3 = false := by kernel_rfl
@[go_sem] theorem zokT_3 : zokT Tryz.prog 3 = true := by kernel_rfl
@[go_sem] theorem bytesT_3 : bytesT Tryz.prog 3 = 8 := by kernel_rfl
@[go_sem] theorem arrT_3 : arrT Tryz.prog 3 = none := by kernel_rfl
@[go_sem] theorem keyT_3 : keyT Tryz.prog 3 = some (false, [.i]) := by kernel_rfl
@[go_sem] theorem szT_4 : szT Tryz.prog 4 = 1 := by kernel_rfl
@[go_sem] theorem agT_4 : agT Tryz.prog 4 = some false := by kernel_rfl
@[go_sem] theorem zeroT_4 : zeroT Tryz.prog 4 = some (.bool false) := by kernel_rfl
@[go_sem] theorem elemT_4 : elemT Tryz.prog 4 = none := by kernel_rfl
@[go_sem] theorem concT_4 : concT Tryz.prog 4 = true := by kernel_rfl
@[go_sem] theorem spreadT_4 : spreadT Tryz.prog 4 = true := by kernel_rfl
@[go_sem] theorem zokT_4 : zokT Tryz.prog 4 = true := by kernel_rfl
@[go_sem] theorem bytesT_4 : bytesT Tryz.prog 4 = 1 := by kernel_rfl
@[go_sem] theorem arrT_4 : arrT Tryz.prog 4 = none := by kernel_rfl
@[go_sem] theorem keyT_4 : keyT Tryz.prog 4 = some (false, [.b]) := by kernel_rfl
@[go_sem] theorem szT_5 : szT Tryz.prog 5 = 1 := by kernel_rfl
@[go_sem] theorem agT_5 : agT Tryz.prog 5 = some false := by kernel_rfl
@[go_sem] theorem zeroT_5 : zeroT Tryz.prog 5 = some (.int .u8 0) := by kernel_rfl
@[go_sem] theorem elemT_5 : elemT Tryz.prog 5 = none := by kernel_rfl
@[go_sem] theorem concT_5 : concT Tryz.prog 5 = true := by kernel_rfl
@[go_sem] theorem spreadT_5 : spreadT Tryz.prog 5 = false := by kernel_rfl
@[go_sem] theorem zokT_5 : zokT Tryz.prog 5 = true := by kernel_rfl
@[go_sem] theorem bytesT_5 : bytesT Tryz.prog 5 = 1 := by kernel_rfl
@[go_sem] theorem arrT_5 : arrT Tryz.prog 5 = none := by kernel_rfl
@[go_sem] theorem keyT_5 : keyT Tryz.prog 5 = some (false, [.i]) := by kernel_rfl
@[go_sem] theorem szT_9 : szT Tryz.prog 9 = 1 := by kernel_rfl
@[go_sem] theorem agT_9 : agT Tryz.prog 9 = some false := by kernel_rfl
@[go_sem] theorem zeroT_9 : zeroT Tryz.prog 9 = some (.str []) := by kernel_rfl
@[go_sem] theorem elemT_9 : elemT Tryz.prog 9 = none := by kernel_rfl
@[go_sem] theorem concT_9 : concT Tryz.prog 9 = true := by kernel_rfl
@[go_sem] theorem spreadT_9 : spreadT Tryz.prog 9 = true := by kernel_rfl
@[go_sem] theorem zokT_9 : zokT Tryz.prog 9 = true := by kernel_rfl
@[go_sem] theorem bytesT_9 : bytesT Tryz.prog 9 = 16 := by kernel_rfl
@[go_sem] theorem arrT_9 : arrT Tryz.prog 9 = none := by kernel_rfl
@[go_sem] theorem keyT_9 : keyT Tryz.prog 9 = some (false, [.s]) := by kernel_rfl
@[go_sem] theorem szT_21 : szT Tryz.prog 21 = 1 := by kernel_rfl
@[go_sem] theorem agT_21 : agT Tryz.prog 21 = some false := by kernel_rfl
@[go_sem] theorem zeroT_21 : zeroT Tryz.prog 21 = some (.int .i32 0) := by kernel_rfl
@[go_sem] theorem elemT_21 : elemT Tryz.prog 21 = none := by kernel_rfl
@[go_sem] theorem concT_21 : concT Tryz.prog 21 = true := by kernel_rfl
@[go_sem] theorem spreadT_21 : spreadT Tryz.prog 21 = false := by kernel_rfl
@[go_sem] theorem zokT_21 : zokT Tryz.prog 21 = true := by kernel_rfl
@[go_sem] theorem bytesT_21 : bytesT Tryz.prog 21 = 4 := by kernel_rfl
@[go_sem] theorem arrT_21 : arrT Tryz.prog 21 = none := by kernel_rfl
@[go_sem] theorem keyT_21 : keyT Tryz.prog 21 = some (false, [.i]) := by kernel_rfl
@[go_sem] theorem szT_22 : szT Tryz.prog 22 = 1 := by kernel_rfl
@[go_sem] theorem agT_22 : agT Tryz.prog 22 = some false := by kernel_rfl
@[go_sem] theorem zeroT_22 : zeroT Tryz.prog 22 = some .nilsl := by kernel_rfl
@[go_sem] theorem elemT_22 : elemT Tryz.prog 22 = some 9 := by kernel_rfl
@[go_sem] theorem concT_22 : concT Tryz.prog 22 = true := by kernel_rfl
@[go_sem] theorem spreadT_22 : spreadT Tryz.prog 22 = true := by kernel_rfl
@[go_sem] theorem zokT_22 : zokT Tryz.prog 22 = true := by kernel_rfl
@[go_sem] theorem bytesT_22 : bytesT Tryz.prog 22 = 24 := by kernel_rfl
@[go_sem] theorem arrT_22 : arrT Tryz.prog 22 = none := by kernel_rfl
@[go_sem] theorem szT_24 : szT Tryz.prog 24 = 4 := by kernel_rfl
@[go_sem] theorem agT_24 : agT Tryz.prog 24 = some true := by kernel_rfl
@[go_sem] theorem zeroT_24 : zeroT Tryz.prog 24 = some (.agg [.nilsl, .nilsl, .nilsl, .nilsl]) := by kernel_rfl
@[go_sem] theorem elemT_24 : elemT Tryz.prog 24 = none := by kernel_rfl
@[go_sem] theorem concT_24 : concT Tryz.prog 24 = true := by kernel_rfl
@[go_sem] theorem spreadT_24 : spreadT Tryz.prog 24 = true := by kernel_rfl
@[go_sem] theorem zokT_24 : zokT Tryz.prog 24 = true := by kernel_rfl
@[go_sem] theorem bytesT_24 : bytesT Tryz.prog 24 = 96 := by kernel_rfl
@[go_sem] theorem arrT_24 : arrT Tryz.prog 24 = none := by kernel_rfl
@[go_sem] theorem placesT_24 : placesT Tryz.prog 24 = some [(0, 1), (1, 1), (2, 1), (3, 1)] := by kernel_rfl
@[go_sem] theorem fieldT_24_0 : fieldT Tryz.prog 24 0 = some (0, 22) := by kernel_rfl
@[go_sem] theorem fieldT_24_1 : fieldT Tryz.prog 24 1 = some (1, 22) := by kernel_rfl
@[go_sem] theorem fieldT_24_2 : fieldT Tryz.prog 24 2 = some (2, 22) := by kernel_rfl
@[go_sem] theorem fieldT_24_3 : fieldT Tryz.prog 24 3 = some (3, 22) := by kernel_rfl
@[go_sem] theorem szT_27 : szT Tryz.prog 27 = 1 := by kernel_rfl
@[go_sem] theorem agT_27 : agT Tryz.prog 27 = some false := by kernel_rfl
@[go_sem] theorem zeroT_27 : zeroT Tryz.prog 27 = some (.int .i64 0) := by kernel_rfl
@[go_sem] theorem elemT_27 : elemT Tryz.prog 27 = none := by kernel_rfl
@[go_sem] theorem concT_27 : concT Tryz.prog 27 = true := by kernel_rfl
@[go_sem] theorem spreadT_27 : spreadT Tryz.prog 27 = false := by kernel_rfl
@[go_sem] theorem zokT_27 : zokT Tryz.prog 27 = true := by kernel_rfl
@[go_sem] theorem bytesT_27 : bytesT Tryz.prog 27 = 8 := by kernel_rfl
@[go_sem] theorem arrT_27 : arrT Tryz.prog 27 = none := by kernel_rfl
@[go_sem] theorem keyT_27 : keyT Tryz.prog 27 = some (false, [.i]) := by kernel_rfl
@[go_sem] theorem szT_37 : szT Tryz.prog 37 = 6 := by kernel_rfl
@[go_sem] theorem agT_37 : agT Tryz.prog 37 = some true := by kernel_rfl
@[go_sem] theorem zeroT_37 : zeroT Tryz.prog 37 = some (.agg [.nilsl, .nilsl, .nilsl, .nilsl, (.int .i64 0), (.int .i64 0)]) := by kernel_rfl
@[go_sem] theorem elemT_37 : elemT Tryz.prog 37 = none := by kernel_rfl
@[go_sem] theorem concT_37 : concT Tryz.prog 37 = true := by kernel_rfl
@[go_sem] theorem spreadT_37 : spreadT Tryz.prog 37 = true := by kernel_rfl
@[go_sem] theorem zokT_37 : zokT Tryz.prog 37 = true := by kernel_rfl
@[go_sem] theorem bytesT_37 : bytesT Tryz.prog 37 = 112 := by kernel_rfl
@[go_sem] theorem arrT_37 : arrT Tryz.prog 37 = none := by kernel_rfl
@[go_sem] theorem placesT_37 : placesT Tryz.prog 37 = some [(0, 4), (4, 1), (5, 1)] := by kernel_rfl
@[go_sem] theorem fieldT_37_0 : fieldT Tryz.prog 37 0 = some (0, 24) := by kernel_rfl
@[go_sem] theorem fieldT_37_1 : fieldT Tryz.prog 37 1 = some (4, 3) := by kernel_rfl
@[go_sem] theorem fieldT_37_2 : fieldT Tryz.prog 37 2 = some (5, 27) := by kernel_rfl
@[go_sem] theorem szT_39 : szT Tryz.prog 39 = 1 := by kernel_rfl
@[go_sem] theorem agT_39 : agT Tryz.prog 39 = some false := by kernel_rfl
@[go_sem] theorem zeroT_39 : zeroT Tryz.prog 39 = some .nilfn := by kernel_rfl
@[go_sem] theorem elemT_39 : elemT Tryz.prog 39 = none := by kernel_rfl
@[go_sem] theorem concT_39 : concT Tryz.prog 39 = true := by kernel_rfl
@[go_sem] theorem spreadT_39 : spreadT Tryz.prog 39 = true := by kernel_rfl
@[go_sem] theorem zokT_39 : zokT Tryz.prog 39 = true := by kernel_rfl
@[go_sem] theorem bytesT_39 : bytesT Tryz.prog 39 = 8 := by kernel_rfl
@[go_sem] theorem arrT_39 : arrT Tryz.prog 39 = none := by kernel_rfl
@[go_sem] theorem szT_49 : szT Tryz.prog 49 = 4 := by kernel_rfl
@[go_sem] theorem agT_49 : agT Tryz.prog 49 = some true := by kernel_rfl
@[go_sem] theorem zeroT_49 : zeroT Tryz.prog 49 = some (.agg [.nilsl, .nilsl, .nilsl, .nilsl]) := by kernel_rfl
@[go_sem] theorem elemT_49 : elemT Tryz.prog 49 = none := by kernel_rfl
@[go_sem] theorem concT_49 : concT Tryz.prog 49 = true := by kernel_rfl
@[go_sem] theorem spreadT_49 : spreadT Tryz.prog 49 = true := by kernel_rfl
@[go_sem] theorem zokT_49 : zokT Tryz.prog 49 = true := by kernel_rfl
@[go_sem] theorem bytesT_49 : bytesT Tryz.prog 49 = 96 := by kernel_rfl
@[go_sem] theorem arrT_49 : arrT Tryz.prog 49 = none := by kernel_rfl
@[go_sem] theorem placesT_49 : placesT Tryz.prog 49 = some [(0, 1), (1, 1), (2, 1), (3, 1)] := by kernel_rfl
@[go_sem] theorem fieldT_49_0 : fieldT Tryz.prog 49 0 = some (0, 44) := by kernel_rfl
@[go_sem] theorem fieldT_49_1 : fieldT Tryz.prog 49 1 = some (1, 45) := by kernel_rfl
@[go_sem] theorem fieldT_49_2 : fieldT Tryz.prog 49 2 = some (2, 46) := by kernel_rfl
@[go_sem] theorem fieldT_49_3 : fieldT Tryz.prog 49 3 = some (3, 47) := by kernel_rfl
@[go_sem] theorem szT_54 : szT Tryz.prog 54 = 4 := by kernel_rfl
@[go_sem] theorem agT_54 : agT Tryz.prog 54 = some true := by kernel_rfl
@[go_sem] theorem zeroT_54 : zeroT Tryz.prog 54 = some (.agg [(.int .i64 0), (.str []), (.str []), .nilsl]) := by kernel_rfl
@[go_sem] theorem elemT_54 : elemT Tryz.prog 54 = none := by kernel_rfl
@[go_sem] theorem concT_54 : concT Tryz.prog 54 = true := by kernel_rfl
@[go_sem] theorem spreadT_54 : spreadT Tryz.prog 54 = true := by kernel_rfl
@[go_sem] theorem zokT_54 : zokT Tryz.prog 54 = true := by kernel_rfl
@[go_sem] theorem bytesT_54 : bytesT Tryz.prog 54 = 64 := by kernel_rfl
@[go_sem] theorem arrT_54 : arrT Tryz.prog 54 = none := by kernel_rfl
@[go_sem] theorem placesT_54 : placesT Tryz.prog 54 = some [(0, 1), (1, 1), (2, 1), (3, 1)] := by kernel_rfl
@[go_sem] theorem fieldT_54_0 : fieldT Tryz.prog 54 0 = some (0, 3) := by kernel_rfl
@[go_sem] theorem fieldT_54_1 : fieldT Tryz.prog 54 1 = some (1, 9) := by kernel_rfl
@[go_sem] theorem fieldT_54_2 : fieldT Tryz.prog 54 2 = some (2, 9) := by kernel_rfl
@[go_sem] theorem fieldT_54_3 : fieldT Tryz.prog 54 3 = some (3, 52) := by kernel_rfl
@[go_sem] theorem szT_56 : szT Tryz.prog 56 = 12 := by kernel_rfl
@[go_sem] theorem agT_56 : agT Tryz.prog 56 = some true := by kernel_rfl
@[go_sem] theorem zeroT_56 : zeroT Tryz.prog 56 = some (.agg [(.int .i64 0), (.str []), (.str []), (.int .i64 0), (.int .i64 0), (.int .i64 0), (.bool false), (.int .i64 0), (.str []), (.str []), .nilsl, .nilsl]) := by kernel_rfl
@[go_sem] theorem elemT_56 : elemT Tryz.prog 56 = none := by kernel_rfl
@[go_sem] theorem concT_56 : concT Tryz.prog 56 = true := by kernel_rfl
@[go_sem] theorem spreadT_56 : spreadT Tryz.prog 56 = true := by kernel_rfl
@[go_sem] theorem zokT_56 : zokT Tryz.prog 56 = true := by kernel_rfl
@[go_sem] theorem bytesT_56 : bytesT Tryz.prog 56 = 160 := by kernel_rfl
@[go_sem] theorem arrT_56 : arrT Tryz.prog 56 = none := by kernel_rfl
@[go_sem] theorem placesT_56 : placesT Tryz.prog 56 = some [(0, 1), (1, 1), (2, 1), (3, 1), (4, 1), (5, 1), (6, 1), (7, 4), (11, 1)] := by kernel_rfl
@[go_sem] theorem fieldT_56_0 : fieldT Tryz.prog 56 0 = some (0, 3) := by kernel_rfl
@[go_sem] theorem fieldT_56_1 : fieldT Tryz.prog 56 1 = some (1, 9) := by kernel_rfl
@[go_sem] theorem fieldT_56_2 : fieldT Tryz.prog 56 2 = some (2, 9) := by kernel_rfl
@[go_sem] theorem fieldT_56_3 : fieldT Tryz.prog 56 3 = some (3, 3) := by kernel_rfl
@[go_sem] theorem fieldT_56_4 : fieldT Tryz.prog 56 4 = some (4, 3) := by kernel_rfl
@[go_sem] theorem fieldT_56_5 : fieldT Tryz.prog 56 5 = some (5, 3) := by kernel_rfl
@[go_sem] theorem fieldT_56_6 : fieldT Tryz.prog 56 6 = some (6, 4) := by kernel_rfl
@[go_sem] theorem fieldT_56_7 : fieldT Tryz.prog 56 7 = some (7, 54) := by kernel_rfl
@[go_sem] theorem fieldT_56_8 : fieldT Tryz.prog 56 8 = some (11, 22) := by kernel_rfl
@[go_sem] theorem szT_58 : szT Tryz.prog 58 = 1 := by kernel_rfl
@[go_sem] theorem agT_58 : agT Tryz.prog 58 = some false := by kernel_rfl
@[go_sem] theorem zeroT_58 : zeroT Tryz.prog 58 = some .nilsl := by kernel_rfl
@[go_sem] theorem elemT_58 : elemT Tryz.prog 58 = some 56 := by kernel_rfl
@[go_sem] theorem concT_58 : concT Tryz.prog 58 = true := by kernel_rfl
@[go_sem] theorem spreadT_58 : spreadT Tryz.prog 58 = true := by kernel_rfl
@[go_sem] theorem zokT_58 : zokT Tryz.prog 58 = true := by kernel_rfl
@[go_sem] theorem bytesT_58 : bytesT Tryz.prog 58 = 24 := by kernel_rfl
@[go_sem] theorem arrT_58 : arrT Tryz.prog 58 = none := by kernel_rfl
@[go_sem] theorem szT_61 : szT Tryz.prog 61 = 2 := by kernel_rfl
@[go_sem] theorem agT_61 : agT Tryz.prog 61 = some true := by kernel_rfl
@[go_sem] theorem zeroT_61 : zeroT Tryz.prog 61 = some (.agg [.nilsl, .nilsl]) := by kernel_rfl
@[go_sem] theorem elemT_61 : elemT Tryz.prog 61 = none := by kernel_rfl
@[go_sem] theorem concT_61 : concT Tryz.prog 61 = true := by kernel_rfl
@[go_sem] theorem spreadT_61 : spreadT Tryz.prog 61 = true := by kernel_rfl
@[go_sem] theorem zokT_61 : zokT Tryz.prog 61 = true := by kernel_rfl
@[go_sem] theorem bytesT_61 : bytesT Tryz.prog 61 = 48 := by kernel_rfl
@[go_sem] theorem arrT_61 : arrT Tryz.prog 61 = none := by kernel_rfl
@[go_sem] theorem placesT_61 : placesT Tryz.prog 61 = some [(0, 1), (1, 1)] := by kernel_rfl
@[go_sem] theorem fieldT_61_0 : fieldT Tryz.prog 61 0 = some (0, 59) := by kernel_rfl
@[go_sem] theorem fieldT_61_1 : fieldT Tryz.prog 61 1 = some (1, 22) := by kernel_rfl
@[go_sem] theorem szT_66 : szT Tryz.prog 66 = 8 := by kernel_rfl
@[go_sem] theorem agT_66 : agT Tryz.prog 66 = some true := by kernel_rfl
@[go_sem] theorem zeroT_66 : zeroT Tryz.prog 66 = some (.agg [(.str []), (.int .i64 0), (.str []), (.str []), .nilsl, .nilsl, .nilsl, (.str [])]) := by kernel_rfl
@[go_sem] theorem elemT_66 : elemT Tryz.prog 66 = none := by kernel_rfl
@[go_sem] theorem concT_66 : concT Tryz.prog 66 = true := by kernel_rfl
@[go_sem] theorem spreadT_66 : spreadT Tryz.prog 66 = true := by kernel_rfl
@[go_sem] theorem zokT_66 : zokT Tryz.prog 66 = true := by kernel_rfl
@[go_sem] theorem bytesT_66 : bytesT Tryz.prog 66 = 144 := by kernel_rfl
@[go_sem] theorem arrT_66 : arrT Tryz.prog 66 = none := by kernel_rfl
@[go_sem] theorem placesT_66 : placesT Tryz.prog 66 = some [(0, 1), (1, 4), (5, 1), (6, 1), (7, 1)] := by kernel_rfl
@[go_sem] theorem fieldT_66_0 : fieldT Tryz.prog 66 0 = some (0, 9) := by kernel_rfl
@[go_sem] theorem fieldT_66_1 : fieldT Tryz.prog 66 1 = some (1, 54) := by kernel_rfl
@[go_sem] theorem fieldT_66_2 : fieldT Tryz.prog 66 2 = some (5, 22) := by kernel_rfl
@[go_sem] theorem fieldT_66_3 : fieldT Tryz.prog 66 3 = some (6, 64) := by kernel_rfl
@[go_sem] theorem fieldT_66_4 : fieldT Tryz.prog 66 4 = some (7, 9) := by kernel_rfl
@[go_sem] theorem szT_67 : szT Tryz.prog 67 = 1 := by kernel_rfl
@[go_sem] theorem agT_67 : agT Tryz.prog 67 = some false := by kernel_rfl
@[go_sem] theorem zeroT_67 : zeroT Tryz.prog 67 = some .nilsl := by kernel_rfl
@[go_sem] theorem elemT_67 : elemT Tryz.prog 67 = some 66 := by kernel_rfl
@[go_sem] theorem concT_67 : concT Tryz.prog 67 = true := by kernel_rfl
@[go_sem] theorem spreadT_67 : spreadT Tryz.prog 67 = true := by kernel_rfl
@[go_sem] theorem zokT_67 : zokT Tryz.prog 67 = true := by kernel_rfl
@[go_sem] theorem bytesT_67 : bytesT Tryz.prog 67 = 24 := by kernel_rfl
@[go_sem] theorem arrT_67 : arrT Tryz.prog 67 = none := by kernel_rfl
@[go_sem] theorem szT_69 : szT Tryz.prog 69 = 1 := by kernel_rfl
@[go_sem] theorem agT_69 : agT Tryz.prog 69 = some false := by kernel_rfl
@[go_sem] theorem zeroT_69 : zeroT Tryz.prog 69 = some .nilsl := by kernel_rfl
@[go_sem] theorem elemT_69 : elemT Tryz.prog 69 = some 136 := by kernel_rfl
@[go_sem] theorem concT_69 : concT Tryz.prog 69 = true := by kernel_rfl
@[go_sem] theorem spreadT_69 : spreadT Tryz.prog 69 = true := by kernel_rfl
@[go_sem] theorem zokT_69 : zokT Tryz.prog 69 = true := by kernel_rfl
@[go_sem] theorem bytesT_69 : bytesT Tryz.prog 69 = 24 := by kernel_rfl
@[go_sem] theorem arrT_69 : arrT Tryz.prog 69 = none := by kernel_rfl
@[go_sem] theorem szT_73 : szT Tryz.prog 73 = 1 := by kernel_rfl
@[go_sem] theorem agT_73 : agT Tryz.prog 73 = some false := by kernel_rfl
@[go_sem] theorem zeroT_73 : zeroT Tryz.prog 73 = some .nilptr := by kernel_rfl
@[go_sem] theorem elemT_73 : elemT Tryz.prog 73 = none := by kernel_rfl
@[go_sem] theorem concT_73 : concT Tryz.prog 73 = true := by kernel_rfl
@[go_sem] theorem spreadT_73 : spreadT Tryz.prog 73 = true := by kernel_rfl
@[go_sem] theorem zokT_73 : zokT Tryz.prog 73 = true := by kernel_rfl
@[go_sem] theorem bytesT_73 : bytesT Tryz.prog 73 = 8 := by kernel_rfl
@[go_sem] theorem arrT_73 : arrT Tryz.prog 73 = none := by kernel_rfl
@[go_sem] theorem szT_74 : szT Tryz.prog 74 = 1 := by kernel_rfl
@[go_sem] theorem agT_74 : agT Tryz.prog 74 = some false := by kernel_rfl
@[go_sem] theorem zeroT_74 : zeroT Tryz.prog 74 = some .nilsl := by kernel_rfl
@[go_sem] theorem elemT_74 : elemT Tryz.prog 74 = some 5 := by kernel_rfl
@[go_sem] theorem concT_74 : concT Tryz.prog 74 = true := by kernel_rfl
end Go.V
namespace Go.V
open Go.Proofs
@[go_sem] theorem spreadT_74 : spreadT Tryz.prog 74 = true := by kernel_rfl
@[go_sem] theorem zokT_74 : zokT Tryz.prog 74 = true := by kernel_rfl
@[go_sem] theorem bytesT_74 : bytesT Tryz.prog 74 = 24 := by kernel_rfl
@[go_sem] theorem arrT_74 : arrT Tryz.prog 74 = none := by kernel_rfl
@[go_sem] theorem szT_76 : szT Tryz.prog 76 = 2 := by kernel_rfl
@[go_sem] theorem agT_76 : agT Tryz.prog 76 = some true := by kernel_rfl
@[go_sem] theorem zeroT_76 : zeroT Tryz.prog 76 = some (.agg [.nilptr, .nilsl]) := by kernel_rfl
@[go_sem] theorem elemT_76 : elemT Tryz.prog 76 = none := by kernel_rfl
@[go_sem] theorem concT_76 : concT Tryz.prog 76 = true := by kernel_rfl
@[go_sem] theorem spreadT_76 : spreadT Tryz.prog 76 = true := by kernel_rfl
@[go_sem] theorem zokT_76 : zokT Tryz.prog 76 = true := by kernel_rfl
@[go_sem] theorem bytesT_76 : bytesT Tryz.prog 76 = 32 := by kernel_rfl
@[go_sem] theorem arrT_76 : arrT Tryz.prog 76 = none := by kernel_rfl
@[go_sem] theorem placesT_76 : placesT Tryz.prog 76 = some [(0, 1), (1, 1)] := by kernel_rfl
@[go_sem] theorem fieldT_76_0 : fieldT Tryz.prog 76 0 = some (0, 73) := by kernel_rfl
@[go_sem] theorem fieldT_76_1 : fieldT Tryz.prog 76 1 = some (1, 74) := by kernel_rfl
@[go_sem] theorem szT_79 : szT Tryz.prog 79 = 1 := by kernel_rfl
@[go_sem] theorem agT_79 : agT Tryz.prog 79 = some false := by kernel_rfl
@[go_sem] theorem zeroT_79 : zeroT Tryz.prog 79 = some .niliface := by kernel_rfl
@[go_sem] theorem elemT_79 : elemT Tryz.prog 79 = none := by kernel_rfl
@[go_sem] theorem concT_79 : concT Tryz.prog 79 = false := by kernel_rfl
@[go_sem] theorem spreadT_79 : spreadT Tryz.prog 79 = true := by kernel_rfl
@[go_sem] theorem zokT_79 : zokT Tryz.prog 79 = true := by kernel_rfl
@[go_sem] theorem bytesT_79 : bytesT Tryz.prog 79 = 16 := by kernel_rfl
@[go_sem] theorem arrT_79 : arrT Tryz.prog 79 = none := by kernel_rfl
@[go_sem] theorem szT_84 : szT Tryz.prog 84 = 1 := by kernel_rfl
@[go_sem] theorem agT_84 : agT Tryz.prog 84 = some false := by kernel_rfl
@[go_sem] theorem zeroT_84 : zeroT Tryz.prog 84 = some .nilmap := by kernel_rfl
@[go_sem] theorem elemT_84 : elemT Tryz.prog 84 = none := by kernel_rfl
@[go_sem] theorem concT_84 : concT Tryz.prog 84 = true := by kernel_rfl
@[go_sem] theorem spreadT_84 : spreadT Tryz.prog 84 = true := by kernel_rfl
@[go_sem] theorem zokT_84 : zokT Tryz.prog 84 = true := by kernel_rfl
@[go_sem] theorem bytesT_84 : bytesT Tryz.prog 84 = 8 := by kernel_rfl
@[go_sem] theorem arrT_84 : arrT Tryz.prog 84 = none := by kernel_rfl
@[go_sem] theorem mapT_84 : mapT Tryz.prog 84 = some (9, 9) := by kernel_rfl
@[go_sem] theorem szT_85 : szT Tryz.prog 85 = 1 := by kernel_rfl
@[go_sem] theorem agT_85 : agT Tryz.prog 85 = some false := by kernel_rfl
@[go_sem] theorem zeroT_85 : zeroT Tryz.prog 85 = some .nilsl := by kernel_rfl
@[go_sem] theorem elemT_85 : elemT Tryz.prog 85 = some 24 := by kernel_rfl
@[go_sem] theorem concT_85 : concT Tryz.prog 85 = true := by kernel_rfl
@[go_sem] theorem spreadT_85 : spreadT Tryz.prog 85 = true := by kernel_rfl
@[go_sem] theorem zokT_85 : zokT Tryz.prog 85 = true := by kernel_rfl
@[go_sem] theorem bytesT_85 : bytesT Tryz.prog 85 = 24 := by kernel_rfl
@[go_sem] theorem arrT_85 : arrT Tryz.prog 85 = none := by kernel_rfl
@[go_sem] theorem szT_93 : szT Tryz.prog 93 = 1 := by kernel_rfl
@[go_sem] theorem agT_93 : agT Tryz.prog 93 = some false := by kernel_rfl
@[go_sem] theorem zeroT_93 : zeroT Tryz.prog 93 = some .nilfn := by kernel_rfl
@[go_sem] theorem elemT_93 : elemT Tryz.prog 93 = none := by kernel_rfl
@[go_sem] theorem concT_93 : concT Tryz.prog 93 = true := by kernel_rfl
@[go_sem] theorem spreadT_93 : spreadT Tryz.prog 93 = true := by kernel_rfl
@[go_sem] theorem zokT_93 : zokT Tryz.prog 93 = true := by kernel_rfl
@[go_sem] theorem bytesT_93 : bytesT Tryz.prog 93 = 8 := by kernel_rfl
@[go_sem] theorem arrT_93 : arrT Tryz.prog 93 = none := by kernel_rfl
@[go_sem] theorem szT_96 : szT Tryz.prog 96 = 1 := by kernel_rfl
@[go_sem] theorem agT_96 : agT Tryz.prog 96 = some false := by kernel_rfl
@[go_sem] theorem zeroT_96 : zeroT Tryz.prog 96 = some .nilptr := by kernel_rfl
@[go_sem] theorem elemT_96 : elemT Tryz.prog 96 = none := by kernel_rfl
@[go_sem] theorem concT_96 : concT Tryz.prog 96 = true := by kernel_rfl
@[go_sem] theorem spreadT_96 : spreadT Tryz.prog 96 = true := by kernel_rfl
@[go_sem] theorem zokT_96 : zokT Tryz.prog 96 = true := by kernel_rfl
@[go_sem] theorem bytesT_96 : bytesT Tryz.prog 96 = 8 := by kernel_rfl
@[go_sem] theorem arrT_96 : arrT Tryz.prog 96 = none := by kernel_rfl
@[go_sem] theorem szT_98 : szT Tryz.prog 98 = 7 := by kernel_rfl
@[go_sem] theorem agT_98 : agT Tryz.prog 98 = some true := by kernel_rfl
@[go_sem] theorem zeroT_98 : zeroT Tryz.prog 98 = some (.agg [.nilsl, (.int .i64 0), (.int .i64 0), .nilsl, .nilsl, .nilsl, .nilsl]) := by kernel_rfl
@[go_sem] theorem elemT_98 : elemT Tryz.prog 98 = none := by kernel_rfl
@[go_sem] theorem concT_98 : concT Tryz.prog 98 = true := by kernel_rfl
@[go_sem] theorem spreadT_98 : spreadT Tryz.prog 98 = true := by kernel_rfl
@[go_sem] theorem zokT_98 : zokT Tryz.prog 98 = true := by kernel_rfl
@[go_sem] theorem bytesT_98 : bytesT Tryz.prog 98 = 136 := by kernel_rfl
@[go_sem] theorem arrT_98 : arrT Tryz.prog 98 = none := by kernel_rfl
@[go_sem] theorem placesT_98 : placesT Tryz.prog 98 = some [(0, 1), (1, 1), (2, 1), (3, 4)] := by kernel_rfl
@[go_sem] theorem fieldT_98_0 : fieldT Tryz.prog 98 0 = some (0, 22) := by kernel_rfl
@[go_sem] theorem fieldT_98_1 : fieldT Tryz.prog 98 1 = some (1, 3) := by kernel_rfl
@[go_sem] theorem fieldT_98_2 : fieldT Tryz.prog 98 2 = some (2, 3) := by kernel_rfl
@[go_sem] theorem fieldT_98_3 : fieldT Tryz.prog 98 3 = some (3, 24) := by kernel_rfl
@[go_sem] theorem szT_142 : szT Tryz.prog 142 = 1 := by kernel_rfl
@[go_sem] theorem agT_142 : agT Tryz.prog 142 = some false := by kernel_rfl
@[go_sem] theorem zeroT_142 : zeroT Tryz.prog 142 = some .nilptr := by kernel_rfl
@[go_sem] theorem elemT_142 : elemT Tryz.prog 142 = none := by kernel_rfl
@[go_sem] theorem concT_142 : concT Tryz.prog 142 = true := by kernel_rfl
@[go_sem] theorem spreadT_142 : spreadT Tryz.prog 142 = true := by kernel_rfl
@[go_sem] theorem zokT_142 : zokT Tryz.prog 142 = true := by kernel_rfl
@[go_sem] theorem bytesT_142 : bytesT Tryz.prog 142 = 8 := by kernel_rfl
@[go_sem] theorem arrT_142 : arrT Tryz.prog 142 = none := by kernel_rfl
@[go_sem] theorem szT_144 : szT Tryz.prog 144 = 1 := by kernel_rfl
@[go_sem] theorem agT_144 : agT Tryz.prog 144 = some false := by kernel_rfl
@[go_sem] theorem zeroT_144 : zeroT Tryz.prog 144 = some .nilsl := by kernel_rfl
@[go_sem] theorem elemT_144 : elemT Tryz.prog 144 = some 22 := by kernel_rfl
@[go_sem] theorem concT_144 : concT Tryz.prog 144 = true := by kernel_rfl
@[go_sem] theorem spreadT_144 : spreadT Tryz.prog 144 = true := by kernel_rfl
@[go_sem] theorem zokT_144 : zokT Tryz.prog 144 = true := by kernel_rfl
@[go_sem] theorem bytesT_144 : bytesT Tryz.prog 144 = 24 := by kernel_rfl
@[go_sem] theorem arrT_144 : arrT Tryz.prog 144 = none := by kernel_rfl
@[go_sem] theorem szT_148 : szT Tryz.prog 148 = 1 := by kernel_rfl
@[go_sem] theorem agT_148 : agT Tryz.prog 148 = some false := by kernel_rfl
@[go_sem] theorem zeroT_148 : zeroT Tryz.prog 148 = some .nilfn := by kernel_rfl
@[go_sem] theorem elemT_148 : elemT Tryz.prog 148 = none := by kernel_rfl
@[go_sem] theorem concT_148 : concT Tryz.prog 148 = true := by kernel_rfl
@[go_sem] theorem spreadT_148 : spreadT Tryz.prog 148 = true := by kernel_rfl
@[go_sem] theorem zokT_148 : zokT Tryz.prog 148 = true := by kernel_rfl
@[go_sem] theorem bytesT_148 : bytesT Tryz.prog 148 = 8 := by kernel_rfl
@[go_sem] theorem arrT_148 : arrT Tryz.prog 148 = none := by kernel_rfl
@[go_sem] theorem szT_180 : szT Tryz.prog 180 = 1 := by kernel_rfl
@[go_sem] theorem agT_180 : agT Tryz.prog 180 = some false := by kernel_rfl
@[go_sem] theorem zeroT_180 : zeroT Tryz.prog 180 = some .nilptr := by kernel_rfl
@[go_sem] theorem elemT_180 : elemT Tryz.prog 180 = none := by kernel_rfl
@[go_sem] theorem concT_180 : concT Tryz.prog 180 = true := by kernel_rfl
@[go_sem] theorem spreadT_180 : spreadT Tryz.prog 180 = true := by kernel_rfl
@[go_sem] theorem zokT_180 : zokT Tryz.prog 180 = true := by kernel_rfl
@[go_sem] theorem bytesT_180 : bytesT Tryz.prog 180 = 8 := by kernel_rfl
@[go_sem] theorem arrT_180 : arrT Tryz.prog 180 = none := by kernel_rfl
@[go_sem] theorem szT_185 : szT Tryz.prog 185 = 1 := by kernel_rfl
@[go_sem] theorem agT_185 : agT Tryz.prog 185 = some false := by kernel_rfl
@[go_sem] theorem zeroT_185 : zeroT Tryz.prog 185 = some (.int .u64 0) := by kernel_rfl
@[go_sem] theorem elemT_185 : elemT Tryz.prog 185 = none := by kernel_rfl
@[go_sem] theorem concT_185 : concT Tryz.prog 185 = true := by kernel_rfl
@[go_sem] theorem spreadT_185 : spreadT Tryz.prog 185 = false := by kernel_rfl
@[go_sem] theorem zokT_185 : zokT Tryz.prog 185 = true := by kernel_rfl
@[go_sem] theorem bytesT_185 : bytesT Tryz.prog 185 = 8 := by kernel_rfl
@[go_sem] theorem arrT_185 : arrT Tryz.prog 185 = none := by kernel_rfl
@[go_sem] theorem keyT_185 : keyT Tryz.prog 185 = some (false, [.i]) := by kernel_rfl
@[go_sem] theorem szT_188 : szT Tryz.prog 188 = 256 := by kernel_rfl
@[go_sem] theorem agT_188 : agT Tryz.prog 188 = some true := by kernel_rfl
@[go_sem] theorem zeroT_188 : zeroT Tryz.prog 188 = some (.agg [(.bool false), (.bool false), (.bool false), (.bool false), (.bool false), (.bool false), (.bool false), (.bool false), (.bool false), (.bool false), (.bool false), (.bool false), (.bool false), (.bool false), (.bool false), (.bool false), (.bool false), (.bool false), (.bool false), (.bool false), (.bool false), (.bool false), (.bool false), (.bool false), (.bool false), (.bool false), (.bool false), (.bool false), (.bool false), (.bool false), (.bool false), (.bool false), (.bool false), (.bool false), (.bool false), (.bool false), (.bool false), (.bool false), (.bool false), (.bool false), (.bool false), (.bool false), (.bool false), (.bool false), (.bool false), (.bool false), (.bool false), (.bool false), (.bool false), (.bool false), (.bool false), (.bool false), (.bool false), (.bool false), (.bool false), (.bool false), (.bool false), (.bool false), (.bool false), (.bool false), (.bool false), (.bool false), (.bool false), (.bool false), (.bool false), (.bool false), (.bool false), (.bool false), (.bool false), (.bool false), (.bool false), (.bool false), (.bool false), (.bool false), (.bool false), (.bool false), (.bool false), (.bool false), (.bool false), (.bool false), (.bool false), (.bool false), (.bool false), (.bool false), (.bool false), (.bool false), (.bool false), (.bool false), (.bool false), (.bool false), (.bool false), (.bool false), (.bool false), (.bool false), (.bool false), (.bool false), (.bool false), (.bool false), (.bool false), (.bool false), (.bool false), (.bool false), (.bool false), (.bool false), (.bool false), (.bool false), (.bool false), (.bool false), (.bool false), (.bool false), (.bool false), (.bool false), (.bool false), (.bool false), (.bool false), (.bool false), (.bool false), (.bool false), (.bool false), (.bool false), (.bool false), (.bool false), (.bool false), (.bool false), (.bool false), (.bool false), (.bool false), (.bool false), (.bool false), (.bool false), (.bool false), (.bool false), (.bool false), (.bool false), (.bool false), (.bool false), (.bool false), (.bool false), (.bool false), (.bool false), (.bool false), (.bool false), (.bool false), (.bool false), (.bool false), (.bool false), (.bool false), (.bool false), (.bool false), (.bool false), (.bool false), (.bool false), (.bool false), (.bool false), (.bool false), (.bool false), (.bool false), (.bool false), (.bool false), (.bool false), (.bool false), (.bool false), (.bool false), (.bool false), (.bool false), (.bool false), (.bool false), (.bool false), (.bool false), (.bool false), (.bool false), (.bool false), (.bool false), (.bool false), (.bool false), (.bool false), (.bool false), (.bool false), (.bool false), (.bool false), (.bool false), (.bool false), (.bool false), (.bool false), (.bool false), (.bool false), (.bool false), (.bool false), (.bool false), (.bool false), (.bool false), (.bool false), (.bool false), (.bool false), (.bool false), (.bool false), (.bool false), (.bool false), (.bool false), (.bool false), (.bool false), (.bool false), (.bool false), (.bool false), (.bool false), (.bool false), (.bool false), (.bool false), (.bool false), (.bool false), (.bool false), (.bool false), (.bool false), (.bool false), (.bool false), (.bool false), (.bool false), (.bool false), (.bool false), (.bool false), (.bool false), (.bool false), (.bool false), (.bool false), (.bool false), (.bool false), (.bool false), (.bool false), (.bool false), (.bool false), (.bool false), (.bool false), (.bool false), (.bool false), (.bool false), (.bool false), (.bool false), (.bool false), (.bool false), (.bool false), (.bool false), (.bool false), (.bool false), (.bool false), (.bool false), (.bool false), (.bool false), (.bool false), (.bool false), (.bool false), (.bool false), (.bool false), (.bool false), (.bool false), (.bool false), (.bool false)]) := by kernel_rfl
@[go_sem] theorem elemT_188 : elemT Tryz.prog 188 = none := by kernel_rfl
@[go_sem] theorem concT_188 : concT Tryz.prog 188 = true := by kernel_rfl
@[go_sem] theorem spreadT_188 : spreadT Tryz.prog 188 = true := by kernel_rfl
@[go_sem] theorem zokT_188 : zokT Tryz.prog 188 = true := by kernel_rfl
@[go_sem] theorem bytesT_188 : bytesT Tryz.prog 188 = 256 := by kernel_rfl
@[go_sem] theorem arrT_188 : arrT Tryz.prog 188 = some (256, 4) := by kernel_rfl
@[go_sem] theorem placesT_188 : placesT Tryz.prog 188 = none := by kernel_rfl
@[go_sem] theorem szT_192 : szT Tryz.prog 192 = 1 := by kernel_rfl
@[go_sem] theorem agT_192 : agT Tryz.prog 192 = some false := by kernel_rfl
@[go_sem] theorem zeroT_192 : zeroT Tryz.prog 192 = some .nilptr := by kernel_rfl
@[go_sem] theorem elemT_192 : elemT Tryz.prog 192 = none := by kernel_rfl
@[go_sem] theorem concT_192 : concT Tryz.prog 192 = true := by kernel_rfl
@[go_sem] theorem spreadT_192 : spreadT Tryz.prog 192 = true := by kernel_rfl
@[go_sem] theorem zokT_192 : zokT Tryz.prog 192 = true := by kernel_rfl
@[go_sem] theorem bytesT_192 : bytesT Tryz.prog 192 = 8 := by kernel_rfl
@[go_sem] theorem arrT_192 : arrT Tryz.prog 192 = none := by kernel_rfl
@[go_sem] theorem szT_193 : szT Tryz.prog 193 = 2 := by kernel_rfl
@[go_sem] theorem agT_193 : agT Tryz.prog 193 = some true := by kernel_rfl
@[go_sem] theorem zeroT_193 : zeroT Tryz.prog 193 = some (.agg [(.str []), (.str [])]) := by kernel_rfl
@[go_sem] theorem elemT_193 : elemT Tryz.prog 193 = none := by kernel_rfl
@[go_sem] theorem concT_193 : concT Tryz.prog 193 = true := by kernel_rfl
@[go_sem] theorem spreadT_193 : spreadT Tryz.prog 193 = true := by kernel_rfl
@[go_sem] theorem zokT_193 : zokT Tryz.prog 193 = true := by kernel_rfl
@[go_sem] theorem bytesT_193 : bytesT Tryz.prog 193 = 32 := by kernel_rfl
@[go_sem] theorem arrT_193 : arrT Tryz.prog 193 = some (2, 9) := by kernel_rfl
@[go_sem] theorem placesT_193 : placesT Tryz.prog 193 = none := by kernel_rfl
@[go_sem] theorem szT_196 : szT Tryz.prog 196 = 1 := by kernel_rfl
@[go_sem] theorem agT_196 : agT Tryz.prog 196 = some false := by kernel_rfl
@[go_sem] theorem zeroT_196 : zeroT Tryz.prog 196 = some .nilfn := by kernel_rfl
@[go_sem] theorem elemT_196 : elemT Tryz.prog 196 = none := by kernel_rfl
@[go_sem] theorem concT_196 : concT Tryz.prog 196 = true := by kernel_rfl
@[go_sem] theorem spreadT_196 : spreadT Tryz.prog 196 = true := by kernel_rfl
@[go_sem] theorem zokT_196 : zokT Tryz.prog 196 = true := by kernel_rfl
@[go_sem] theorem bytesT_196 : bytesT Tryz.prog 196 = 8 := by kernel_rfl
@[go_sem] theorem arrT_196 : arrT Tryz.prog 196 = none := by kernel_rfl
@[go_sem] theorem szT_221 : szT Tryz.prog 221 = 24 := by kernel_rfl
@[go_sem] theorem agT_221 : agT Tryz.prog 221 = some true := by kernel_rfl
@[go_sem] theorem zeroT_221 : zeroT Tryz.prog 221 = some (.agg [(.int .u8 0), (.int .u8 0), (.int .u8 0), (.int .u8 0), (.int .u8 0), (.int .u8 0), (.int .u8 0), (.int .u8 0), (.int .u8 0), (.int .u8 0), (.int .u8 0), (.int .u8 0), (.int .u8 0), (.int .u8 0), (.int .u8 0), (.int .u8 0), (.int .u8 0), (.int .u8 0), (.int .u8 0), (.int .u8 0), (.int .u8 0), (.int .u8 0), (.int .u8 0), (.int .u8 0)]) := by kernel_rfl
@[go_sem] theorem elemT_221 : elemT Tryz.prog 221 = none := by kernel_rfl
@[go_sem] theorem concT_221 : concT Tryz.prog 221 = true := by kernel_rfl
@[go_sem] theorem spreadT_221 : spreadT Tryz.prog 221 = true := by kernel_rfl
@[go_sem] theorem zokT_221 : zokT Tryz.prog 221 = true := by kernel_rfl
@[go_sem] theorem bytesT_221 : bytesT Tryz.prog 221 = 24 := by kernel_rfl
@[go_sem] theorem arrT_221 : arrT Tryz.prog 221 = some (24, 5) := by kernel_rfl
@[go_sem] theorem placesT_221 : placesT Tryz.prog 221 = none := by kernel_rfl
@[go_sem] theorem szT_222 : szT Tryz.prog 222 = 1 := by kernel_rfl
@[go_sem] theorem agT_222 : agT Tryz.prog 222 = some false := by kernel_rfl
@[go_sem] theorem zeroT_222 : zeroT Tryz.prog 222 = some (.int .u64 0) := by kernel_rfl
@[go_sem] theorem elemT_222 : elemT Tryz.prog 222 = none := by kernel_rfl
@[go_sem] theorem concT_222 : concT Tryz.prog 222 = true := by kernel_rfl
@[go_sem] theorem spreadT_222 : spreadT Tryz.prog 222 = false := by kernel_rfl
@[go_sem] theorem zokT_222 : zokT Tryz.prog 222 = true := by kernel_rfl
@[go_sem] theorem bytesT_222 : bytesT Tryz.prog 222 = 8 := by kernel_rfl
@[go_sem] theorem arrT_222 : arrT Tryz.prog 222 = none := by kernel_rfl
@[go_sem] theorem keyT_222 : keyT Tryz.prog 222 = some (false, [.i]) := by kernel_rfl
@[go_sem] theorem szT_236 : szT Tryz.prog 236 = 1 := by kernel_rfl
@[go_sem] theorem agT_236 : agT Tryz.prog 236 = some false := by kernel_rfl
@[go_sem] theorem zeroT_236 : zeroT Tryz.prog 236 = some (.int .u32 0) := by kernel_rfl
@[go_sem] theorem elemT_236 : elemT Tryz.prog 236 = none := by kernel_rfl
@[go_sem] theorem concT_236 : concT Tryz.prog 236 = true := by kernel_rfl
@[go_sem] theorem spreadT_236 : spreadT Tryz.prog 236 = false := by kernel_rfl
@[go_sem] theorem zokT_236 : zokT Tryz.prog 236 = true := by kernel_rfl
@[go_sem] theorem bytesT_236 : bytesT Tryz.prog 236 = 4 := by kernel_rfl
@[go_sem] theorem arrT_236 : arrT Tryz.prog 236 = none := by kernel_rfl
@[go_sem] theorem keyT_236 : keyT Tryz.prog 236 = some (false, [.i]) := by kernel_rfl
@[go_sem] theorem szT_262 : szT Tryz.prog 262 = 65 := by kernel_rfl
@[go_sem] theorem agT_262 : agT Tryz.prog 262 = some true := by kernel_rfl
@[go_sem] theorem zeroT_262 : zeroT Tryz.prog 262 = some (.agg [(.int .u8 0), (.int .u8 0), (.int .u8 0), (.int .u8 0), (.int .u8 0), (.int .u8 0), (.int .u8 0), (.int .u8 0), (.int .u8 0), (.int .u8 0), (.int .u8 0), (.int .u8 0), (.int .u8 0), (.int .u8 0), (.int .u8 0), (.int .u8 0), (.int .u8 0), (.int .u8 0), (.int .u8 0), (.int .u8 0), (.int .u8 0), (.int .u8 0), (.int .u8 0), (.int .u8 0), (.int .u8 0), (.int .u8 0), (.int .u8 0), (.int .u8 0), (.int .u8 0), (.int .u8 0), (.int .u8 0), (.int .u8 0), (.int .u8 0), (.int .u8 0), (.int .u8 0), (.int .u8 0), (.int .u8 0), (.int .u8 0), (.int .u8 0), (.int .u8 0), (.int .u8 0), (.int .u8 0), (.int .u8 0), (.int .u8 0), (.int .u8 0), (.int .u8 0), (.int .u8 0), (.int .u8 0), (.int .u8 0), (.int .u8 0), (.int .u8 0), (.int .u8 0), (.int .u8 0), (.int .u8 0), (.int .u8 0), (.int .u8 0), (.int .u8 0), (.int .u8 0), (.int .u8 0), (.int .u8 0), (.int .u8 0), (.int .u8 0), (.int .u8 0), (.int .u8 0), (.int .u8 0)]) := by kernel_rfl
@[go_sem] theorem elemT_262 : elemT Tryz.prog 262 = none := by kernel_rfl
@[go_sem] theorem concT_262 : concT Tryz.prog 262 = true := by kernel_rfl
@[go_sem] theorem spreadT_262 : spreadT Tryz.prog 262 = true := by kernel_rfl
@[go_sem] theorem zokT_262 : zokT Tryz.prog 262 = true := by kernel_rfl
@[go_sem] theorem bytesT_262 : bytesT Tryz.prog 262 = 65 := by kernel_rfl
@[go_sem] theorem arrT_262 : arrT Tryz.prog 262 = some (65, 5) := by kernel_rfl
@[go_sem] theorem placesT_262 : placesT Tryz.prog 262 = none := by kernel_rfl
@[go_sem] theorem szT_263 : szT Tryz.prog 263 = 1 := by kernel_rfl
@[go_sem] theorem agT_263 : agT Tryz.prog 263 = some false := by kernel_rfl
@[go_sem] theorem zeroT_263 : zeroT Tryz.prog 263 = some (.int .u64 0) := by kernel_rfl
@[go_sem] theorem elemT_263 : elemT Tryz.prog 263 = none := by kernel_rfl
@[go_sem] theorem concT_263 : concT Tryz.prog 263 = true := by kernel_rfl
@[go_sem] theorem spreadT_263 : spreadT Tryz.prog 263 = false := by kernel_rfl
@[go_sem] theorem zokT_263 : zokT Tryz.prog 263 = true := by kernel_rfl
@[go_sem] theorem bytesT_263 : bytesT Tryz.prog 263 = 8 := by kernel_rfl
@[go_sem] theorem arrT_263 : arrT Tryz.prog 263 = none := by kernel_rfl
@[go_sem] theorem keyT_263 : keyT Tryz.prog 263 = some (false, [.i]) := by kernel_rfl
@[go_sem] theorem szT_295 : szT Tryz.prog 295 = 1 := by kernel_rfl
@[go_sem] theorem agT_295 : agT Tryz.prog 295 = some false := by kernel_rfl
@[go_sem] theorem zeroT_295 : zeroT Tryz.prog 295 = some .nilptr := by kernel_rfl
@[go_sem] theorem elemT_295 : elemT Tryz.prog 295 = none := by kernel_rfl
@[go_sem] theorem concT_295 : concT Tryz.prog 295 = true := by kernel_rfl
@[go_sem] theorem spreadT_295 : spreadT Tryz.prog 295 = true := by kernel_rfl
@[go_sem] theorem zokT_295 : zokT Tryz.prog 295 = true := by kernel_rfl
@[go_sem] theorem bytesT_295 : bytesT Tryz.prog 295 = 8 := by kernel_rfl
@[go_sem] theorem arrT_295 : arrT Tryz.prog 295 = none := by kernel_rfl
@[go_sem] theorem szT_304 : szT Tryz.prog 304 = 1 := by kernel_rfl
@[go_sem] theorem agT_304 : agT Tryz.prog 304 = some false := by kernel_rfl
@[go_sem] theorem zeroT_304 : zeroT Tryz.prog 304 = some (.int .i64 0) := by kernel_rfl
@[go_sem] theorem elemT_304 : elemT Tryz.prog 304 = none := by kernel_rfl
@[go_sem] theorem concT_304 : concT Tryz.prog 304 = true := by kernel_rfl
@[go_sem] theorem spreadT_304 : spreadT Tryz.prog 304 = false := by kernel_rfl
@[go_sem] theorem zokT_304 : zokT Tryz.prog 304 = true := by kernel_rfl
@[go_sem] theorem bytesT_304 : bytesT Tryz.prog 304 = 8 := by kernel_rfl
@[go_sem] theorem arrT_304 : arrT Tryz.prog 304 = none := by kernel_rfl
@[go_sem] theorem keyT_304 : keyT Tryz.prog 304 = some (false, [.i]) := by kernel_rfl
@[go_sem] theorem szT_307 : szT Tryz.prog 307 = 1 := by kernel_rfl
end Go.V
namespace Go.V
open Go.Proofs
@[go_sem] theorem agT_307 : agT Tryz.prog 307 = some false := by kernel_rfl
@[go_sem] theorem zeroT_307 : zeroT Tryz.prog 307 = some .nilptr := by kernel_rfl
@[go_sem] theorem elemT_307 : elemT Tryz.prog 307 = none := by kernel_rfl
@[go_sem] theorem concT_307 : concT Tryz.prog 307 = true := by kernel_rfl
@[go_sem] theorem spreadT_307 : spreadT Tryz.prog 307 = true := by kernel_rfl
@[go_sem] theorem zokT_307 : zokT Tryz.prog 307 = true := by kernel_rfl
@[go_sem] theorem bytesT_307 : bytesT Tryz.prog 307 = 8 := by kernel_rfl
@[go_sem] theorem arrT_307 : arrT Tryz.prog 307 = none := by kernel_rfl
@[go_sem] theorem szT_326 : szT Tryz.prog 326 = 3 := by kernel_rfl
@[go_sem] theorem agT_326 : agT Tryz.prog 326 = some true := by kernel_rfl
@[go_sem] theorem zeroT_326 : zeroT Tryz.prog 326 = some (.agg [(.str []), (.str []), .niliface]) := by kernel_rfl
@[go_sem] theorem elemT_326 : elemT Tryz.prog 326 = none := by kernel_rfl
@[go_sem] theorem concT_326 : concT Tryz.prog 326 = true := by kernel_rfl
@[go_sem] theorem spreadT_326 : spreadT Tryz.prog 326 = true := by kernel_rfl
@[go_sem] theorem zokT_326 : zokT Tryz.prog 326 = true := by kernel_rfl
@[go_sem] theorem bytesT_326 : bytesT Tryz.prog 326 = 48 := by kernel_rfl
@[go_sem] theorem arrT_326 : arrT Tryz.prog 326 = none := by kernel_rfl
@[go_sem] theorem placesT_326 : placesT Tryz.prog 326 = some [(0, 1), (1, 1), (2, 1)] := by kernel_rfl
@[go_sem] theorem fieldT_326_0 : fieldT Tryz.prog 326 0 = some (0, 9) := by kernel_rfl
@[go_sem] theorem fieldT_326_1 : fieldT Tryz.prog 326 1 = some (1, 9) := by kernel_rfl
@[go_sem] theorem fieldT_326_2 : fieldT Tryz.prog 326 2 = some (2, 79) := by kernel_rfl
@[go_sem] theorem szT_336 : szT Tryz.prog 336 = 1 := by kernel_rfl
@[go_sem] theorem agT_336 : agT Tryz.prog 336 = some false := by kernel_rfl
@[go_sem] theorem zeroT_336 : zeroT Tryz.prog 336 = some .nilptr := by kernel_rfl
@[go_sem] theorem elemT_336 : elemT Tryz.prog 336 = none := by kernel_rfl
@[go_sem] theorem concT_336 : concT Tryz.prog 336 = true := by kernel_rfl
@[go_sem] theorem spreadT_336 : spreadT Tryz.prog 336 = true := by kernel_rfl
@[go_sem] theorem zokT_336 : zokT Tryz.prog 336 = true := by kernel_rfl
@[go_sem] theorem bytesT_336 : bytesT Tryz.prog 336 = 8 := by kernel_rfl
@[go_sem] theorem arrT_336 : arrT Tryz.prog 336 = none := by kernel_rfl
@[go_sem] theorem szT_338 : szT Tryz.prog 338 = 1 := by kernel_rfl
@[go_sem] theorem agT_338 : agT Tryz.prog 338 = some true := by kernel_rfl
@[go_sem] theorem zeroT_338 : zeroT Tryz.prog 338 = some (.agg [(.str [])]) := by kernel_rfl
@[go_sem] theorem elemT_338 : elemT Tryz.prog 338 = none := by kernel_rfl
@[go_sem] theorem concT_338 : concT Tryz.prog 338 = true := by kernel_rfl
@[go_sem] theorem spreadT_338 : spreadT Tryz.prog 338 = true := by kernel_rfl
@[go_sem] theorem zokT_338 : zokT Tryz.prog 338 = true := by kernel_rfl
@[go_sem] theorem bytesT_338 : bytesT Tryz.prog 338 = 16 := by kernel_rfl
@[go_sem] theorem arrT_338 : arrT Tryz.prog 338 = none := by kernel_rfl
@[go_sem] theorem keyT_338 : keyT Tryz.prog 338 = some (true, [.s]) := by kernel_rfl
@[go_sem] theorem eqT_338 : eqT Tryz.prog 338 = some [.s] := by kernel_rfl
@[go_sem] theorem placesT_338 : placesT Tryz.prog 338 = some [(0, 1)] := by kernel_rfl
@[go_sem] theorem fieldT_338_0 : fieldT Tryz.prog 338 0 = some (0, 9) := by kernel_rfl
@[go_sem] theorem szT_44 : szT Tryz.prog 44 = 1 := by kernel_rfl
@[go_sem] theorem agT_44 : agT Tryz.prog 44 = some false := by kernel_rfl
@[go_sem] theorem zeroT_44 : zeroT Tryz.prog 44 = some .nilsl := by kernel_rfl
@[go_sem] theorem elemT_44 : elemT Tryz.prog 44 = some 108 := by kernel_rfl
@[go_sem] theorem concT_44 : concT Tryz.prog 44 = true := by kernel_rfl
@[go_sem] theorem spreadT_44 : spreadT Tryz.prog 44 = true := by kernel_rfl
@[go_sem] theorem zokT_44 : zokT Tryz.prog 44 = true := by kernel_rfl
@[go_sem] theorem bytesT_44 : bytesT Tryz.prog 44 = 24 := by kernel_rfl
@[go_sem] theorem arrT_44 : arrT Tryz.prog 44 = none := by kernel_rfl
@[go_sem] theorem szT_45 : szT Tryz.prog 45 = 1 := by kernel_rfl
@[go_sem] theorem agT_45 : agT Tryz.prog 45 = some false := by kernel_rfl
@[go_sem] theorem zeroT_45 : zeroT Tryz.prog 45 = some .nilsl := by kernel_rfl
@[go_sem] theorem elemT_45 : elemT Tryz.prog 45 = some 114 := by kernel_rfl
@[go_sem] theorem concT_45 : concT Tryz.prog 45 = true := by kernel_rfl
@[go_sem] theorem spreadT_45 : spreadT Tryz.prog 45 = true := by kernel_rfl
@[go_sem] theorem zokT_45 : zokT Tryz.prog 45 = true := by kernel_rfl
@[go_sem] theorem bytesT_45 : bytesT Tryz.prog 45 = 24 := by kernel_rfl
@[go_sem] theorem arrT_45 : arrT Tryz.prog 45 = none := by kernel_rfl
@[go_sem] theorem szT_46 : szT Tryz.prog 46 = 1 := by kernel_rfl
@[go_sem] theorem agT_46 : agT Tryz.prog 46 = some false := by kernel_rfl
@[go_sem] theorem zeroT_46 : zeroT Tryz.prog 46 = some .nilsl := by kernel_rfl
@[go_sem] theorem elemT_46 : elemT Tryz.prog 46 = some 118 := by kernel_rfl
@[go_sem] theorem concT_46 : concT Tryz.prog 46 = true := by kernel_rfl
@[go_sem] theorem spreadT_46 : spreadT Tryz.prog 46 = true := by kernel_rfl
@[go_sem] theorem zokT_46 : zokT Tryz.prog 46 = true := by kernel_rfl
@[go_sem] theorem bytesT_46 : bytesT Tryz.prog 46 = 24 := by kernel_rfl
@[go_sem] theorem arrT_46 : arrT Tryz.prog 46 = none := by kernel_rfl
@[go_sem] theorem szT_47 : szT Tryz.prog 47 = 1 := by kernel_rfl
@[go_sem] theorem agT_47 : agT Tryz.prog 47 = some false := by kernel_rfl
@[go_sem] theorem zeroT_47 : zeroT Tryz.prog 47 = some .nilsl := by kernel_rfl
@[go_sem] theorem elemT_47 : elemT Tryz.prog 47 = some 122 := by kernel_rfl
@[go_sem] theorem concT_47 : concT Tryz.prog 47 = true := by kernel_rfl
@[go_sem] theorem spreadT_47 : spreadT Tryz.prog 47 = true := by kernel_rfl
@[go_sem] theorem zokT_47 : zokT Tryz.prog 47 = true := by kernel_rfl
@[go_sem] theorem bytesT_47 : bytesT Tryz.prog 47 = 24 := by kernel_rfl
@[go_sem] theorem arrT_47 : arrT Tryz.prog 47 = none := by kernel_rfl
@[go_sem] theorem szT_52 : szT Tryz.prog 52 = 1 := by kernel_rfl
@[go_sem] theorem agT_52 : agT Tryz.prog 52 = some false := by kernel_rfl
@[go_sem] theorem zeroT_52 : zeroT Tryz.prog 52 = some .nilsl := by kernel_rfl
@[go_sem] theorem elemT_52 : elemT Tryz.prog 52 = some 54 := by kernel_rfl
@[go_sem] theorem concT_52 : concT Tryz.prog 52 = true := by kernel_rfl
@[go_sem] theorem spreadT_52 : spreadT Tryz.prog 52 = true := by kernel_rfl
@[go_sem] theorem zokT_52 : zokT Tryz.prog 52 = true := by kernel_rfl
@[go_sem] theorem bytesT_52 : bytesT Tryz.prog 52 = 24 := by kernel_rfl
@[go_sem] theorem arrT_52 : arrT Tryz.prog 52 = none := by kernel_rfl
@[go_sem] theorem szT_59 : szT Tryz.prog 59 = 1 := by kernel_rfl
@[go_sem] theorem agT_59 : agT Tryz.prog 59 = some false := by kernel_rfl
@[go_sem] theorem zeroT_59 : zeroT Tryz.prog 59 = some .nilsl := by kernel_rfl
@[go_sem] theorem elemT_59 : elemT Tryz.prog 59 = some 174 := by kernel_rfl
@[go_sem] theorem concT_59 : concT Tryz.prog 59 = true := by kernel_rfl
@[go_sem] theorem spreadT_59 : spreadT Tryz.prog 59 = true := by kernel_rfl
@[go_sem] theorem zokT_59 : zokT Tryz.prog 59 = true := by kernel_rfl
@[go_sem] theorem bytesT_59 : bytesT Tryz.prog 59 = 24 := by kernel_rfl
@[go_sem] theorem arrT_59 : arrT Tryz.prog 59 = none := by kernel_rfl
@[go_sem] theorem szT_64 : szT Tryz.prog 64 = 1 := by kernel_rfl
@[go_sem] theorem agT_64 : agT Tryz.prog 64 = some false := by kernel_rfl
@[go_sem] theorem zeroT_64 : zeroT Tryz.prog 64 = some .nilsl := by kernel_rfl
@[go_sem] theorem elemT_64 : elemT Tryz.prog 64 = some 377 := by kernel_rfl
@[go_sem] theorem concT_64 : concT Tryz.prog 64 = true := by kernel_rfl
@[go_sem] theorem spreadT_64 : spreadT Tryz.prog 64 = true := by kernel_rfl
@[go_sem] theorem zokT_64 : zokT Tryz.prog 64 = true := by kernel_rfl
@[go_sem] theorem bytesT_64 : bytesT Tryz.prog 64 = 24 := by kernel_rfl
@[go_sem] theorem arrT_64 : arrT Tryz.prog 64 = none := by kernel_rfl
@[go_sem] theorem szT_136 : szT Tryz.prog 136 = 7 := by kernel_rfl
@[go_sem] theorem agT_136 : agT Tryz.prog 136 = some true := by kernel_rfl
@[go_sem] theorem zeroT_136 : zeroT Tryz.prog 136 = some (.agg [(.str []), (.str []), (.str []), (.str []), (.int .i64 0), (.int .i64 0), (.int .i64 0)]) := by kernel_rfl
@[go_sem] theorem elemT_136 : elemT Tryz.prog 136 = none := by kernel_rfl
@[go_sem] theorem concT_136 : concT Tryz.prog 136 = true := by kernel_rfl
@[go_sem] theorem spreadT_136 : spreadT Tryz.prog 136 = true := by kernel_rfl
@[go_sem] theorem zokT_136 : zokT Tryz.prog 136 = true := by kernel_rfl
@[go_sem] theorem bytesT_136 : bytesT Tryz.prog 136 = 88 := by kernel_rfl
@[go_sem] theorem arrT_136 : arrT Tryz.prog 136 = none := by kernel_rfl
@[go_sem] theorem keyT_136 : keyT Tryz.prog 136 = some (true, [.s, .s, .s, .s, .i, .i, .i]) := by kernel_rfl
@[go_sem] theorem eqT_136 : eqT Tryz.prog 136 = some [.s, .s, .s, .s, .i, .i, .i] := by kernel_rfl
@[go_sem] theorem placesT_136 : placesT Tryz.prog 136 = some [(0, 1), (1, 1), (2, 2), (4, 1), (5, 1), (6, 1)] := by kernel_rfl
@[go_sem] theorem fieldT_136_0 : fieldT Tryz.prog 136 0 = some (0, 9) := by kernel_rfl
@[go_sem] theorem fieldT_136_1 : fieldT Tryz.prog 136 1 = some (1, 9) := by kernel_rfl
@[go_sem] theorem fieldT_136_2 : fieldT Tryz.prog 136 2 = some (2, 134) := by kernel_rfl
@[go_sem] theorem fieldT_136_3 : fieldT Tryz.prog 136 3 = some (4, 3) := by kernel_rfl
@[go_sem] theorem fieldT_136_4 : fieldT Tryz.prog 136 4 = some (5, 3) := by kernel_rfl
@[go_sem] theorem fieldT_136_5 : fieldT Tryz.prog 136 5 = some (6, 3) := by kernel_rfl
@[go_sem] theorem szT_108 : szT Tryz.prog 108 = 4 := by kernel_rfl
@[go_sem] theorem agT_108 : agT Tryz.prog 108 = some true := by kernel_rfl
@[go_sem] theorem zeroT_108 : zeroT Tryz.prog 108 = some (.agg [(.str []), (.str []), (.int .i64 0), (.str [])]) := by kernel_rfl
@[go_sem] theorem elemT_108 : elemT Tryz.prog 108 = none := by kernel_rfl
@[go_sem] theorem concT_108 : concT Tryz.prog 108 = true := by kernel_rfl
@[go_sem] theorem spreadT_108 : spreadT Tryz.prog 108 = true := by kernel_rfl
@[go_sem] theorem zokT_108 : zokT Tryz.prog 108 = true := by kernel_rfl
@[go_sem] theorem bytesT_108 : bytesT Tryz.prog 108 = 56 := by kernel_rfl
@[go_sem] theorem arrT_108 : arrT Tryz.prog 108 = none := by kernel_rfl
@[go_sem] theorem keyT_108 : keyT Tryz.prog 108 = some (true, [.s, .s, .i, .s]) := by kernel_rfl
@[go_sem] theorem eqT_108 : eqT Tryz.prog 108 = some [.s, .s, .i, .s] := by kernel_rfl
@[go_sem] theorem placesT_108 : placesT Tryz.prog 108 = some [(0, 1), (1, 1), (2, 1), (3, 1)] := by kernel_rfl
@[go_sem] theorem fieldT_108_0 : fieldT Tryz.prog 108 0 = some (0, 9) := by kernel_rfl
@[go_sem] theorem fieldT_108_1 : fieldT Tryz.prog 108 1 = some (1, 9) := by kernel_rfl
@[go_sem] theorem fieldT_108_2 : fieldT Tryz.prog 108 2 = some (2, 3) := by kernel_rfl
@[go_sem] theorem fieldT_108_3 : fieldT Tryz.prog 108 3 = some (3, 9) := by kernel_rfl
@[go_sem] theorem szT_114 : szT Tryz.prog 114 = 3 := by kernel_rfl
@[go_sem] theorem agT_114 : agT Tryz.prog 114 = some true := by kernel_rfl
@[go_sem] theorem zeroT_114 : zeroT Tryz.prog 114 = some (.agg [(.str []), (.str []), .nilsl]) := by kernel_rfl
@[go_sem] theorem elemT_114 : elemT Tryz.prog 114 = none := by kernel_rfl
@[go_sem] theorem concT_114 : concT Tryz.prog 114 = true := by kernel_rfl
@[go_sem] theorem spreadT_114 : spreadT Tryz.prog 114 = true := by kernel_rfl
@[go_sem] theorem zokT_114 : zokT Tryz.prog 114 = true := by kernel_rfl
@[go_sem] theorem bytesT_114 : bytesT Tryz.prog 114 = 56 := by kernel_rfl
@[go_sem] theorem arrT_114 : arrT Tryz.prog 114 = none := by kernel_rfl
@[go_sem] theorem placesT_114 : placesT Tryz.prog 114 = some [(0, 1), (1, 1), (2, 1)] := by kernel_rfl
@[go_sem] theorem fieldT_114_0 : fieldT Tryz.prog 114 0 = some (0, 9) := by kernel_rfl
@[go_sem] theorem fieldT_114_1 : fieldT Tryz.prog 114 1 = some (1, 9) := by kernel_rfl
@[go_sem] theorem fieldT_114_2 : fieldT Tryz.prog 114 2 = some (2, 112) := by kernel_rfl
@[go_sem] theorem szT_118 : szT Tryz.prog 118 = 5 := by kernel_rfl
@[go_sem] theorem agT_118 : agT Tryz.prog 118 = some true := by kernel_rfl
@[go_sem] theorem zeroT_118 : zeroT Tryz.prog 118 = some (.agg [(.str []), (.int .i64 0), (.int .i64 0), (.int .i64 0), .nilsl]) := by kernel_rfl
@[go_sem] theorem elemT_118 : elemT Tryz.prog 118 = none := by kernel_rfl
@[go_sem] theorem concT_118 : concT Tryz.prog 118 = true := by kernel_rfl
@[go_sem] theorem spreadT_118 : spreadT Tryz.prog 118 = true := by kernel_rfl
@[go_sem] theorem zokT_118 : zokT Tryz.prog 118 = true := by kernel_rfl
@[go_sem] theorem bytesT_118 : bytesT Tryz.prog 118 = 64 := by kernel_rfl
@[go_sem] theorem arrT_118 : arrT Tryz.prog 118 = none := by kernel_rfl
@[go_sem] theorem placesT_118 : placesT Tryz.prog 118 = some [(0, 1), (1, 1), (2, 1), (3, 1), (4, 1)] := by kernel_rfl
@[go_sem] theorem fieldT_118_0 : fieldT Tryz.prog 118 0 = some (0, 9) := by kernel_rfl
@[go_sem] theorem fieldT_118_1 : fieldT Tryz.prog 118 1 = some (1, 3) := by kernel_rfl
@[go_sem] theorem fieldT_118_2 : fieldT Tryz.prog 118 2 = some (2, 3) := by kernel_rfl
@[go_sem] theorem fieldT_118_3 : fieldT Tryz.prog 118 3 = some (3, 3) := by kernel_rfl
@[go_sem] theorem fieldT_118_4 : fieldT Tryz.prog 118 4 = some (4, 22) := by kernel_rfl
@[go_sem] theorem szT_122 : szT Tryz.prog 122 = 2 := by kernel_rfl
@[go_sem] theorem agT_122 : agT Tryz.prog 122 = some true := by kernel_rfl
@[go_sem] theorem zeroT_122 : zeroT Tryz.prog 122 = some (.agg [(.str []), (.str [])]) := by kernel_rfl
@[go_sem] theorem elemT_122 : elemT Tryz.prog 122 = none := by kernel_rfl
@[go_sem] theorem concT_122 : concT Tryz.prog 122 = true := by kernel_rfl
@[go_sem] theorem spreadT_122 : spreadT Tryz.prog 122 = true := by kernel_rfl
@[go_sem] theorem zokT_122 : zokT Tryz.prog 122 = true := by kernel_rfl
@[go_sem] theorem bytesT_122 : bytesT Tryz.prog 122 = 32 := by kernel_rfl
@[go_sem] theorem arrT_122 : arrT Tryz.prog 122 = none := by kernel_rfl
@[go_sem] theorem keyT_122 : keyT Tryz.prog 122 = some (true, [.s, .s]) := by kernel_rfl
@[go_sem] theorem eqT_122 : eqT Tryz.prog 122 = some [.s, .s] := by kernel_rfl
@[go_sem] theorem placesT_122 : placesT Tryz.prog 122 = some [(0, 1), (1, 1)] := by kernel_rfl
@[go_sem] theorem fieldT_122_0 : fieldT Tryz.prog 122 0 = some (0, 9) := by kernel_rfl
@[go_sem] theorem fieldT_122_1 : fieldT Tryz.prog 122 1 = some (1, 9) := by kernel_rfl
@[go_sem] theorem szT_174 : szT Tryz.prog 174 = 1 := by kernel_rfl
@[go_sem] theorem agT_174 : agT Tryz.prog 174 = some false := by kernel_rfl
@[go_sem] theorem zeroT_174 : zeroT Tryz.prog 174 = some .nilsl := by kernel_rfl
@[go_sem] theorem elemT_174 : elemT Tryz.prog 174 = some 134 := by kernel_rfl
@[go_sem] theorem concT_174 : concT Tryz.prog 174 = true := by kernel_rfl
@[go_sem] theorem spreadT_174 : spreadT Tryz.prog 174 = true := by kernel_rfl
@[go_sem] theorem zokT_174 : zokT Tryz.prog 174 = true := by kernel_rfl
@[go_sem] theorem bytesT_174 : bytesT Tryz.prog 174 = 24 := by kernel_rfl
@[go_sem] theorem arrT_174 : arrT Tryz.prog 174 = none := by kernel_rfl
@[go_sem] theorem szT_377 : szT Tryz.prog 377 = 4 := by kernel_rfl
@[go_sem] theorem agT_377 : agT Tryz.prog 377 = some true := by kernel_rfl
@[go_sem] theorem zeroT_377 : zeroT Tryz.prog 377 = some (.agg [(.int .i64 0), (.int .i64 0), (.int .i64 0), (.str [])]) := by kernel_rfl
@[go_sem] theorem elemT_377 : elemT Tryz.prog 377 = none := by kernel_rfl
@[go_sem] theorem concT_377 : concT Tryz.prog 377 = true := by kernel_rfl
@[go_sem] theorem spreadT_377 : spreadT Tryz.prog 377 = true := by kernel_rfl
@[go_sem] theorem zokT_377 : zokT Tryz.prog 377 = true := by kernel_rfl
@[go_sem] theorem bytesT_377 : bytesT Tryz.prog 377 = 40 := by kernel_rfl
@[go_sem] theorem arrT_377 : arrT Tryz.prog 377 = none := by kernel_rfl
@[go_sem] theorem keyT_377 : keyT Tryz.prog 377 = some (true, [.i, .i, .i, .s]) := by kernel_rfl
@[go_sem] theorem eqT_377 : eqT Tryz.prog 377 = some [.i, .i, .i, .s] := by kernel_rfl
@[go_sem] theorem placesT_377 : placesT Tryz.prog 377 = some [(0, 1), (1, 1), (2, 1), (3, 1)] := by kernel_rfl
@[go_sem] theorem fieldT_377_0 : fieldT Tryz.prog 377 0 = some (0, 3) := by kernel_rfl
@[go_sem] theorem fieldT_377_1 : fieldT Tryz.prog 377 1 = some (1, 3) := by kernel_rfl
@[go_sem] theorem fieldT_377_2 : fieldT Tryz.prog 377 2 = some (2, 3) := by kernel_rfl
@[go_sem] theorem fieldT_377_3 : fieldT Tryz.prog 377 3 = some (3, 9) := by kernel_rfl
@[go_sem] theorem szT_134 : szT Tryz.prog 134 = 2 := by kernel_rfl
@[go_sem] theorem agT_134 : agT Tryz.prog 134 = some true := by kernel_rfl
@[go_sem] theorem zeroT_134 : zeroT Tryz.prog 134 = some (.agg [(.str []), (.str [])]) := by kernel_rfl
@[go_sem] theorem elemT_134 : elemT Tryz.prog 134 = none := by kernel_rfl
@[go_sem] theorem concT_134 : concT Tryz.prog 134 = true := by kernel_rfl
@[go_sem] theorem spreadT_134 : spreadT Tryz.prog 134 = true := by kernel_rfl
@[go_sem] theorem zokT_134 : zokT Tryz.prog 134 = true := by kernel_rfl
@[go_sem] theorem bytesT_134 : bytesT Tryz.prog 134 = 32 := by kernel_rfl
@[go_sem] theorem arrT_134 : arrT Tryz.prog 134 = none := by kernel_rfl
@[go_sem] theorem keyT_134 : keyT Tryz.prog 134 = some (true, [.s, .s]) := by kernel_rfl
@[go_sem] theorem eqT_134 : eqT Tryz.prog 134 = some [.s, .s] := by kernel_rfl
@[go_sem] theorem placesT_134 : placesT Tryz.prog 134 = some [(0, 1), (1, 1)] := by kernel_rfl
@[go_sem] theorem fieldT_134_0 : fieldT Tryz.prog 134 0 = some (0, 9) := by kernel_rfl
@[go_sem] theorem fieldT_134_1 : fieldT Tryz.prog 134 1 = some (1, 9) := by kernel_rfl
@[go_sem] theorem szT_112 : szT Tryz.prog 112 = 1 := by kernel_rfl
@[go_sem] theorem agT_112 : agT Tryz.prog 112 = some false := by kernel_rfl
@[go_sem] theorem zeroT_112 : zeroT Tryz.prog 112 = some .nilsl := by kernel_rfl
@[go_sem] theorem elemT_112 : elemT Tryz.prog 112 = some 3 := by kernel_rfl
@[go_sem] theorem concT_112 : concT Tryz.prog 112 = true := by kernel_rfl
@[go_sem] theorem spreadT_112 : spreadT Tryz.prog 112 = true := by kernel_rfl
@[go_sem] theorem zokT_112 : zokT Tryz.prog 112 = true := by kernel_rfl
@[go_sem] theorem bytesT_112 : bytesT Tryz.prog 112 = 24 := by kernel_rfl
@[go_sem] theorem arrT_112 : arrT Tryz.prog 112 = none := by kernel_rfl
end Go.V
