/- Facts about types of this program. No condition. -/
import Derived.Test.YtkifdjnbkkkhlaaGreatDoorVhD
import Derived.Test.YtkifdjnbkkkhlaaGreatDoorProg
set_option linter.unusedSimpArgs false
set_option linter.unusedVariables false
set_option linter.constructorNameAsVariable false
set_option linter.deprecated false
namespace Go.V
open Go.Proofs
@[go_sem] theorem szT_3 : szT Tryz.prog 3 = 1 := by kernel_rfl
@[go_sem] theorem agT_3 : agT Tryz.prog 3 = some false := by kernel_rfl
@[go_sem] theorem zeroT_3 : zeroT Tryz.prog 3 = some (.int .i64 0) := by kernel_rfl
@[go_sem] theorem elemT_3 : elemT Tryz.prog 3 = none := by kernel_rfl
@[go_sem] theorem concT_3 : concT Tryz.prog 3 = true := by kernel_rfl
@[go_sem] theorem spreadT_3 : spreadT Tryz.prog 3 = false := by kernel_rfl
@[go_sem] theorem zokT_3 : zokT Tryz.prog 3 = true := by kernel_rfl
@[go_sem] theorem bytesT_3 : bytesT Tryz.prog 3 = 8 := by kernel_rfl
@[go_sem] theorem arrT_3 : arrT Tryz.prog 3 = none := by kernel_rfl
@[go_sem] theorem keyT_3 : keyT Tryz.prog 3 = some (false, [.i]) := by kernel_rfl
@[go_sem] theorem szT_4 : szT Tryz.prog 4 = 1 := by kernel_rfl
@[go_sem] theorem agT_4 : agT Tryz.prog 4 = some false := by kernel_rfl
@[go_sem] theorem zeroT_4 : zeroT Tryz.prog 4 = some (.bool false) := by kernel_rfl
@[go_sem] theorem elemT_4 : elemT Tryz.prog 4 = none := by kernel_rfl
@[go_sem] theorem concT_4 : concT Tryz.prog 4 = true := by kernel_rfl
@[go_sem] theorem spreadT_4 : spreadT Tryz.prog 4 = true := by kernel_rfl
@[go_sem] theorem zokT_4 : zokT Tryz.prog 4 = true := by kernel_rfl
@[go_sem] theorem bytesT_4 : bytesT Tryz.prog 4 = 1 := by kernel_rfl
@[go_sem] theorem arrT_4 : arrT Tryz.prog 4 = none := by kernel_rfl
@[go_sem] theorem keyT_4 : keyT Tryz.prog 4 = some (false, [.b]) := by kernel_rfl
@[go_sem] theorem szT_5 : szT Tryz.prog 5 = 1 := by kernel_rfl
@[go_sem] theorem agT_5 : agT Tryz.prog 5 = some false := by kernel_rfl
@[go_sem] theorem zeroT_5 : zeroT Tryz.prog 5 = some (.int .u8 0) := by kernel_rfl
@[go_sem] theorem elemT_5 : elemT Tryz.prog 5 = none := by kernel_rfl
@[go_sem] theorem concT_5 : concT Tryz.prog 5 = true := by kernel_rfl
@[go_sem] theorem spreadT_5 : spreadT Tryz.prog 5 = false := by kernel_rfl
@[go_sem] theorem zokT_5 : zokT Tryz.prog 5 = true := by kernel_rfl
@[go_sem] theorem bytesT_5 : bytesT Tryz.prog 5 = 1 := by kernel_rfl
@[go_sem] theorem arrT_5 : arrT Tryz.prog 5 = none := by kernel_rfl
@[go_sem] theorem keyT_5 : keyT Tryz.prog 5 = some (false, [.i]) := by kernel_rfl
@[go_sem] theorem szT_9 : szT Tryz.prog 9 = 1 := by kernel_rfl
@[go_sem] theorem agT_9 : agT Tryz.prog 9 = some false := by kernel_rfl
@[go_sem] theorem zeroT_9 : zeroT Tryz.prog 9 = some (.str []) := by kernel_rfl
@[go_sem] theorem elemT_9 : elemT Tryz.prog 9 = none := by kernel_rfl
@[go_sem] theorem concT_9 : concT Tryz.prog 9 = true := by kernel_rfl
@[go_sem] theorem spreadT_9 : spreadT Tryz.prog 9 = true := by kernel_rfl
@[go_sem] theorem zokT_9 : zokT Tryz.prog 9 = true := by kernel_rfl
@[go_sem] theorem bytesT_9 : bytesT Tryz.prog 9 = 16 := by kernel_rfl
@[go_sem] theorem arrT_9 : arrT Tryz.prog 9 = none := by kernel_rfl
@[go_sem] theorem keyT_9 : keyT Tryz.prog 9 = some (false, [.s]) := by kernel_rfl
@[go_sem] theorem szT_21 : szT Tryz.prog 21 = 1 := by kernel_rfl
@[go_sem] theorem agT_21 : agT Tryz.prog 21 = some false := by kernel_rfl
@[go_sem] theorem zeroT_21 : zeroT Tryz.prog 21 = some (.int .i32 0) := by kernel_rfl
@[go_sem] theorem elemT_21 : elemT Tryz.prog 21 = none := by kernel_rfl
@[go_sem] theorem concT_21 : concT Tryz.prog 21 = true := by kernel_rfl
@[go_sem] theorem spreadT_21 : spreadT Tryz.prog 21 = false := by kernel_rfl
@[go_sem] theorem zokT_21 : zokT Tryz.prog 21 = true := by kernel_rfl
@[go_sem] theorem bytesT_21 : bytesT Tryz.prog 21 = 4 := by kernel_rfl
@[go_sem] theorem arrT_21 : arrT Tryz.prog 21 = none := by kernel_rfl
@[go_sem] theorem keyT_21 : keyT Tryz.prog 21 = some (false, [.i]) := by kernel_rfl
@[go_sem] theorem szT_22 : szT Tryz.prog 22 = 1 := by kernel_rfl
@[go_sem] theorem agT_22 : agT Tryz.prog 22 = some false := by kernel_rfl
@[go_sem] theorem zeroT_22 : zeroT Tryz.prog 22 = some .nilsl := by kernel_rfl
@[go_sem] theorem elemT_22 : elemT Tryz.prog 22 = some 5 := by kernel_rfl
@[go_sem] theorem concT_22 : concT Tryz.prog 22 = true := by kernel_rfl
@[go_sem] theorem spreadT_22 : spreadT Tryz.prog 22 = true := by kernel_rfl
@[go_sem] theorem zokT_22 : zokT Tryz.prog 22 = true := by kernel_rfl
@[go_sem] theorem bytesT_22 : bytesT Tryz.prog 22 = 24 := by kernel_rfl
@[go_sem] theorem arrT_22 : arrT Tryz.prog 22 = none := by kernel_rfl
@[go_sem] theorem szT_25 : szT Tryz.prog 25 = 1 := by kernel_rfl
@[go_sem] theorem agT_25 : agT Tryz.prog 25 = some false := by kernel_rfl
@[go_sem] theorem zeroT_25 : zeroT Tryz.prog 25 = some .nilsl := by kernel_rfl
@[go_sem] theorem elemT_25 : elemT Tryz.prog 25 = some 31 := by kernel_rfl
@[go_sem] theorem concT_25 : concT Tryz.prog 25 = true := by kernel_rfl
@[go_sem] theorem spreadT_25 : spreadT Tryz.prog 25 = true := by kernel_rfl
@[go_sem] theorem zokT_25 : zokT Tryz.prog 25 = true := by kernel_rfl
@[go_sem] theorem bytesT_25 : bytesT Tryz.prog 25 = 24 := by kernel_rfl
@[go_sem] theorem arrT_25 : arrT Tryz.prog 25 = none := by kernel_rfl
@[go_sem] theorem szT_26 : szT Tryz.prog 26 = 1 := by kernel_rfl
@[go_sem] theorem agT_26 : agT Tryz.prog 26 = some false := by kernel_rfl
@[go_sem] theorem zeroT_26 : zeroT Tryz.prog 26 = some .nilsl := by kernel_rfl
@[go_sem] theorem elemT_26 : elemT Tryz.prog 26 = some 9 := by kernel_rfl
@[go_sem] theorem concT_26 : concT Tryz.prog 26 = true := by kernel_rfl
@[go_sem] theorem spreadT_26 : spreadT Tryz.prog 26 = true := by kernel_rfl
@[go_sem] theorem zokT_26 : zokT Tryz.prog 26 = true := by kernel_rfl
@[go_sem] theorem bytesT_26 : bytesT Tryz.prog 26 = 24 := by kernel_rfl
@[go_sem] theorem arrT_26 : arrT Tryz.prog 26 = none := by kernel_rfl
@[go_sem] theorem szT_27 : szT Tryz.prog 27 = 1 := by kernel_rfl
@[go_sem] theorem agT_27 : agT Tryz.prog 27 = some false := by kernel_rfl
@[go_sem] theorem zeroT_27 : zeroT Tryz.prog 27 = some .nilsl := by kernel_rfl
@[go_sem] theorem elemT_27 : elemT Tryz.prog 27 = some 29 := by kernel_rfl
@[go_sem] theorem concT_27 : concT Tryz.prog 27 = true := by kernel_rfl
@[go_sem] theorem spreadT_27 : spreadT Tryz.prog 27 = true := by kernel_rfl
@[go_sem] theorem zokT_27 : zokT Tryz.prog 27 = true := by kernel_rfl
@[go_sem] theorem bytesT_27 : bytesT Tryz.prog 27 = 24 := by kernel_rfl
@[go_sem] theorem arrT_27 : arrT Tryz.prog 27 = none := by kernel_rfl
@[go_sem] theorem szT_29 : szT Tryz.prog 29 = 4 := by kernel_rfl
@[go_sem] theorem agT_29 : agT Tryz.prog 29 = some true := by kernel_rfl
@[go_sem] theorem zeroT_29 : zeroT Tryz.prog 29 = some (.agg [(.int .i64 0), (.str []), (.str []), .nilsl]) := by kernel_rfl
@[go_sem] theorem elemT_29 : elemT Tryz.prog 29 = none := by kernel_rfl
@[go_sem] theorem concT_29 : concT Tryz.prog 29 = true := by kernel_rfl
@[go_sem] theorem spreadT_29 : spreadT Tryz.prog 29 = true := by kernel_rfl
@[go_sem] theorem zokT_29 : zokT Tryz.prog 29 = true := by kernel_rfl
@[go_sem] theorem bytesT_29 : bytesT Tryz.prog 29 = 64 := by kernel_rfl
@[go_sem] theorem arrT_29 : arrT Tryz.prog 29 = none := by kernel_rfl
@[go_sem] theorem placesT_29 : placesT Tryz.prog 29 = some [(0, 1), (1, 1), (2, 1), (3, 1)] := by kernel_rfl
@[go_sem] theorem fieldT_29_0 : fieldT Tryz.prog 29 0 = some (0, 3) := by kernel_rfl
@[go_sem] theorem fieldT_29_1 : fieldT Tryz.prog 29 1 = some (1, 9) := by kernel_rfl
@[go_sem] theorem fieldT_29_2 : fieldT Tryz.prog 29 2 = some (2, 9) := by kernel_rfl
@[go_sem] theorem fieldT_29_3 : fieldT Tryz.prog 29 3 = some (3, 27) := by kernel_rfl
@[go_sem] theorem szT_31 : szT Tryz.prog 31 = 12 := by kernel_rfl
@[go_sem] theorem agT_31 : agT Tryz.prog 31 = some true := by kernel_rfl
@[go_sem] theorem zeroT_31 : zeroT Tryz.prog 31 = some (.agg [(.int .i64 0), (.str []), (.str []), (.int .i64 0), (.int .i64 0), (.int .i64 0), (.bool false), (.int .i64 0), (.str []), (.str []), .nilsl, .nilsl]) := by kernel_rfl
@[go_sem] theorem elemT_31 : elemT Tryz.prog 31 = none := by kernel_rfl
@[go_sem] theorem concT_31 : concT Tryz.prog 31 = true := by kernel_rfl
@[go_sem] theorem spreadT_31 : spreadT Tryz.prog 31 = true := by kernel_rfl
@[go_sem] theorem zokT_31 : zokT Tryz.prog 31 = true := by kernel_rfl
@[go_sem] theorem bytesT_31 : bytesT Tryz.prog 31 = 160 := by kernel_rfl
@[go_sem] theorem arrT_31 : arrT Tryz.prog 31 = none := by kernel_rfl
@[go_sem] theorem placesT_31 : placesT Tryz.prog 31 = some [(0, 1), (1, 1), (2, 1), (3, 1), (4, 1), (5, 1), (6, 1), (7, 4), (11, 1)] := by kernel_rfl
@[go_sem] theorem fieldT_31_0 : fieldT Tryz.prog 31 0 = some (0, 3) := by kernel_rfl
@[go_sem] theorem fieldT_31_1 : fieldT Tryz.prog 31 1 = some (1, 9) := by kernel_rfl
@[go_sem] theorem fieldT_31_2 : fieldT Tryz.prog 31 2 = some (2, 9) := by kernel_rfl
@[go_sem] theorem fieldT_31_3 : fieldT Tryz.prog 31 3 = some (3, 3) := by kernel_rfl
@[go_sem] theorem fieldT_31_4 : fieldT Tryz.prog 31 4 = some (4, 3) := by kernel_rfl
@[go_sem] theorem fieldT_31_5 : fieldT Tryz.prog 31 5 = some (5, 3) := by kernel_rfl
@[go_sem] theorem fieldT_31_6 : fieldT Tryz.prog 31 6 = some (6, 4) := by kernel_rfl
@[go_sem] theorem fieldT_31_7 : fieldT Tryz.prog 31 7 = some (7, 29) := by kernel_rfl
@[go_sem] theorem fieldT_31_8 : fieldT Tryz.prog 31 8 = some (11, 26) := by kernel_rfl
@[go_sem] theorem szT_33 : szT Tryz.prog 33 = 1 := by kernel_rfl
@[go_sem] theorem agT_33 : agT Tryz.prog 33 = some false := by kernel_rfl
@[go_sem] theorem zeroT_33 : zeroT Tryz.prog 33 = some .nilsl := by kernel_rfl
@[go_sem] theorem elemT_33 : elemT Tryz.prog 33 = some 121 := by kernel_rfl
@[go_sem] theorem concT_33 : concT Tryz.prog 33 = true := by kernel_rfl
@[go_sem] theorem spreadT_33 : spreadT Tryz.prog 33 = true := by kernel_rfl
@[go_sem] theorem zokT_33 : zokT Tryz.prog 33 = true := by kernel_rfl
@[go_sem] theorem bytesT_33 : bytesT Tryz.prog 33 = 24 := by kernel_rfl
@[go_sem] theorem arrT_33 : arrT Tryz.prog 33 = none := by kernel_rfl
@[go_sem] theorem szT_35 : szT Tryz.prog 35 = 2 := by kernel_rfl
@[go_sem] theorem agT_35 : agT Tryz.prog 35 = some true := by kernel_rfl
@[go_sem] theorem zeroT_35 : zeroT Tryz.prog 35 = some (.agg [.nilsl, .nilsl]) := by kernel_rfl
@[go_sem] theorem elemT_35 : elemT Tryz.prog 35 = none := by kernel_rfl
@[go_sem] theorem concT_35 : concT Tryz.prog 35 = true := by kernel_rfl
@[go_sem] theorem spreadT_35 : spreadT Tryz.prog 35 = true := by kernel_rfl
@[go_sem] theorem zokT_35 : zokT Tryz.prog 35 = true := by kernel_rfl
@[go_sem] theorem bytesT_35 : bytesT Tryz.prog 35 = 48 := by kernel_rfl
@[go_sem] theorem arrT_35 : arrT Tryz.prog 35 = none := by kernel_rfl
@[go_sem] theorem placesT_35 : placesT Tryz.prog 35 = some [(0, 1), (1, 1)] := by kernel_rfl
@[go_sem] theorem fieldT_35_0 : fieldT Tryz.prog 35 0 = some (0, 33) := by kernel_rfl
@[go_sem] theorem fieldT_35_1 : fieldT Tryz.prog 35 1 = some (1, 26) := by kernel_rfl
@[go_sem] theorem szT_36 : szT Tryz.prog 36 = 1 := by kernel_rfl
@[go_sem] theorem agT_36 : agT Tryz.prog 36 = some false := by kernel_rfl
@[go_sem] theorem zeroT_36 : zeroT Tryz.prog 36 = some .nilsl := by kernel_rfl
@[go_sem] theorem elemT_36 : elemT Tryz.prog 36 = some 48 := by kernel_rfl
@[go_sem] theorem concT_36 : concT Tryz.prog 36 = true := by kernel_rfl
@[go_sem] theorem spreadT_36 : spreadT Tryz.prog 36 = true := by kernel_rfl
@[go_sem] theorem zokT_36 : zokT Tryz.prog 36 = true := by kernel_rfl
@[go_sem] theorem bytesT_36 : bytesT Tryz.prog 36 = 24 := by kernel_rfl
@[go_sem] theorem arrT_36 : arrT Tryz.prog 36 = none := by kernel_rfl
@[go_sem] theorem szT_37 : szT Tryz.prog 37 = 1 := by kernel_rfl
@[go_sem] theorem agT_37 : agT Tryz.prog 37 = some false := by kernel_rfl
@[go_sem] theorem zeroT_37 : zeroT Tryz.prog 37 = some (.int .i64 0) := by kernel_rfl
@[go_sem] theorem elemT_37 : elemT Tryz.prog 37 = none := by kernel_rfl
@[go_sem] theorem concT_37 : concT Tryz.prog 37 = true := by kernel_rfl
@[go_sem] theorem spreadT_37 : spreadT Tryz.prog 37 = false := by kernel_rfl
@[go_sem] theorem zokT_37 : zokT Tryz.prog 37 = true := by kernel_rfl
@[go_sem] theorem bytesT_37 : bytesT Tryz.prog 37 = 8 := by kernel_rfl
@[go_sem] theorem arrT_37 : arrT Tryz.prog 37 = none := by kernel_rfl
@[go_sem] theorem keyT_37 : keyT Tryz.prog 37 = some (false, [.i]) := by kernel_rfl
@[go_sem] theorem szT_40 : szT Tryz.prog 40 = 1 := by kernel_rfl
@[go_sem] theorem agT_40 : agT Tryz.prog 40 = some false := by kernel_rfl
@[go_sem] theorem zeroT_40 : zeroT Tryz.prog 40 = some .nilsl := by kernel_rfl
@[go_sem] theorem elemT_40 : elemT Tryz.prog 40 = some 92 := by kernel_rfl
@[go_sem] theorem concT_40 : concT Tryz.prog 40 = true := by kernel_rfl
@[go_sem] theorem spreadT_40 : spreadT Tryz.prog 40 = true := by kernel_rfl
@[go_sem] theorem zokT_40 : zokT Tryz.prog 40 = true := by kernel_rfl
@[go_sem] theorem bytesT_40 : bytesT Tryz.prog 40 = 24 := by kernel_rfl
@[go_sem] theorem arrT_40 : arrT Tryz.prog 40 = none := by kernel_rfl
@[go_sem] theorem szT_41 : szT Tryz.prog 41 = 1 := by kernel_rfl
@[go_sem] theorem agT_41 : agT Tryz.prog 41 = some false := by kernel_rfl
@[go_sem] theorem zeroT_41 : zeroT Tryz.prog 41 = some .nilsl := by kernel_rfl
@[go_sem] theorem elemT_41 : elemT Tryz.prog 41 = some 97 := by kernel_rfl
@[go_sem] theorem concT_41 : concT Tryz.prog 41 = true := by kernel_rfl
@[go_sem] theorem spreadT_41 : spreadT Tryz.prog 41 = true := by kernel_rfl
@[go_sem] theorem zokT_41 : zokT Tryz.prog 41 = true := by kernel_rfl
@[go_sem] theorem bytesT_41 : bytesT Tryz.prog 41 = 24 := by kernel_rfl
@[go_sem] theorem arrT_41 : arrT Tryz.prog 41 = none := by kernel_rfl
@[go_sem] theorem szT_42 : szT Tryz.prog 42 = 1 := by kernel_rfl
@[go_sem] theorem agT_42 : agT Tryz.prog 42 = some false := by kernel_rfl
@[go_sem] theorem zeroT_42 : zeroT Tryz.prog 42 = some .nilsl := by kernel_rfl
@[go_sem] theorem elemT_42 : elemT Tryz.prog 42 = some 101 := by kernel_rfl
@[go_sem] theorem concT_42 : concT Tryz.prog 42 = true := by kernel_rfl
@[go_sem] theorem spreadT_42 : spreadT Tryz.prog 42 = true := by kernel_rfl
@[go_sem] theorem zokT_42 : zokT Tryz.prog 42 = true := by kernel_rfl
@[go_sem] theorem bytesT_42 : bytesT Tryz.prog 42 = 24 := by kernel_rfl
@[go_sem] theorem arrT_42 : arrT Tryz.prog 42 = none := by kernel_rfl
@[go_sem] theorem szT_43 : szT Tryz.prog 43 = 1 := by kernel_rfl
@[go_sem] theorem agT_43 : agT Tryz.prog 43 = some false := by kernel_rfl
@[go_sem] theorem zeroT_43 : zeroT Tryz.prog 43 = some .nilsl := by kernel_rfl
@[go_sem] theorem elemT_43 : elemT Tryz.prog 43 = some 105 := by kernel_rfl
@[go_sem] theorem concT_43 : concT Tryz.prog 43 = true := by kernel_rfl
@[go_sem] theorem spreadT_43 : spreadT Tryz.prog 43 = true := by kernel_rfl
@[go_sem] theorem zokT_43 : zokT Tryz.prog 43 = true := by kernel_rfl
@[go_sem] theorem bytesT_43 : bytesT Tryz.prog 43 = 24 := by kernel_rfl
@[go_sem] theorem arrT_43 : arrT Tryz.prog 43 = none := by kernel_rfl
@[go_sem] theorem szT_45 : szT Tryz.prog 45 = 4 := by kernel_rfl
@[go_sem] theorem agT_45 : agT Tryz.prog 45 = some true := by kernel_rfl
@[go_sem] theorem zeroT_45 : zeroT Tryz.prog 45 = some (.agg [.nilsl, .nilsl, .nilsl, .nilsl]) := by kernel_rfl
@[go_sem] theorem elemT_45 : elemT Tryz.prog 45 = none := by kernel_rfl
@[go_sem] theorem concT_45 : concT Tryz.prog 45 = true := by kernel_rfl
@[go_sem] theorem spreadT_45 : spreadT Tryz.prog 45 = true := by kernel_rfl
@[go_sem] theorem zokT_45 : zokT Tryz.prog 45 = true := by kernel_rfl
@[go_sem] theorem bytesT_45 : bytesT Tryz.prog 45 = 96 := by kernel_rfl
@[go_sem] theorem arrT_45 : arrT Tryz.prog 45 = none := by kernel_rfl
@[go_sem] theorem placesT_45 : placesT Tryz.prog 45 = some [(0, 1), (1, 1), (2, 1), (3, 1)] := by kernel_rfl
@[go_sem] theorem fieldT_45_0 : fieldT Tryz.prog 45 0 = some (0, 40) := by kernel_rfl
@[go_sem] theorem fieldT_45_1 : fieldT Tryz.prog 45 1 = some (1, 41) := by kernel_rfl
@[go_sem] theorem fieldT_45_2 : fieldT Tryz.prog 45 2 = some (2, 42) := by kernel_rfl
@[go_sem] theorem fieldT_45_3 : fieldT Tryz.prog 45 3 = some (3, 43) := by kernel_rfl
@[go_sem] theorem szT_46 : szT Tryz.prog 46 = 1 := by kernel_rfl
@[go_sem] theorem agT_46 : agT Tryz.prog 46 = some false := by kernel_rfl
@[go_sem] theorem zeroT_46 : zeroT Tryz.prog 46 = some .nilsl := by kernel_rfl
@[go_sem] theorem elemT_46 : elemT Tryz.prog 46 = some 3 := by kernel_rfl
@[go_sem] theorem concT_46 : concT Tryz.prog 46 = true := by kernel_rfl
@[go_sem] theorem spreadT_46 : spreadT Tryz.prog 46 = true := by kernel_rfl
@[go_sem] theorem zokT_46 : zokT Tryz.prog 46 = true := by kernel_rfl
@[go_sem] theorem bytesT_46 : bytesT Tryz.prog 46 = 24 := by kernel_rfl
@[go_sem] theorem arrT_46 : arrT Tryz.prog 46 = none := by kernel_rfl
@[go_sem] theorem szT_48 : szT Tryz.prog 48 = 2 := by kernel_rfl
@[go_sem] theorem agT_48 : agT Tryz.prog 48 = some true := by kernel_rfl
@[go_sem] theorem zeroT_48 : zeroT Tryz.prog 48 = some (.agg [(.int .i64 0), .nilsl]) := by kernel_rfl
@[go_sem] theorem elemT_48 : elemT Tryz.prog 48 = none := by kernel_rfl
@[go_sem] theorem concT_48 : concT Tryz.prog 48 = true := by kernel_rfl
@[go_sem] theorem spreadT_48 : spreadT Tryz.prog 48 = true := by kernel_rfl
@[go_sem] theorem zokT_48 : zokT Tryz.prog 48 = true := by kernel_rfl
@[go_sem] theorem bytesT_48 : bytesT Tryz.prog 48 = 32 := by kernel_rfl
@[go_sem] theorem arrT_48 : arrT Tryz.prog 48 = none := by kernel_rfl
@[go_sem] theorem placesT_48 : placesT Tryz.prog 48 = some [(0, 1), (1, 1)] := by kernel_rfl
@[go_sem] theorem fieldT_48_0 : fieldT Tryz.prog 48 0 = some (0, 3) := by kernel_rfl
@[go_sem] theorem fieldT_48_1 : fieldT Tryz.prog 48 1 = some (1, 46) := by kernel_rfl
@[go_sem] theorem szT_65 : szT Tryz.prog 65 = 1 := by kernel_rfl
@[go_sem] theorem agT_65 : agT Tryz.prog 65 = some false := by kernel_rfl
@[go_sem] theorem zeroT_65 : zeroT Tryz.prog 65 = some .nilptr := by kernel_rfl
@[go_sem] theorem elemT_65 : elemT Tryz.prog 65 = none := by kernel_rfl
@[go_sem] theorem concT_65 : concT Tryz.prog 65 = true := by kernel_rfl
@[go_sem] theorem spreadT_65 : spreadT Tryz.prog 65 = true := by kernel_rfl
@[go_sem] theorem zokT_65 : zokT Tryz.prog 65 = true := by kernel_rfl
@[go_sem] theorem bytesT_65 : bytesT Tryz.prog 65 = 8 := by kernel_rfl
@[go_sem] theorem arrT_65 : arrT Tryz.prog 65 = none := by kernel_rfl
@[go_sem] theorem szT_71 : szT Tryz.prog 71 = 1 := by kernel_rfl
@[go_sem] theorem agT_71 : agT Tryz.prog 71 = some false := by kernel_rfl
@[go_sem] theorem zeroT_71 : zeroT Tryz.prog 71 = some .nilsl := by kernel_rfl
@[go_sem] theorem elemT_71 : elemT Tryz.prog 71 = some 234 := by kernel_rfl
@[go_sem] theorem concT_71 : concT Tryz.prog 71 = true := by kernel_rfl
@[go_sem] theorem spreadT_71 : spreadT Tryz.prog 71 = true := by kernel_rfl
@[go_sem] theorem zokT_71 : zokT Tryz.prog 71 = true := by kernel_rfl
@[go_sem] theorem bytesT_71 : bytesT Tryz.prog 71 = 24 := by kernel_rfl
@[go_sem] theorem arrT_71 : arrT Tryz.prog 71 = none := by kernel_rfl
@[go_sem] theorem szT_72 : szT Tryz.prog 72 = 1 := by kernel_rfl
@[go_sem] theorem agT_72 : agT Tryz.prog 72 = some false := by kernel_rfl
@[go_sem] theorem zeroT_72 : zeroT Tryz.prog 72 = some .nilsl := by kernel_rfl
@[go_sem] theorem elemT_72 : elemT Tryz.prog 72 = some 35 := by kernel_rfl
@[go_sem] theorem concT_72 : concT Tryz.prog 72 = true := by kernel_rfl
@[go_sem] theorem spreadT_72 : spreadT Tryz.prog 72 = true := by kernel_rfl
@[go_sem] theorem zokT_72 : zokT Tryz.prog 72 = true := by kernel_rfl
@[go_sem] theorem bytesT_72 : bytesT Tryz.prog 72 = 24 := by kernel_rfl
@[go_sem] theorem arrT_72 : arrT Tryz.prog 72 = none := by kernel_rfl
@[go_sem] theorem szT_74 : szT Tryz.prog 74 = 3 := by kernel_rfl
@[go_sem] theorem agT_74 : agT Tryz.prog 74 = some true := by kernel_rfl
@[go_sem] theorem zeroT_74 : zeroT Tryz.prog 74 = some (.agg [.nilsl, .nilsl, .nilsl]) := by kernel_rfl
@[go_sem] theorem elemT_74 : elemT Tryz.prog 74 = none := by kernel_rfl
@[go_sem] theorem concT_74 : concT Tryz.prog 74 = true := by kernel_rfl
@[go_sem] theorem spreadT_74 : spreadT Tryz.prog 74 = true := by kernel_rfl
@[go_sem] theorem zokT_74 : zokT Tryz.prog 74 = true := by kernel_rfl
@[go_sem] theorem bytesT_74 : bytesT Tryz.prog 74 = 72 := by kernel_rfl
@[go_sem] theorem arrT_74 : arrT Tryz.prog 74 = none := by kernel_rfl
@[go_sem] theorem placesT_74 : placesT Tryz.prog 74 = some [(0, 1), (1, 1), (2, 1)] := by kernel_rfl
@[go_sem] theorem fieldT_74_0 : fieldT Tryz.prog 74 0 = some (0, 46) := by kernel_rfl
@[go_sem] theorem fieldT_74_1 : fieldT Tryz.prog 74 1 = some (1, 71) := by kernel_rfl
@[go_sem] theorem fieldT_74_2 : fieldT Tryz.prog 74 2 = some (2, 72) := by kernel_rfl
@[go_sem] theorem szT_77 : szT Tryz.prog 77 = 1 := by kernel_rfl
@[go_sem] theorem agT_77 : agT Tryz.prog 77 = some false := by kernel_rfl
@[go_sem] theorem zeroT_77 : zeroT Tryz.prog 77 = some .nilsl := by kernel_rfl
@[go_sem] theorem elemT_77 : elemT Tryz.prog 77 = some 74 := by kernel_rfl
@[go_sem] theorem concT_77 : concT Tryz.prog 77 = true := by kernel_rfl
@[go_sem] theorem spreadT_77 : spreadT Tryz.prog 77 = true := by kernel_rfl
@[go_sem] theorem zokT_77 : zokT Tryz.prog 77 = true := by kernel_rfl
@[go_sem] theorem bytesT_77 : bytesT Tryz.prog 77 = 24 := by kernel_rfl
@[go_sem] theorem arrT_77 : arrT Tryz.prog 77 = none := by kernel_rfl
@[go_sem] theorem szT_83 : szT Tryz.prog 83 = 1 := by kernel_rfl
@[go_sem] theorem agT_83 : agT Tryz.prog 83 = some false := by kernel_rfl
@[go_sem] theorem zeroT_83 : zeroT Tryz.prog 83 = some .nilfn := by kernel_rfl
@[go_sem] theorem elemT_83 : elemT Tryz.prog 83 = none := by kernel_rfl
@[go_sem] theorem concT_83 : concT Tryz.prog 83 = true := by kernel_rfl
@[go_sem] theorem spreadT_83 : spreadT Tryz.prog 83 = true := by kernel_rfl
@[go_sem] theorem zokT_83 : zokT Tryz.prog 83 = true := by kernel_rfl
@[go_sem] theorem bytesT_83 : bytesT Tryz.prog 83 = 8 := by kernel_rfl
@[go_sem] theorem arrT_83 : arrT Tryz.prog 83 = none := by kernel_rfl
@[go_sem] theorem szT_85 : szT Tryz.prog 85 = 1 := by kernel_rfl
@[go_sem] theorem agT_85 : agT Tryz.prog 85 = some false := by kernel_rfl
@[go_sem] theorem zeroT_85 : zeroT Tryz.prog 85 = some .nilptr := by kernel_rfl
@[go_sem] theorem elemT_85 : elemT Tryz.prog 85 = none := by kernel_rfl
@[go_sem] theorem concT_85 : concT Tryz.prog 85 = true := by kernel_rfl
@[go_sem] theorem spreadT_85 : spreadT Tryz.prog 85 = true := by kernel_rfl
@[go_sem] theorem zokT_85 : zokT Tryz.prog 85 = true := by kernel_rfl
@[go_sem] theorem bytesT_85 : bytesT Tryz.prog 85 = 8 := by kernel_rfl
@[go_sem] theorem arrT_85 : arrT Tryz.prog 85 = none := by kernel_rfl
@[go_sem] theorem szT_88 : szT Tryz.prog 88 = 6 := by kernel_rfl
@[go_sem] theorem agT_88 : agT Tryz.prog 88 = some true := by kernel_rfl
@[go_sem] theorem zeroT_88 : zeroT Tryz.prog 88 = some (.agg [.nilsl, (.int .i64 0), .nilsl, .nilsl, .nilsl, .nilsl]) := by kernel_rfl
@[go_sem] theorem elemT_88 : elemT Tryz.prog 88 = none := by kernel_rfl
@[go_sem] theorem concT_88 : concT Tryz.prog 88 = true := by kernel_rfl
@[go_sem] theorem spreadT_88 : spreadT Tryz.prog 88 = true := by kernel_rfl
@[go_sem] theorem zokT_88 : zokT Tryz.prog 88 = true := by kernel_rfl
@[go_sem] theorem bytesT_88 : bytesT Tryz.prog 88 = 128 := by kernel_rfl
@[go_sem] theorem arrT_88 : arrT Tryz.prog 88 = none := by kernel_rfl
@[go_sem] theorem placesT_88 : placesT Tryz.prog 88 = some [(0, 1), (1, 1), (2, 4)] := by kernel_rfl
@[go_sem] theorem fieldT_88_0 : fieldT Tryz.prog 88 0 = some (0, 26) := by kernel_rfl
@[go_sem] theorem fieldT_88_1 : fieldT Tryz.prog 88 1 = some (1, 3) := by kernel_rfl
@[go_sem] theorem fieldT_88_2 : fieldT Tryz.prog 88 2 = some (2, 45) := by kernel_rfl
@[go_sem] theorem szT_92 : szT Tryz.prog 92 = 4 := by kernel_rfl
@[go_sem] theorem agT_92 : agT Tryz.prog 92 = some true := by kernel_rfl
@[go_sem] theorem zeroT_92 : zeroT Tryz.prog 92 = some (.agg [(.str []), (.str []), (.int .i64 0), (.str [])]) := by kernel_rfl
@[go_sem] theorem elemT_92 : elemT Tryz.prog 92 = none := by kernel_rfl
@[go_sem] theorem concT_92 : concT Tryz.prog 92 = true := by kernel_rfl
@[go_sem] theorem spreadT_92 : spreadT Tryz.prog 92 = true := by kernel_rfl
@[go_sem] theorem zokT_92 : zokT Tryz.prog 92 = true := by kernel_rfl
@[go_sem] theorem bytesT_92 : bytesT Tryz.prog 92 = 56 := by kernel_rfl
@[go_sem] theorem arrT_92 : arrT Tryz.prog 92 = none := by kernel_rfl
@[go_sem] theorem keyT_92 : keyT Tryz.prog 92 = some (true, [.s, .s, .i, .s]) := by kernel_rfl
end Go.V
namespace Go.V
open Go.Proofs
@[go_sem] theorem eqT_92 : eqT Tryz.prog 92 = some [.s, .s, .i, .s] := by kernel_rfl
@[go_sem] theorem placesT_92 : placesT Tryz.prog 92 = some [(0, 1), (1, 1), (2, 1), (3, 1)] := by kernel_rfl
@[go_sem] theorem fieldT_92_0 : fieldT Tryz.prog 92 0 = some (0, 9) := by kernel_rfl
@[go_sem] theorem fieldT_92_1 : fieldT Tryz.prog 92 1 = some (1, 9) := by kernel_rfl
@[go_sem] theorem fieldT_92_2 : fieldT Tryz.prog 92 2 = some (2, 3) := by kernel_rfl
@[go_sem] theorem fieldT_92_3 : fieldT Tryz.prog 92 3 = some (3, 9) := by kernel_rfl
@[go_sem] theorem szT_94 : szT Tryz.prog 94 = 1 := by kernel_rfl
@[go_sem] theorem agT_94 : agT Tryz.prog 94 = some false := by kernel_rfl
@[go_sem] theorem zeroT_94 : zeroT Tryz.prog 94 = some .nilfn := by kernel_rfl
@[go_sem] theorem elemT_94 : elemT Tryz.prog 94 = none := by kernel_rfl
@[go_sem] theorem concT_94 : concT Tryz.prog 94 = true := by kernel_rfl
@[go_sem] theorem spreadT_94 : spreadT Tryz.prog 94 = true := by kernel_rfl
@[go_sem] theorem zokT_94 : zokT Tryz.prog 94 = true := by kernel_rfl
@[go_sem] theorem bytesT_94 : bytesT Tryz.prog 94 = 8 := by kernel_rfl
@[go_sem] theorem arrT_94 : arrT Tryz.prog 94 = none := by kernel_rfl
@[go_sem] theorem szT_97 : szT Tryz.prog 97 = 3 := by kernel_rfl
@[go_sem] theorem agT_97 : agT Tryz.prog 97 = some true := by kernel_rfl
@[go_sem] theorem zeroT_97 : zeroT Tryz.prog 97 = some (.agg [(.str []), (.str []), .nilsl]) := by kernel_rfl
@[go_sem] theorem elemT_97 : elemT Tryz.prog 97 = none := by kernel_rfl
@[go_sem] theorem concT_97 : concT Tryz.prog 97 = true := by kernel_rfl
@[go_sem] theorem spreadT_97 : spreadT Tryz.prog 97 = true := by kernel_rfl
@[go_sem] theorem zokT_97 : zokT Tryz.prog 97 = true := by kernel_rfl
@[go_sem] theorem bytesT_97 : bytesT Tryz.prog 97 = 56 := by kernel_rfl
@[go_sem] theorem arrT_97 : arrT Tryz.prog 97 = none := by kernel_rfl
@[go_sem] theorem placesT_97 : placesT Tryz.prog 97 = some [(0, 1), (1, 1), (2, 1)] := by kernel_rfl
@[go_sem] theorem fieldT_97_0 : fieldT Tryz.prog 97 0 = some (0, 9) := by kernel_rfl
@[go_sem] theorem fieldT_97_1 : fieldT Tryz.prog 97 1 = some (1, 9) := by kernel_rfl
@[go_sem] theorem fieldT_97_2 : fieldT Tryz.prog 97 2 = some (2, 46) := by kernel_rfl
@[go_sem] theorem szT_98 : szT Tryz.prog 98 = 1 := by kernel_rfl
@[go_sem] theorem agT_98 : agT Tryz.prog 98 = some false := by kernel_rfl
@[go_sem] theorem zeroT_98 : zeroT Tryz.prog 98 = some .nilfn := by kernel_rfl
@[go_sem] theorem elemT_98 : elemT Tryz.prog 98 = none := by kernel_rfl
@[go_sem] theorem concT_98 : concT Tryz.prog 98 = true := by kernel_rfl
@[go_sem] theorem spreadT_98 : spreadT Tryz.prog 98 = true := by kernel_rfl
@[go_sem] theorem zokT_98 : zokT Tryz.prog 98 = true := by kernel_rfl
@[go_sem] theorem bytesT_98 : bytesT Tryz.prog 98 = 8 := by kernel_rfl
@[go_sem] theorem arrT_98 : arrT Tryz.prog 98 = none := by kernel_rfl
@[go_sem] theorem szT_101 : szT Tryz.prog 101 = 5 := by kernel_rfl
@[go_sem] theorem agT_101 : agT Tryz.prog 101 = some true := by kernel_rfl
@[go_sem] theorem zeroT_101 : zeroT Tryz.prog 101 = some (.agg [(.str []), (.int .i64 0), (.int .i64 0), (.int .i64 0), .nilsl]) := by kernel_rfl
@[go_sem] theorem elemT_101 : elemT Tryz.prog 101 = none := by kernel_rfl
@[go_sem] theorem concT_101 : concT Tryz.prog 101 = true := by kernel_rfl
@[go_sem] theorem spreadT_101 : spreadT Tryz.prog 101 = true := by kernel_rfl
@[go_sem] theorem zokT_101 : zokT Tryz.prog 101 = true := by kernel_rfl
@[go_sem] theorem bytesT_101 : bytesT Tryz.prog 101 = 64 := by kernel_rfl
@[go_sem] theorem arrT_101 : arrT Tryz.prog 101 = none := by kernel_rfl
@[go_sem] theorem placesT_101 : placesT Tryz.prog 101 = some [(0, 1), (1, 1), (2, 1), (3, 1), (4, 1)] := by kernel_rfl
@[go_sem] theorem fieldT_101_0 : fieldT Tryz.prog 101 0 = some (0, 9) := by kernel_rfl
@[go_sem] theorem fieldT_101_1 : fieldT Tryz.prog 101 1 = some (1, 3) := by kernel_rfl
@[go_sem] theorem fieldT_101_2 : fieldT Tryz.prog 101 2 = some (2, 3) := by kernel_rfl
@[go_sem] theorem fieldT_101_3 : fieldT Tryz.prog 101 3 = some (3, 3) := by kernel_rfl
@[go_sem] theorem fieldT_101_4 : fieldT Tryz.prog 101 4 = some (4, 26) := by kernel_rfl
@[go_sem] theorem szT_102 : szT Tryz.prog 102 = 1 := by kernel_rfl
@[go_sem] theorem agT_102 : agT Tryz.prog 102 = some false := by kernel_rfl
@[go_sem] theorem zeroT_102 : zeroT Tryz.prog 102 = some .nilfn := by kernel_rfl
@[go_sem] theorem elemT_102 : elemT Tryz.prog 102 = none := by kernel_rfl
@[go_sem] theorem concT_102 : concT Tryz.prog 102 = true := by kernel_rfl
@[go_sem] theorem spreadT_102 : spreadT Tryz.prog 102 = true := by kernel_rfl
@[go_sem] theorem zokT_102 : zokT Tryz.prog 102 = true := by kernel_rfl
@[go_sem] theorem bytesT_102 : bytesT Tryz.prog 102 = 8 := by kernel_rfl
@[go_sem] theorem arrT_102 : arrT Tryz.prog 102 = none := by kernel_rfl
@[go_sem] theorem szT_105 : szT Tryz.prog 105 = 2 := by kernel_rfl
@[go_sem] theorem agT_105 : agT Tryz.prog 105 = some true := by kernel_rfl
@[go_sem] theorem zeroT_105 : zeroT Tryz.prog 105 = some (.agg [(.str []), (.str [])]) := by kernel_rfl
@[go_sem] theorem elemT_105 : elemT Tryz.prog 105 = none := by kernel_rfl
@[go_sem] theorem concT_105 : concT Tryz.prog 105 = true := by kernel_rfl
@[go_sem] theorem spreadT_105 : spreadT Tryz.prog 105 = true := by kernel_rfl
@[go_sem] theorem zokT_105 : zokT Tryz.prog 105 = true := by kernel_rfl
@[go_sem] theorem bytesT_105 : bytesT Tryz.prog 105 = 32 := by kernel_rfl
@[go_sem] theorem arrT_105 : arrT Tryz.prog 105 = none := by kernel_rfl
@[go_sem] theorem keyT_105 : keyT Tryz.prog 105 = some (true, [.s, .s]) := by kernel_rfl
@[go_sem] theorem eqT_105 : eqT Tryz.prog 105 = some [.s, .s] := by kernel_rfl
@[go_sem] theorem placesT_105 : placesT Tryz.prog 105 = some [(0, 1), (1, 1)] := by kernel_rfl
@[go_sem] theorem fieldT_105_0 : fieldT Tryz.prog 105 0 = some (0, 9) := by kernel_rfl
@[go_sem] theorem fieldT_105_1 : fieldT Tryz.prog 105 1 = some (1, 9) := by kernel_rfl
@[go_sem] theorem szT_106 : szT Tryz.prog 106 = 1 := by kernel_rfl
@[go_sem] theorem agT_106 : agT Tryz.prog 106 = some false := by kernel_rfl
@[go_sem] theorem zeroT_106 : zeroT Tryz.prog 106 = some .nilfn := by kernel_rfl
@[go_sem] theorem elemT_106 : elemT Tryz.prog 106 = none := by kernel_rfl
@[go_sem] theorem concT_106 : concT Tryz.prog 106 = true := by kernel_rfl
@[go_sem] theorem spreadT_106 : spreadT Tryz.prog 106 = true := by kernel_rfl
@[go_sem] theorem zokT_106 : zokT Tryz.prog 106 = true := by kernel_rfl
@[go_sem] theorem bytesT_106 : bytesT Tryz.prog 106 = 8 := by kernel_rfl
@[go_sem] theorem arrT_106 : arrT Tryz.prog 106 = none := by kernel_rfl
@[go_sem] theorem szT_108 : szT Tryz.prog 108 = 1 := by kernel_rfl
@[go_sem] theorem agT_108 : agT Tryz.prog 108 = some false := by kernel_rfl
@[go_sem] theorem zeroT_108 : zeroT Tryz.prog 108 = some .nilsl := by kernel_rfl
@[go_sem] theorem elemT_108 : elemT Tryz.prog 108 = some 33 := by kernel_rfl
@[go_sem] theorem concT_108 : concT Tryz.prog 108 = true := by kernel_rfl
@[go_sem] theorem spreadT_108 : spreadT Tryz.prog 108 = true := by kernel_rfl
@[go_sem] theorem zokT_108 : zokT Tryz.prog 108 = true := by kernel_rfl
@[go_sem] theorem bytesT_108 : bytesT Tryz.prog 108 = 24 := by kernel_rfl
@[go_sem] theorem arrT_108 : arrT Tryz.prog 108 = none := by kernel_rfl
@[go_sem] theorem szT_110 : szT Tryz.prog 110 = 6 := by kernel_rfl
@[go_sem] theorem agT_110 : agT Tryz.prog 110 = some true := by kernel_rfl
@[go_sem] theorem zeroT_110 : zeroT Tryz.prog 110 = some (.agg [.nilsl, .nilsl, .nilsl, .nilsl, .nilsl, .nilsl]) := by kernel_rfl
@[go_sem] theorem elemT_110 : elemT Tryz.prog 110 = none := by kernel_rfl
@[go_sem] theorem concT_110 : concT Tryz.prog 110 = true := by kernel_rfl
@[go_sem] theorem spreadT_110 : spreadT Tryz.prog 110 = true := by kernel_rfl
@[go_sem] theorem zokT_110 : zokT Tryz.prog 110 = true := by kernel_rfl
@[go_sem] theorem bytesT_110 : bytesT Tryz.prog 110 = 144 := by kernel_rfl
@[go_sem] theorem arrT_110 : arrT Tryz.prog 110 = none := by kernel_rfl
@[go_sem] theorem placesT_110 : placesT Tryz.prog 110 = some [(0, 1), (1, 1), (2, 4)] := by kernel_rfl
@[go_sem] theorem fieldT_110_0 : fieldT Tryz.prog 110 0 = some (0, 108) := by kernel_rfl
@[go_sem] theorem fieldT_110_1 : fieldT Tryz.prog 110 1 = some (1, 26) := by kernel_rfl
@[go_sem] theorem fieldT_110_2 : fieldT Tryz.prog 110 2 = some (2, 45) := by kernel_rfl
@[go_sem] theorem szT_116 : szT Tryz.prog 116 = 1 := by kernel_rfl
@[go_sem] theorem agT_116 : agT Tryz.prog 116 = some false := by kernel_rfl
@[go_sem] theorem zeroT_116 : zeroT Tryz.prog 116 = some .nilfn := by kernel_rfl
@[go_sem] theorem elemT_116 : elemT Tryz.prog 116 = none := by kernel_rfl
@[go_sem] theorem concT_116 : concT Tryz.prog 116 = true := by kernel_rfl
@[go_sem] theorem spreadT_116 : spreadT Tryz.prog 116 = true := by kernel_rfl
@[go_sem] theorem zokT_116 : zokT Tryz.prog 116 = true := by kernel_rfl
@[go_sem] theorem bytesT_116 : bytesT Tryz.prog 116 = 8 := by kernel_rfl
@[go_sem] theorem arrT_116 : arrT Tryz.prog 116 = none := by kernel_rfl
@[go_sem] theorem szT_117 : szT Tryz.prog 117 = 1 := by kernel_rfl
@[go_sem] theorem agT_117 : agT Tryz.prog 117 = some false := by kernel_rfl
@[go_sem] theorem zeroT_117 : zeroT Tryz.prog 117 = some .nilfn := by kernel_rfl
@[go_sem] theorem elemT_117 : elemT Tryz.prog 117 = none := by kernel_rfl
@[go_sem] theorem concT_117 : concT Tryz.prog 117 = true := by kernel_rfl
@[go_sem] theorem spreadT_117 : spreadT Tryz.prog 117 = true := by kernel_rfl
@[go_sem] theorem zokT_117 : zokT Tryz.prog 117 = true := by kernel_rfl
@[go_sem] theorem bytesT_117 : bytesT Tryz.prog 117 = 8 := by kernel_rfl
@[go_sem] theorem arrT_117 : arrT Tryz.prog 117 = none := by kernel_rfl
@[go_sem] theorem szT_121 : szT Tryz.prog 121 = 1 := by kernel_rfl
@[go_sem] theorem agT_121 : agT Tryz.prog 121 = some false := by kernel_rfl
@[go_sem] theorem zeroT_121 : zeroT Tryz.prog 121 = some .nilsl := by kernel_rfl
@[go_sem] theorem elemT_121 : elemT Tryz.prog 121 = some 125 := by kernel_rfl
@[go_sem] theorem concT_121 : concT Tryz.prog 121 = true := by kernel_rfl
@[go_sem] theorem spreadT_121 : spreadT Tryz.prog 121 = true := by kernel_rfl
@[go_sem] theorem zokT_121 : zokT Tryz.prog 121 = true := by kernel_rfl
@[go_sem] theorem bytesT_121 : bytesT Tryz.prog 121 = 24 := by kernel_rfl
@[go_sem] theorem arrT_121 : arrT Tryz.prog 121 = none := by kernel_rfl
@[go_sem] theorem szT_125 : szT Tryz.prog 125 = 2 := by kernel_rfl
@[go_sem] theorem agT_125 : agT Tryz.prog 125 = some true := by kernel_rfl
@[go_sem] theorem zeroT_125 : zeroT Tryz.prog 125 = some (.agg [(.str []), (.str [])]) := by kernel_rfl
@[go_sem] theorem elemT_125 : elemT Tryz.prog 125 = none := by kernel_rfl
@[go_sem] theorem concT_125 : concT Tryz.prog 125 = true := by kernel_rfl
@[go_sem] theorem spreadT_125 : spreadT Tryz.prog 125 = true := by kernel_rfl
@[go_sem] theorem zokT_125 : zokT Tryz.prog 125 = true := by kernel_rfl
@[go_sem] theorem bytesT_125 : bytesT Tryz.prog 125 = 32 := by kernel_rfl
@[go_sem] theorem arrT_125 : arrT Tryz.prog 125 = none := by kernel_rfl
@[go_sem] theorem keyT_125 : keyT Tryz.prog 125 = some (true, [.s, .s]) := by kernel_rfl
@[go_sem] theorem eqT_125 : eqT Tryz.prog 125 = some [.s, .s] := by kernel_rfl
@[go_sem] theorem placesT_125 : placesT Tryz.prog 125 = some [(0, 1), (1, 1)] := by kernel_rfl
@[go_sem] theorem fieldT_125_0 : fieldT Tryz.prog 125 0 = some (0, 9) := by kernel_rfl
@[go_sem] theorem fieldT_125_1 : fieldT Tryz.prog 125 1 = some (1, 9) := by kernel_rfl
@[go_sem] theorem szT_126 : szT Tryz.prog 126 = 1 := by kernel_rfl
@[go_sem] theorem agT_126 : agT Tryz.prog 126 = some false := by kernel_rfl
@[go_sem] theorem zeroT_126 : zeroT Tryz.prog 126 = some .nilfn := by kernel_rfl
@[go_sem] theorem elemT_126 : elemT Tryz.prog 126 = none := by kernel_rfl
@[go_sem] theorem concT_126 : concT Tryz.prog 126 = true := by kernel_rfl
@[go_sem] theorem spreadT_126 : spreadT Tryz.prog 126 = true := by kernel_rfl
@[go_sem] theorem zokT_126 : zokT Tryz.prog 126 = true := by kernel_rfl
@[go_sem] theorem bytesT_126 : bytesT Tryz.prog 126 = 8 := by kernel_rfl
@[go_sem] theorem arrT_126 : arrT Tryz.prog 126 = none := by kernel_rfl
@[go_sem] theorem szT_128 : szT Tryz.prog 128 = 1 := by kernel_rfl
@[go_sem] theorem agT_128 : agT Tryz.prog 128 = some false := by kernel_rfl
@[go_sem] theorem zeroT_128 : zeroT Tryz.prog 128 = some .nilfn := by kernel_rfl
@[go_sem] theorem elemT_128 : elemT Tryz.prog 128 = none := by kernel_rfl
@[go_sem] theorem concT_128 : concT Tryz.prog 128 = true := by kernel_rfl
@[go_sem] theorem spreadT_128 : spreadT Tryz.prog 128 = true := by kernel_rfl
@[go_sem] theorem zokT_128 : zokT Tryz.prog 128 = true := by kernel_rfl
@[go_sem] theorem bytesT_128 : bytesT Tryz.prog 128 = 8 := by kernel_rfl
@[go_sem] theorem arrT_128 : arrT Tryz.prog 128 = none := by kernel_rfl
@[go_sem] theorem szT_129 : szT Tryz.prog 129 = 1 := by kernel_rfl
@[go_sem] theorem agT_129 : agT Tryz.prog 129 = some false := by kernel_rfl
@[go_sem] theorem zeroT_129 : zeroT Tryz.prog 129 = some .nilmap := by kernel_rfl
@[go_sem] theorem elemT_129 : elemT Tryz.prog 129 = none := by kernel_rfl
@[go_sem] theorem concT_129 : concT Tryz.prog 129 = true := by kernel_rfl
@[go_sem] theorem spreadT_129 : spreadT Tryz.prog 129 = true := by kernel_rfl
@[go_sem] theorem zokT_129 : zokT Tryz.prog 129 = true := by kernel_rfl
@[go_sem] theorem bytesT_129 : bytesT Tryz.prog 129 = 8 := by kernel_rfl
@[go_sem] theorem arrT_129 : arrT Tryz.prog 129 = none := by kernel_rfl
@[go_sem] theorem mapT_129 : mapT Tryz.prog 129 = some (3, 121) := by kernel_rfl
@[go_sem] theorem szT_130 : szT Tryz.prog 130 = 1 := by kernel_rfl
@[go_sem] theorem agT_130 : agT Tryz.prog 130 = some false := by kernel_rfl
@[go_sem] theorem zeroT_130 : zeroT Tryz.prog 130 = some .nilmap := by kernel_rfl
@[go_sem] theorem elemT_130 : elemT Tryz.prog 130 = none := by kernel_rfl
@[go_sem] theorem concT_130 : concT Tryz.prog 130 = true := by kernel_rfl
@[go_sem] theorem spreadT_130 : spreadT Tryz.prog 130 = true := by kernel_rfl
@[go_sem] theorem zokT_130 : zokT Tryz.prog 130 = true := by kernel_rfl
@[go_sem] theorem bytesT_130 : bytesT Tryz.prog 130 = 8 := by kernel_rfl
@[go_sem] theorem arrT_130 : arrT Tryz.prog 130 = none := by kernel_rfl
@[go_sem] theorem mapT_130 : mapT Tryz.prog 130 = some (9, 9) := by kernel_rfl
@[go_sem] theorem szT_132 : szT Tryz.prog 132 = 7 := by kernel_rfl
@[go_sem] theorem agT_132 : agT Tryz.prog 132 = some true := by kernel_rfl
@[go_sem] theorem zeroT_132 : zeroT Tryz.prog 132 = some (.agg [.nilsl, .nilsl, .nilsl, .nilsl, .nilsl, .nilmap, .nilmap]) := by kernel_rfl
@[go_sem] theorem elemT_132 : elemT Tryz.prog 132 = none := by kernel_rfl
@[go_sem] theorem concT_132 : concT Tryz.prog 132 = true := by kernel_rfl
@[go_sem] theorem spreadT_132 : spreadT Tryz.prog 132 = true := by kernel_rfl
@[go_sem] theorem zokT_132 : zokT Tryz.prog 132 = true := by kernel_rfl
@[go_sem] theorem bytesT_132 : bytesT Tryz.prog 132 = 136 := by kernel_rfl
@[go_sem] theorem arrT_132 : arrT Tryz.prog 132 = none := by kernel_rfl
@[go_sem] theorem placesT_132 : placesT Tryz.prog 132 = some [(0, 4), (4, 1), (5, 1), (6, 1)] := by kernel_rfl
@[go_sem] theorem fieldT_132_0 : fieldT Tryz.prog 132 0 = some (0, 45) := by kernel_rfl
@[go_sem] theorem fieldT_132_1 : fieldT Tryz.prog 132 1 = some (4, 25) := by kernel_rfl
@[go_sem] theorem fieldT_132_2 : fieldT Tryz.prog 132 2 = some (5, 129) := by kernel_rfl
@[go_sem] theorem fieldT_132_3 : fieldT Tryz.prog 132 3 = some (6, 130) := by kernel_rfl
@[go_sem] theorem szT_134 : szT Tryz.prog 134 = 1 := by kernel_rfl
@[go_sem] theorem agT_134 : agT Tryz.prog 134 = some false := by kernel_rfl
@[go_sem] theorem zeroT_134 : zeroT Tryz.prog 134 = some .nilfn := by kernel_rfl
@[go_sem] theorem elemT_134 : elemT Tryz.prog 134 = none := by kernel_rfl
@[go_sem] theorem concT_134 : concT Tryz.prog 134 = true := by kernel_rfl
@[go_sem] theorem spreadT_134 : spreadT Tryz.prog 134 = true := by kernel_rfl
@[go_sem] theorem zokT_134 : zokT Tryz.prog 134 = true := by kernel_rfl
@[go_sem] theorem bytesT_134 : bytesT Tryz.prog 134 = 8 := by kernel_rfl
@[go_sem] theorem arrT_134 : arrT Tryz.prog 134 = none := by kernel_rfl
@[go_sem] theorem szT_141 : szT Tryz.prog 141 = 1 := by kernel_rfl
@[go_sem] theorem agT_141 : agT Tryz.prog 141 = some false := by kernel_rfl
@[go_sem] theorem zeroT_141 : zeroT Tryz.prog 141 = some .nilmap := by kernel_rfl
@[go_sem] theorem elemT_141 : elemT Tryz.prog 141 = none := by kernel_rfl
@[go_sem] theorem concT_141 : concT Tryz.prog 141 = true := by kernel_rfl
@[go_sem] theorem spreadT_141 : spreadT Tryz.prog 141 = true := by kernel_rfl
@[go_sem] theorem zokT_141 : zokT Tryz.prog 141 = true := by kernel_rfl
@[go_sem] theorem bytesT_141 : bytesT Tryz.prog 141 = 8 := by kernel_rfl
@[go_sem] theorem arrT_141 : arrT Tryz.prog 141 = none := by kernel_rfl
@[go_sem] theorem mapT_141 : mapT Tryz.prog 141 = some (3, 4) := by kernel_rfl
@[go_sem] theorem szT_145 : szT Tryz.prog 145 = 4 := by kernel_rfl
@[go_sem] theorem agT_145 : agT Tryz.prog 145 = some true := by kernel_rfl
@[go_sem] theorem zeroT_145 : zeroT Tryz.prog 145 = some (.agg [(.bool false), .nilsl, .nilsl, .nilsl]) := by kernel_rfl
@[go_sem] theorem elemT_145 : elemT Tryz.prog 145 = none := by kernel_rfl
@[go_sem] theorem concT_145 : concT Tryz.prog 145 = true := by kernel_rfl
@[go_sem] theorem spreadT_145 : spreadT Tryz.prog 145 = true := by kernel_rfl
@[go_sem] theorem zokT_145 : zokT Tryz.prog 145 = true := by kernel_rfl
@[go_sem] theorem bytesT_145 : bytesT Tryz.prog 145 = 80 := by kernel_rfl
@[go_sem] theorem arrT_145 : arrT Tryz.prog 145 = none := by kernel_rfl
@[go_sem] theorem placesT_145 : placesT Tryz.prog 145 = some [(0, 1), (1, 2), (3, 1)] := by kernel_rfl
@[go_sem] theorem fieldT_145_0 : fieldT Tryz.prog 145 0 = some (0, 4) := by kernel_rfl
@[go_sem] theorem fieldT_145_1 : fieldT Tryz.prog 145 1 = some (1, 35) := by kernel_rfl
@[go_sem] theorem fieldT_145_2 : fieldT Tryz.prog 145 2 = some (3, 71) := by kernel_rfl
@[go_sem] theorem szT_149 : szT Tryz.prog 149 = 1 := by kernel_rfl
@[go_sem] theorem agT_149 : agT Tryz.prog 149 = some false := by kernel_rfl
@[go_sem] theorem zeroT_149 : zeroT Tryz.prog 149 = some .nilfn := by kernel_rfl
@[go_sem] theorem elemT_149 : elemT Tryz.prog 149 = none := by kernel_rfl
@[go_sem] theorem concT_149 : concT Tryz.prog 149 = true := by kernel_rfl
@[go_sem] theorem spreadT_149 : spreadT Tryz.prog 149 = true := by kernel_rfl
@[go_sem] theorem zokT_149 : zokT Tryz.prog 149 = true := by kernel_rfl
@[go_sem] theorem bytesT_149 : bytesT Tryz.prog 149 = 8 := by kernel_rfl
@[go_sem] theorem arrT_149 : arrT Tryz.prog 149 = none := by kernel_rfl
@[go_sem] theorem szT_153 : szT Tryz.prog 153 = 1 := by kernel_rfl
@[go_sem] theorem agT_153 : agT Tryz.prog 153 = some false := by kernel_rfl
@[go_sem] theorem zeroT_153 : zeroT Tryz.prog 153 = some .nilfn := by kernel_rfl
@[go_sem] theorem elemT_153 : elemT Tryz.prog 153 = none := by kernel_rfl
@[go_sem] theorem concT_153 : concT Tryz.prog 153 = true := by kernel_rfl
@[go_sem] theorem spreadT_153 : spreadT Tryz.prog 153 = true := by kernel_rfl
@[go_sem] theorem zokT_153 : zokT Tryz.prog 153 = true := by kernel_rfl
@[go_sem] theorem bytesT_153 : bytesT Tryz.prog 153 = 8 := by kernel_rfl
@[go_sem] theorem arrT_153 : arrT Tryz.prog 153 = none := by kernel_rfl
@[go_sem] theorem szT_154 : szT Tryz.prog 154 = 1 := by kernel_rfl
@[go_sem] theorem agT_154 : agT Tryz.prog 154 = some false := by kernel_rfl
@[go_sem] theorem zeroT_154 : zeroT Tryz.prog 154 = some .nilfn := by kernel_rfl
@[go_sem] theorem elemT_154 : elemT Tryz.prog 154 = none := by kernel_rfl
@[go_sem] theorem concT_154 : concT Tryz.prog 154 = true := by kernel_rfl
@[go_sem] theorem spreadT_154 : spreadT Tryz.prog 154 = true := by kernel_rfl
@[go_sem] theorem zokT_154 : zokT Tryz.prog 154 = true := by kernel_rfl
@[go_sem] theorem bytesT_154 : bytesT Tryz.prog 154 = 8 := by kernel_rfl
@[go_sem] theorem arrT_154 : arrT Tryz.prog 154 = none := by kernel_rfl
@[go_sem] theorem szT_155 : szT Tryz.prog 155 = 1 := by kernel_rfl
@[go_sem] theorem agT_155 : agT Tryz.prog 155 = some false := by kernel_rfl
@[go_sem] theorem zeroT_155 : zeroT Tryz.prog 155 = some .nilmap := by kernel_rfl
@[go_sem] theorem elemT_155 : elemT Tryz.prog 155 = none := by kernel_rfl
@[go_sem] theorem concT_155 : concT Tryz.prog 155 = true := by kernel_rfl
@[go_sem] theorem spreadT_155 : spreadT Tryz.prog 155 = true := by kernel_rfl
@[go_sem] theorem zokT_155 : zokT Tryz.prog 155 = true := by kernel_rfl
@[go_sem] theorem bytesT_155 : bytesT Tryz.prog 155 = 8 := by kernel_rfl
@[go_sem] theorem arrT_155 : arrT Tryz.prog 155 = none := by kernel_rfl
@[go_sem] theorem mapT_155 : mapT Tryz.prog 155 = some (9, 154) := by kernel_rfl
@[go_sem] theorem szT_163 : szT Tryz.prog 163 = 1 := by kernel_rfl
@[go_sem] theorem agT_163 : agT Tryz.prog 163 = some false := by kernel_rfl
@[go_sem] theorem zeroT_163 : zeroT Tryz.prog 163 = some .nilmap := by kernel_rfl
@[go_sem] theorem elemT_163 : elemT Tryz.prog 163 = none := by kernel_rfl
@[go_sem] theorem concT_163 : concT Tryz.prog 163 = true := by kernel_rfl
@[go_sem] theorem spreadT_163 : spreadT Tryz.prog 163 = true := by kernel_rfl
@[go_sem] theorem zokT_163 : zokT Tryz.prog 163 = true := by kernel_rfl
@[go_sem] theorem bytesT_163 : bytesT Tryz.prog 163 = 8 := by kernel_rfl
@[go_sem] theorem arrT_163 : arrT Tryz.prog 163 = none := by kernel_rfl
@[go_sem] theorem mapT_163 : mapT Tryz.prog 163 = some (9, 3) := by kernel_rfl
@[go_sem] theorem szT_172 : szT Tryz.prog 172 = 1 := by kernel_rfl
@[go_sem] theorem agT_172 : agT Tryz.prog 172 = some false := by kernel_rfl
@[go_sem] theorem zeroT_172 : zeroT Tryz.prog 172 = some .nilfn := by kernel_rfl
@[go_sem] theorem elemT_172 : elemT Tryz.prog 172 = none := by kernel_rfl
@[go_sem] theorem concT_172 : concT Tryz.prog 172 = true := by kernel_rfl
@[go_sem] theorem spreadT_172 : spreadT Tryz.prog 172 = true := by kernel_rfl
@[go_sem] theorem zokT_172 : zokT Tryz.prog 172 = true := by kernel_rfl
@[go_sem] theorem bytesT_172 : bytesT Tryz.prog 172 = 8 := by kernel_rfl
@[go_sem] theorem arrT_172 : arrT Tryz.prog 172 = none := by kernel_rfl
@[go_sem] theorem szT_177 : szT Tryz.prog 177 = 1 := by kernel_rfl
@[go_sem] theorem agT_177 : agT Tryz.prog 177 = some false := by kernel_rfl
@[go_sem] theorem zeroT_177 : zeroT Tryz.prog 177 = some .nilfn := by kernel_rfl
@[go_sem] theorem elemT_177 : elemT Tryz.prog 177 = none := by kernel_rfl
@[go_sem] theorem concT_177 : concT Tryz.prog 177 = true := by kernel_rfl
@[go_sem] theorem spreadT_177 : spreadT Tryz.prog 177 = true := by kernel_rfl
@[go_sem] theorem zokT_177 : zokT Tryz.prog 177 = true := by kernel_rfl
@[go_sem] theorem bytesT_177 : bytesT Tryz.prog 177 = 8 := by kernel_rfl
@[go_sem] theorem arrT_177 : arrT Tryz.prog 177 = none := by kernel_rfl
@[go_sem] theorem szT_178 : szT Tryz.prog 178 = 1 := by kernel_rfl
@[go_sem] theorem agT_178 : agT Tryz.prog 178 = some false := by kernel_rfl
@[go_sem] theorem zeroT_178 : zeroT Tryz.prog 178 = some .nilsl := by kernel_rfl
@[go_sem] theorem elemT_178 : elemT Tryz.prog 178 = some 182 := by kernel_rfl
@[go_sem] theorem concT_178 : concT Tryz.prog 178 = true := by kernel_rfl
@[go_sem] theorem spreadT_178 : spreadT Tryz.prog 178 = true := by kernel_rfl
@[go_sem] theorem zokT_178 : zokT Tryz.prog 178 = true := by kernel_rfl
@[go_sem] theorem bytesT_178 : bytesT Tryz.prog 178 = 24 := by kernel_rfl
@[go_sem] theorem arrT_178 : arrT Tryz.prog 178 = none := by kernel_rfl
@[go_sem] theorem szT_180 : szT Tryz.prog 180 = 1 := by kernel_rfl
@[go_sem] theorem agT_180 : agT Tryz.prog 180 = some false := by kernel_rfl
@[go_sem] theorem zeroT_180 : zeroT Tryz.prog 180 = some .nilfn := by kernel_rfl
@[go_sem] theorem elemT_180 : elemT Tryz.prog 180 = none := by kernel_rfl
@[go_sem] theorem concT_180 : concT Tryz.prog 180 = true := by kernel_rfl
@[go_sem] theorem spreadT_180 : spreadT Tryz.prog 180 = true := by kernel_rfl
@[go_sem] theorem zokT_180 : zokT Tryz.prog 180 = true := by kernel_rfl
@[go_sem] theorem bytesT_180 : bytesT Tryz.prog 180 = 8 := by kernel_rfl
@[go_sem] theorem arrT_180 : arrT Tryz.prog 180 = none := by kernel_rfl
@[go_sem] theorem szT_182 : szT Tryz.prog 182 = 2 := by kernel_rfl
@[go_sem] theorem agT_182 : agT Tryz.prog 182 = some true := by kernel_rfl
@[go_sem] theorem zeroT_182 : zeroT Tryz.prog 182 = some (.agg [(.int .i64 0), .nilfn]) := by kernel_rfl
@[go_sem] theorem elemT_182 : elemT Tryz.prog 182 = none := by kernel_rfl
@[go_sem] theorem concT_182 : concT Tryz.prog 182 = true := by kernel_rfl
@[go_sem] theorem spreadT_182 : spreadT Tryz.prog 182 = true := by kernel_rfl
end Go.V
namespace Go.V
open Go.Proofs
@[go_sem] theorem zokT_182 : zokT Tryz.prog 182 = true := by kernel_rfl
@[go_sem] theorem bytesT_182 : bytesT Tryz.prog 182 = 16 := by kernel_rfl
@[go_sem] theorem arrT_182 : arrT Tryz.prog 182 = none := by kernel_rfl
@[go_sem] theorem placesT_182 : placesT Tryz.prog 182 = some [(0, 1), (1, 1)] := by kernel_rfl
@[go_sem] theorem fieldT_182_0 : fieldT Tryz.prog 182 0 = some (0, 3) := by kernel_rfl
@[go_sem] theorem fieldT_182_1 : fieldT Tryz.prog 182 1 = some (1, 180) := by kernel_rfl
@[go_sem] theorem szT_185 : szT Tryz.prog 185 = 1 := by kernel_rfl
@[go_sem] theorem agT_185 : agT Tryz.prog 185 = some false := by kernel_rfl
@[go_sem] theorem zeroT_185 : zeroT Tryz.prog 185 = some .nilfn := by kernel_rfl
@[go_sem] theorem elemT_185 : elemT Tryz.prog 185 = none := by kernel_rfl
@[go_sem] theorem concT_185 : concT Tryz.prog 185 = true := by kernel_rfl
@[go_sem] theorem spreadT_185 : spreadT Tryz.prog 185 = true := by kernel_rfl
@[go_sem] theorem zokT_185 : zokT Tryz.prog 185 = true := by kernel_rfl
@[go_sem] theorem bytesT_185 : bytesT Tryz.prog 185 = 8 := by kernel_rfl
@[go_sem] theorem arrT_185 : arrT Tryz.prog 185 = none := by kernel_rfl
@[go_sem] theorem szT_190 : szT Tryz.prog 190 = 1 := by kernel_rfl
@[go_sem] theorem agT_190 : agT Tryz.prog 190 = some false := by kernel_rfl
@[go_sem] theorem zeroT_190 : zeroT Tryz.prog 190 = some .nilptr := by kernel_rfl
@[go_sem] theorem elemT_190 : elemT Tryz.prog 190 = none := by kernel_rfl
@[go_sem] theorem concT_190 : concT Tryz.prog 190 = true := by kernel_rfl
@[go_sem] theorem spreadT_190 : spreadT Tryz.prog 190 = true := by kernel_rfl
@[go_sem] theorem zokT_190 : zokT Tryz.prog 190 = true := by kernel_rfl
@[go_sem] theorem bytesT_190 : bytesT Tryz.prog 190 = 8 := by kernel_rfl
@[go_sem] theorem arrT_190 : arrT Tryz.prog 190 = none := by kernel_rfl
@[go_sem] theorem szT_195 : szT Tryz.prog 195 = 1 := by kernel_rfl
@[go_sem] theorem agT_195 : agT Tryz.prog 195 = some false := by kernel_rfl
@[go_sem] theorem zeroT_195 : zeroT Tryz.prog 195 = some .nilfn := by kernel_rfl
@[go_sem] theorem elemT_195 : elemT Tryz.prog 195 = none := by kernel_rfl
@[go_sem] theorem concT_195 : concT Tryz.prog 195 = true := by kernel_rfl
@[go_sem] theorem spreadT_195 : spreadT Tryz.prog 195 = true := by kernel_rfl
@[go_sem] theorem zokT_195 : zokT Tryz.prog 195 = true := by kernel_rfl
@[go_sem] theorem bytesT_195 : bytesT Tryz.prog 195 = 8 := by kernel_rfl
@[go_sem] theorem arrT_195 : arrT Tryz.prog 195 = none := by kernel_rfl
@[go_sem] theorem szT_221 : szT Tryz.prog 221 = 1 := by kernel_rfl
@[go_sem] theorem agT_221 : agT Tryz.prog 221 = some false := by kernel_rfl
@[go_sem] theorem zeroT_221 : zeroT Tryz.prog 221 = some (.int .u64 0) := by kernel_rfl
@[go_sem] theorem elemT_221 : elemT Tryz.prog 221 = none := by kernel_rfl
@[go_sem] theorem concT_221 : concT Tryz.prog 221 = true := by kernel_rfl
@[go_sem] theorem spreadT_221 : spreadT Tryz.prog 221 = false := by kernel_rfl
@[go_sem] theorem zokT_221 : zokT Tryz.prog 221 = true := by kernel_rfl
@[go_sem] theorem bytesT_221 : bytesT Tryz.prog 221 = 8 := by kernel_rfl
@[go_sem] theorem arrT_221 : arrT Tryz.prog 221 = none := by kernel_rfl
@[go_sem] theorem keyT_221 : keyT Tryz.prog 221 = some (false, [.i]) := by kernel_rfl
@[go_sem] theorem szT_224 : szT Tryz.prog 224 = 1 := by kernel_rfl
@[go_sem] theorem agT_224 : agT Tryz.prog 224 = some false := by kernel_rfl
@[go_sem] theorem zeroT_224 : zeroT Tryz.prog 224 = some .nilfn := by kernel_rfl
@[go_sem] theorem elemT_224 : elemT Tryz.prog 224 = none := by kernel_rfl
@[go_sem] theorem concT_224 : concT Tryz.prog 224 = true := by kernel_rfl
@[go_sem] theorem spreadT_224 : spreadT Tryz.prog 224 = true := by kernel_rfl
@[go_sem] theorem zokT_224 : zokT Tryz.prog 224 = true := by kernel_rfl
@[go_sem] theorem bytesT_224 : bytesT Tryz.prog 224 = 8 := by kernel_rfl
@[go_sem] theorem arrT_224 : arrT Tryz.prog 224 = none := by kernel_rfl
@[go_sem] theorem szT_226 : szT Tryz.prog 226 = 1 := by kernel_rfl
@[go_sem] theorem agT_226 : agT Tryz.prog 226 = some false := by kernel_rfl
@[go_sem] theorem zeroT_226 : zeroT Tryz.prog 226 = some .nilptr := by kernel_rfl
@[go_sem] theorem elemT_226 : elemT Tryz.prog 226 = none := by kernel_rfl
@[go_sem] theorem concT_226 : concT Tryz.prog 226 = true := by kernel_rfl
@[go_sem] theorem spreadT_226 : spreadT Tryz.prog 226 = true := by kernel_rfl
@[go_sem] theorem zokT_226 : zokT Tryz.prog 226 = true := by kernel_rfl
@[go_sem] theorem bytesT_226 : bytesT Tryz.prog 226 = 8 := by kernel_rfl
@[go_sem] theorem arrT_226 : arrT Tryz.prog 226 = none := by kernel_rfl
@[go_sem] theorem szT_228 : szT Tryz.prog 228 = 7 := by kernel_rfl
@[go_sem] theorem agT_228 : agT Tryz.prog 228 = some true := by kernel_rfl
@[go_sem] theorem zeroT_228 : zeroT Tryz.prog 228 = some (.agg [.nilsl, .nilsl, .nilsl, .nilsl, .nilsl, .nilsl, .nilsl]) := by kernel_rfl
@[go_sem] theorem elemT_228 : elemT Tryz.prog 228 = none := by kernel_rfl
@[go_sem] theorem concT_228 : concT Tryz.prog 228 = true := by kernel_rfl
@[go_sem] theorem spreadT_228 : spreadT Tryz.prog 228 = true := by kernel_rfl
@[go_sem] theorem zokT_228 : zokT Tryz.prog 228 = true := by kernel_rfl
@[go_sem] theorem bytesT_228 : bytesT Tryz.prog 228 = 168 := by kernel_rfl
@[go_sem] theorem arrT_228 : arrT Tryz.prog 228 = none := by kernel_rfl
@[go_sem] theorem placesT_228 : placesT Tryz.prog 228 = some [(0, 4), (4, 1), (5, 1), (6, 1)] := by kernel_rfl
@[go_sem] theorem fieldT_228_0 : fieldT Tryz.prog 228 0 = some (0, 45) := by kernel_rfl
@[go_sem] theorem fieldT_228_1 : fieldT Tryz.prog 228 1 = some (4, 25) := by kernel_rfl
@[go_sem] theorem fieldT_228_2 : fieldT Tryz.prog 228 2 = some (5, 108) := by kernel_rfl
@[go_sem] theorem fieldT_228_3 : fieldT Tryz.prog 228 3 = some (6, 26) := by kernel_rfl
@[go_sem] theorem szT_231 : szT Tryz.prog 231 = 1 := by kernel_rfl
@[go_sem] theorem agT_231 : agT Tryz.prog 231 = some false := by kernel_rfl
@[go_sem] theorem zeroT_231 : zeroT Tryz.prog 231 = some .nilfn := by kernel_rfl
@[go_sem] theorem elemT_231 : elemT Tryz.prog 231 = none := by kernel_rfl
@[go_sem] theorem concT_231 : concT Tryz.prog 231 = true := by kernel_rfl
@[go_sem] theorem spreadT_231 : spreadT Tryz.prog 231 = true := by kernel_rfl
@[go_sem] theorem zokT_231 : zokT Tryz.prog 231 = true := by kernel_rfl
@[go_sem] theorem bytesT_231 : bytesT Tryz.prog 231 = 8 := by kernel_rfl
@[go_sem] theorem arrT_231 : arrT Tryz.prog 231 = none := by kernel_rfl
@[go_sem] theorem szT_234 : szT Tryz.prog 234 = 4 := by kernel_rfl
@[go_sem] theorem agT_234 : agT Tryz.prog 234 = some true := by kernel_rfl
@[go_sem] theorem zeroT_234 : zeroT Tryz.prog 234 = some (.agg [(.int .i64 0), .nilsl, (.int .i64 0), .nilsl]) := by kernel_rfl
@[go_sem] theorem elemT_234 : elemT Tryz.prog 234 = none := by kernel_rfl
@[go_sem] theorem concT_234 : concT Tryz.prog 234 = true := by kernel_rfl
@[go_sem] theorem spreadT_234 : spreadT Tryz.prog 234 = true := by kernel_rfl
@[go_sem] theorem zokT_234 : zokT Tryz.prog 234 = true := by kernel_rfl
@[go_sem] theorem bytesT_234 : bytesT Tryz.prog 234 = 64 := by kernel_rfl
@[go_sem] theorem arrT_234 : arrT Tryz.prog 234 = none := by kernel_rfl
@[go_sem] theorem placesT_234 : placesT Tryz.prog 234 = some [(0, 1), (1, 1), (2, 2)] := by kernel_rfl
@[go_sem] theorem fieldT_234_0 : fieldT Tryz.prog 234 0 = some (0, 3) := by kernel_rfl
@[go_sem] theorem fieldT_234_1 : fieldT Tryz.prog 234 1 = some (1, 46) := by kernel_rfl
@[go_sem] theorem fieldT_234_2 : fieldT Tryz.prog 234 2 = some (2, 48) := by kernel_rfl
@[go_sem] theorem szT_242 : szT Tryz.prog 242 = 1 := by kernel_rfl
@[go_sem] theorem agT_242 : agT Tryz.prog 242 = some false := by kernel_rfl
@[go_sem] theorem zeroT_242 : zeroT Tryz.prog 242 = some .niliface := by kernel_rfl
@[go_sem] theorem elemT_242 : elemT Tryz.prog 242 = none := by kernel_rfl
@[go_sem] theorem concT_242 : concT Tryz.prog 242 = false := by kernel_rfl
@[go_sem] theorem spreadT_242 : spreadT Tryz.prog 242 = true := by kernel_rfl
@[go_sem] theorem zokT_242 : zokT Tryz.prog 242 = true := by kernel_rfl
@[go_sem] theorem bytesT_242 : bytesT Tryz.prog 242 = 16 := by kernel_rfl
@[go_sem] theorem arrT_242 : arrT Tryz.prog 242 = none := by kernel_rfl
@[go_sem] theorem szT_247 : szT Tryz.prog 247 = 2 := by kernel_rfl
@[go_sem] theorem agT_247 : agT Tryz.prog 247 = some true := by kernel_rfl
@[go_sem] theorem zeroT_247 : zeroT Tryz.prog 247 = some (.agg [.nilptr, .nilsl]) := by kernel_rfl
@[go_sem] theorem elemT_247 : elemT Tryz.prog 247 = none := by kernel_rfl
@[go_sem] theorem concT_247 : concT Tryz.prog 247 = true := by kernel_rfl
@[go_sem] theorem spreadT_247 : spreadT Tryz.prog 247 = true := by kernel_rfl
@[go_sem] theorem zokT_247 : zokT Tryz.prog 247 = true := by kernel_rfl
@[go_sem] theorem bytesT_247 : bytesT Tryz.prog 247 = 32 := by kernel_rfl
@[go_sem] theorem arrT_247 : arrT Tryz.prog 247 = none := by kernel_rfl
@[go_sem] theorem placesT_247 : placesT Tryz.prog 247 = some [(0, 1), (1, 1)] := by kernel_rfl
@[go_sem] theorem fieldT_247_0 : fieldT Tryz.prog 247 0 = some (0, 245) := by kernel_rfl
@[go_sem] theorem fieldT_247_1 : fieldT Tryz.prog 247 1 = some (1, 22) := by kernel_rfl
@[go_sem] theorem szT_250 : szT Tryz.prog 250 = 6 := by kernel_rfl
@[go_sem] theorem agT_250 : agT Tryz.prog 250 = some true := by kernel_rfl
@[go_sem] theorem zeroT_250 : zeroT Tryz.prog 250 = some (.agg [(.str []), (.str []), (.str []), (.str []), (.str []), (.str [])]) := by kernel_rfl
@[go_sem] theorem elemT_250 : elemT Tryz.prog 250 = none := by kernel_rfl
@[go_sem] theorem concT_250 : concT Tryz.prog 250 = true := by kernel_rfl
@[go_sem] theorem spreadT_250 : spreadT Tryz.prog 250 = true := by kernel_rfl
@[go_sem] theorem zokT_250 : zokT Tryz.prog 250 = true := by kernel_rfl
@[go_sem] theorem bytesT_250 : bytesT Tryz.prog 250 = 96 := by kernel_rfl
@[go_sem] theorem arrT_250 : arrT Tryz.prog 250 = some (6, 9) := by kernel_rfl
@[go_sem] theorem placesT_250 : placesT Tryz.prog 250 = none := by kernel_rfl
@[go_sem] theorem szT_251 : szT Tryz.prog 251 = 3 := by kernel_rfl
@[go_sem] theorem agT_251 : agT Tryz.prog 251 = some true := by kernel_rfl
@[go_sem] theorem zeroT_251 : zeroT Tryz.prog 251 = some (.agg [(.str []), (.str []), (.str [])]) := by kernel_rfl
@[go_sem] theorem elemT_251 : elemT Tryz.prog 251 = none := by kernel_rfl
@[go_sem] theorem concT_251 : concT Tryz.prog 251 = true := by kernel_rfl
@[go_sem] theorem spreadT_251 : spreadT Tryz.prog 251 = true := by kernel_rfl
@[go_sem] theorem zokT_251 : zokT Tryz.prog 251 = true := by kernel_rfl
@[go_sem] theorem bytesT_251 : bytesT Tryz.prog 251 = 48 := by kernel_rfl
@[go_sem] theorem arrT_251 : arrT Tryz.prog 251 = some (3, 9) := by kernel_rfl
@[go_sem] theorem placesT_251 : placesT Tryz.prog 251 = none := by kernel_rfl
@[go_sem] theorem szT_253 : szT Tryz.prog 253 = 8 := by kernel_rfl
@[go_sem] theorem agT_253 : agT Tryz.prog 253 = some true := by kernel_rfl
@[go_sem] theorem zeroT_253 : zeroT Tryz.prog 253 = some (.agg [(.bool false), (.bool false), (.bool false), (.bool false), (.bool false), (.bool false), (.bool false), (.bool false)]) := by kernel_rfl
@[go_sem] theorem elemT_253 : elemT Tryz.prog 253 = none := by kernel_rfl
@[go_sem] theorem concT_253 : concT Tryz.prog 253 = true := by kernel_rfl
@[go_sem] theorem spreadT_253 : spreadT Tryz.prog 253 = true := by kernel_rfl
@[go_sem] theorem zokT_253 : zokT Tryz.prog 253 = true := by kernel_rfl
@[go_sem] theorem bytesT_253 : bytesT Tryz.prog 253 = 8 := by kernel_rfl
@[go_sem] theorem arrT_253 : arrT Tryz.prog 253 = none := by kernel_rfl
@[go_sem] theorem keyT_253 : keyT Tryz.prog 253 = some (true, [.b, .b, .b, .b, .b, .b, .b, .b]) := by kernel_rfl
@[go_sem] theorem eqT_253 : eqT Tryz.prog 253 = some [.b, .b, .b, .b, .b, .b, .b, .b] := by kernel_rfl
@[go_sem] theorem placesT_253 : placesT Tryz.prog 253 = some [(0, 1), (1, 1), (2, 1), (3, 1), (4, 1), (5, 1), (6, 1), (7, 1)] := by kernel_rfl
@[go_sem] theorem fieldT_253_0 : fieldT Tryz.prog 253 0 = some (0, 4) := by kernel_rfl
@[go_sem] theorem fieldT_253_1 : fieldT Tryz.prog 253 1 = some (1, 4) := by kernel_rfl
@[go_sem] theorem fieldT_253_2 : fieldT Tryz.prog 253 2 = some (2, 4) := by kernel_rfl
@[go_sem] theorem fieldT_253_3 : fieldT Tryz.prog 253 3 = some (3, 4) := by kernel_rfl
@[go_sem] theorem fieldT_253_4 : fieldT Tryz.prog 253 4 = some (4, 4) := by kernel_rfl
@[go_sem] theorem fieldT_253_5 : fieldT Tryz.prog 253 5 = some (5, 4) := by kernel_rfl
@[go_sem] theorem fieldT_253_6 : fieldT Tryz.prog 253 6 = some (6, 4) := by kernel_rfl
@[go_sem] theorem fieldT_253_7 : fieldT Tryz.prog 253 7 = some (7, 4) := by kernel_rfl
@[go_sem] theorem szT_261 : szT Tryz.prog 261 = 1 := by kernel_rfl
@[go_sem] theorem agT_261 : agT Tryz.prog 261 = some false := by kernel_rfl
@[go_sem] theorem zeroT_261 : zeroT Tryz.prog 261 = some .nilfn := by kernel_rfl
@[go_sem] theorem elemT_261 : elemT Tryz.prog 261 = none := by kernel_rfl
@[go_sem] theorem concT_261 : concT Tryz.prog 261 = true := by kernel_rfl
@[go_sem] theorem spreadT_261 : spreadT Tryz.prog 261 = true := by kernel_rfl
@[go_sem] theorem zokT_261 : zokT Tryz.prog 261 = true := by kernel_rfl
@[go_sem] theorem bytesT_261 : bytesT Tryz.prog 261 = 8 := by kernel_rfl
@[go_sem] theorem arrT_261 : arrT Tryz.prog 261 = none := by kernel_rfl
@[go_sem] theorem szT_270 : szT Tryz.prog 270 = 1 := by kernel_rfl
@[go_sem] theorem agT_270 : agT Tryz.prog 270 = some false := by kernel_rfl
@[go_sem] theorem zeroT_270 : zeroT Tryz.prog 270 = some .nilfn := by kernel_rfl
@[go_sem] theorem elemT_270 : elemT Tryz.prog 270 = none := by kernel_rfl
@[go_sem] theorem concT_270 : concT Tryz.prog 270 = true := by kernel_rfl
@[go_sem] theorem spreadT_270 : spreadT Tryz.prog 270 = true := by kernel_rfl
@[go_sem] theorem zokT_270 : zokT Tryz.prog 270 = true := by kernel_rfl
@[go_sem] theorem bytesT_270 : bytesT Tryz.prog 270 = 8 := by kernel_rfl
@[go_sem] theorem arrT_270 : arrT Tryz.prog 270 = none := by kernel_rfl
@[go_sem] theorem szT_273 : szT Tryz.prog 273 = 1 := by kernel_rfl
@[go_sem] theorem agT_273 : agT Tryz.prog 273 = some false := by kernel_rfl
@[go_sem] theorem zeroT_273 : zeroT Tryz.prog 273 = some .nilfn := by kernel_rfl
@[go_sem] theorem elemT_273 : elemT Tryz.prog 273 = none := by kernel_rfl
@[go_sem] theorem concT_273 : concT Tryz.prog 273 = true := by kernel_rfl
@[go_sem] theorem spreadT_273 : spreadT Tryz.prog 273 = true := by kernel_rfl
@[go_sem] theorem zokT_273 : zokT Tryz.prog 273 = true := by kernel_rfl
@[go_sem] theorem bytesT_273 : bytesT Tryz.prog 273 = 8 := by kernel_rfl
@[go_sem] theorem arrT_273 : arrT Tryz.prog 273 = none := by kernel_rfl
@[go_sem] theorem szT_276 : szT Tryz.prog 276 = 3 := by kernel_rfl
@[go_sem] theorem agT_276 : agT Tryz.prog 276 = some true := by kernel_rfl
@[go_sem] theorem zeroT_276 : zeroT Tryz.prog 276 = some (.agg [(.int .i64 0), (.int .i64 0), (.int .i64 0)]) := by kernel_rfl
@[go_sem] theorem elemT_276 : elemT Tryz.prog 276 = none := by kernel_rfl
@[go_sem] theorem concT_276 : concT Tryz.prog 276 = true := by kernel_rfl
@[go_sem] theorem spreadT_276 : spreadT Tryz.prog 276 = true := by kernel_rfl
@[go_sem] theorem zokT_276 : zokT Tryz.prog 276 = true := by kernel_rfl
@[go_sem] theorem bytesT_276 : bytesT Tryz.prog 276 = 24 := by kernel_rfl
@[go_sem] theorem arrT_276 : arrT Tryz.prog 276 = none := by kernel_rfl
@[go_sem] theorem keyT_276 : keyT Tryz.prog 276 = some (true, [.i, .i, .i]) := by kernel_rfl
@[go_sem] theorem eqT_276 : eqT Tryz.prog 276 = some [.i, .i, .i] := by kernel_rfl
@[go_sem] theorem placesT_276 : placesT Tryz.prog 276 = some [(0, 1), (1, 1), (2, 1)] := by kernel_rfl
@[go_sem] theorem fieldT_276_0 : fieldT Tryz.prog 276 0 = some (0, 3) := by kernel_rfl
@[go_sem] theorem fieldT_276_1 : fieldT Tryz.prog 276 1 = some (1, 3) := by kernel_rfl
@[go_sem] theorem fieldT_276_2 : fieldT Tryz.prog 276 2 = some (2, 3) := by kernel_rfl
@[go_sem] theorem szT_278 : szT Tryz.prog 278 = 1 := by kernel_rfl
@[go_sem] theorem agT_278 : agT Tryz.prog 278 = some false := by kernel_rfl
@[go_sem] theorem zeroT_278 : zeroT Tryz.prog 278 = some .nilfn := by kernel_rfl
@[go_sem] theorem elemT_278 : elemT Tryz.prog 278 = none := by kernel_rfl
@[go_sem] theorem concT_278 : concT Tryz.prog 278 = true := by kernel_rfl
@[go_sem] theorem spreadT_278 : spreadT Tryz.prog 278 = true := by kernel_rfl
@[go_sem] theorem zokT_278 : zokT Tryz.prog 278 = true := by kernel_rfl
@[go_sem] theorem bytesT_278 : bytesT Tryz.prog 278 = 8 := by kernel_rfl
@[go_sem] theorem arrT_278 : arrT Tryz.prog 278 = none := by kernel_rfl
@[go_sem] theorem szT_281 : szT Tryz.prog 281 = 1 := by kernel_rfl
@[go_sem] theorem agT_281 : agT Tryz.prog 281 = some false := by kernel_rfl
@[go_sem] theorem zeroT_281 : zeroT Tryz.prog 281 = some .nilfn := by kernel_rfl
@[go_sem] theorem elemT_281 : elemT Tryz.prog 281 = none := by kernel_rfl
@[go_sem] theorem concT_281 : concT Tryz.prog 281 = true := by kernel_rfl
@[go_sem] theorem spreadT_281 : spreadT Tryz.prog 281 = true := by kernel_rfl
@[go_sem] theorem zokT_281 : zokT Tryz.prog 281 = true := by kernel_rfl
@[go_sem] theorem bytesT_281 : bytesT Tryz.prog 281 = 8 := by kernel_rfl
@[go_sem] theorem arrT_281 : arrT Tryz.prog 281 = none := by kernel_rfl
@[go_sem] theorem szT_292 : szT Tryz.prog 292 = 1 := by kernel_rfl
@[go_sem] theorem agT_292 : agT Tryz.prog 292 = some false := by kernel_rfl
@[go_sem] theorem zeroT_292 : zeroT Tryz.prog 292 = some (.int .u32 0) := by kernel_rfl
@[go_sem] theorem elemT_292 : elemT Tryz.prog 292 = none := by kernel_rfl
@[go_sem] theorem concT_292 : concT Tryz.prog 292 = true := by kernel_rfl
@[go_sem] theorem spreadT_292 : spreadT Tryz.prog 292 = false := by kernel_rfl
@[go_sem] theorem zokT_292 : zokT Tryz.prog 292 = true := by kernel_rfl
@[go_sem] theorem bytesT_292 : bytesT Tryz.prog 292 = 4 := by kernel_rfl
@[go_sem] theorem arrT_292 : arrT Tryz.prog 292 = none := by kernel_rfl
@[go_sem] theorem keyT_292 : keyT Tryz.prog 292 = some (false, [.i]) := by kernel_rfl
@[go_sem] theorem szT_294 : szT Tryz.prog 294 = 1 := by kernel_rfl
@[go_sem] theorem agT_294 : agT Tryz.prog 294 = some false := by kernel_rfl
@[go_sem] theorem zeroT_294 : zeroT Tryz.prog 294 = some (.int .u64 0) := by kernel_rfl
@[go_sem] theorem elemT_294 : elemT Tryz.prog 294 = none := by kernel_rfl
@[go_sem] theorem concT_294 : concT Tryz.prog 294 = true := by kernel_rfl
@[go_sem] theorem spreadT_294 : spreadT Tryz.prog 294 = false := by kernel_rfl
@[go_sem] theorem zokT_294 : zokT Tryz.prog 294 = true := by kernel_rfl
@[go_sem] theorem bytesT_294 : bytesT Tryz.prog 294 = 8 := by kernel_rfl
@[go_sem] theorem arrT_294 : arrT Tryz.prog 294 = none := by kernel_rfl
@[go_sem] theorem keyT_294 : keyT Tryz.prog 294 = some (false, [.i]) := by kernel_rfl
@[go_sem] theorem szT_300 : szT Tryz.prog 300 = 1 := by kernel_rfl
@[go_sem] theorem agT_300 : agT Tryz.prog 300 = some false := by kernel_rfl
@[go_sem] theorem zeroT_300 : zeroT Tryz.prog 300 = some .nilfn := by kernel_rfl
@[go_sem] theorem elemT_300 : elemT Tryz.prog 300 = none := by kernel_rfl
@[go_sem] theorem concT_300 : concT Tryz.prog 300 = true := by kernel_rfl
@[go_sem] theorem spreadT_300 : spreadT Tryz.prog 300 = true := by kernel_rfl
@[go_sem] theorem zokT_300 : zokT Tryz.prog 300 = true := by kernel_rfl
@[go_sem] theorem bytesT_300 : bytesT Tryz.prog 300 = 8 := by kernel_rfl
@[go_sem] theorem arrT_300 : arrT Tryz.prog 300 = none := by kernel_rfl
@[go_sem] theorem szT_305 : szT Tryz.prog 305 = 1 := by kernel_rfl
@[go_sem] theorem agT_305 : agT Tryz.prog 305 = some false := by kernel_rfl
@[go_sem] theorem zeroT_305 : zeroT Tryz.prog 305 = some .nilfn := by kernel_rfl
@[go_sem] theorem elemT_305 : elemT Tryz.prog 305 = none := by kernel_rfl
@[go_sem] theorem concT_305 : concT Tryz.prog 305 = true := by kernel_rfl
@[go_sem] theorem spreadT_305 : spreadT Tryz.prog 305 = true := by kernel_rfl
@[go_sem] theorem zokT_305 : zokT Tryz.prog 305 = true := by kernel_rfl
@[go_sem] theorem bytesT_305 : bytesT Tryz.prog 305 = 8 := by kernel_rfl
@[go_sem] theorem arrT_305 : arrT Tryz.prog 305 = none := by kernel_rfl
@[go_sem] theorem szT_306 : szT Tryz.prog 306 = 1 := by kernel_rfl
@[go_sem] theorem agT_306 : agT Tryz.prog 306 = some false := by kernel_rfl
@[go_sem] theorem zeroT_306 : zeroT Tryz.prog 306 = some .nilfn := by kernel_rfl
@[go_sem] theorem elemT_306 : elemT Tryz.prog 306 = none := by kernel_rfl
@[go_sem] theorem concT_306 : concT Tryz.prog 306 = true := by kernel_rfl
@[go_sem] theorem spreadT_306 : spreadT Tryz.prog 306 = true := by kernel_rfl
@[go_sem] theorem zokT_306 : zokT Tryz.prog 306 = true := by kernel_rfl
@[go_sem] theorem bytesT_306 : bytesT Tryz.prog 306 = 8 := by kernel_rfl
@[go_sem] theorem arrT_306 : arrT Tryz.prog 306 = none := by kernel_rfl
@[go_sem] theorem szT_317 : szT Tryz.prog 317 = 1 := by kernel_rfl
@[go_sem] theorem agT_317 : agT Tryz.prog 317 = some false := by kernel_rfl
@[go_sem] theorem zeroT_317 : zeroT Tryz.prog 317 = some .nilfn := by kernel_rfl
@[go_sem] theorem elemT_317 : elemT Tryz.prog 317 = none := by kernel_rfl
@[go_sem] theorem concT_317 : concT Tryz.prog 317 = true := by kernel_rfl
@[go_sem] theorem spreadT_317 : spreadT Tryz.prog 317 = true := by kernel_rfl
@[go_sem] theorem zokT_317 : zokT Tryz.prog 317 = true := by kernel_rfl
@[go_sem] theorem bytesT_317 : bytesT Tryz.prog 317 = 8 := by kernel_rfl
@[go_sem] theorem arrT_317 : arrT Tryz.prog 317 = none := by kernel_rfl
@[go_sem] theorem szT_320 : szT Tryz.prog 320 = 1 := by kernel_rfl
@[go_sem] theorem agT_320 : agT Tryz.prog 320 = some false := by kernel_rfl
@[go_sem] theorem zeroT_320 : zeroT Tryz.prog 320 = some .nilfn := by kernel_rfl
@[go_sem] theorem elemT_320 : elemT Tryz.prog 320 = none := by kernel_rfl
@[go_sem] theorem concT_320 : concT Tryz.prog 320 = true := by kernel_rfl
@[go_sem] theorem spreadT_320 : spreadT Tryz.prog 320 = true := by kernel_rfl
@[go_sem] theorem zokT_320 : zokT Tryz.prog 320 = true := by kernel_rfl
@[go_sem] theorem bytesT_320 : bytesT Tryz.prog 320 = 8 := by kernel_rfl
@[go_sem] theorem arrT_320 : arrT Tryz.prog 320 = none := by kernel_rfl
@[go_sem] theorem szT_329 : szT Tryz.prog 329 = 1 := by kernel_rfl
@[go_sem] theorem agT_329 : agT Tryz.prog 329 = some false := by kernel_rfl
@[go_sem] theorem zeroT_329 : zeroT Tryz.prog 329 = some .nilfn := by kernel_rfl
@[go_sem] theorem elemT_329 : elemT Tryz.prog 329 = none := by kernel_rfl
@[go_sem] theorem concT_329 : concT Tryz.prog 329 = true := by kernel_rfl
@[go_sem] theorem spreadT_329 : spreadT Tryz.prog 329 = true := by kernel_rfl
@[go_sem] theorem zokT_329 : zokT Tryz.prog 329 = true := by kernel_rfl
@[go_sem] theorem bytesT_329 : bytesT Tryz.prog 329 = 8 := by kernel_rfl
@[go_sem] theorem arrT_329 : arrT Tryz.prog 329 = none := by kernel_rfl
@[go_sem] theorem szT_349 : szT Tryz.prog 349 = 1 := by kernel_rfl
@[go_sem] theorem agT_349 : agT Tryz.prog 349 = some false := by kernel_rfl
@[go_sem] theorem zeroT_349 : zeroT Tryz.prog 349 = some (.int .i64 0) := by kernel_rfl
@[go_sem] theorem elemT_349 : elemT Tryz.prog 349 = none := by kernel_rfl
@[go_sem] theorem concT_349 : concT Tryz.prog 349 = true := by kernel_rfl
@[go_sem] theorem spreadT_349 : spreadT Tryz.prog 349 = false := by kernel_rfl
@[go_sem] theorem zokT_349 : zokT Tryz.prog 349 = true := by kernel_rfl
@[go_sem] theorem bytesT_349 : bytesT Tryz.prog 349 = 8 := by kernel_rfl
@[go_sem] theorem arrT_349 : arrT Tryz.prog 349 = none := by kernel_rfl
@[go_sem] theorem keyT_349 : keyT Tryz.prog 349 = some (false, [.i]) := by kernel_rfl
@[go_sem] theorem szT_359 : szT Tryz.prog 359 = 1 := by kernel_rfl
@[go_sem] theorem agT_359 : agT Tryz.prog 359 = some false := by kernel_rfl
@[go_sem] theorem zeroT_359 : zeroT Tryz.prog 359 = some .nilfn := by kernel_rfl
@[go_sem] theorem elemT_359 : elemT Tryz.prog 359 = none := by kernel_rfl
@[go_sem] theorem concT_359 : concT Tryz.prog 359 = true := by kernel_rfl
@[go_sem] theorem spreadT_359 : spreadT Tryz.prog 359 = true := by kernel_rfl
@[go_sem] theorem zokT_359 : zokT Tryz.prog 359 = true := by kernel_rfl
@[go_sem] theorem bytesT_359 : bytesT Tryz.prog 359 = 8 := by kernel_rfl
@[go_sem] theorem arrT_359 : arrT Tryz.prog 359 = none := by kernel_rfl
@[go_sem] theorem szT_245 : szT Tryz.prog 245 = 1 := by kernel_rfl
@[go_sem] theorem agT_245 : agT Tryz.prog 245 = some false := by kernel_rfl
@[go_sem] theorem zeroT_245 : zeroT Tryz.prog 245 = some .nilptr := by kernel_rfl
@[go_sem] theorem elemT_245 : elemT Tryz.prog 245 = none := by kernel_rfl
@[go_sem] theorem concT_245 : concT Tryz.prog 245 = true := by kernel_rfl
@[go_sem] theorem spreadT_245 : spreadT Tryz.prog 245 = true := by kernel_rfl
@[go_sem] theorem zokT_245 : zokT Tryz.prog 245 = true := by kernel_rfl
@[go_sem] theorem bytesT_245 : bytesT Tryz.prog 245 = 8 := by kernel_rfl
@[go_sem] theorem arrT_245 : arrT Tryz.prog 245 = none := by kernel_rfl
end Go.V
