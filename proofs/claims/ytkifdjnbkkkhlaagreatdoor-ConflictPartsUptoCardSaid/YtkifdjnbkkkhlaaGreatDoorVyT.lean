/- Facts about types of this program. No condition. -/
import Derived.Test.YtkifdjnbkkkhlaaGreatDoorVhD
import Derived.Test.YtkifdjnbkkkhlaaGreatDoorProg
set_option linter.unusedSimpArgs false
set_option linter.unusedVariables false
set_option linter.constructorNameAsVariable false
set_option linter.deprecated false
namespace Go.V
open Go.Proofs
@[go_sem] theorem szT_3 : szT Tryz.prog 3 = 1 := by kernel_rfl
@[go_sem] theorem agT_3 : agT Tryz.prog 3 = some false := by kernel_rfl
@[go_sem] theorem zeroT_3 : zeroT Tryz.prog 3 = some (.int .i64 0) := by kernel_rfl
@[go_sem] theorem elemT_3 : elemT Tryz.prog 3 = none := by kernel_rfl
@[go_sem] theorem concT_3 : concT Tryz.prog 3 = true := by kernel_rfl
@[go_sem] theorem spreadT_3 : spreadT Tryz.prog 3 = false := by kernel_rfl
@[go_sem] theorem zokT_3 : zokT Tryz.prog 3 = true := by kernel_rfl
@[go_sem] theorem bytesT_3 : bytesT Tryz.prog 3 = 8 := by kernel_rfl
@[go_sem] theorem arrT_3 : arrT Tryz.prog 3 = none := by kernel_rfl
@[go_sem] theorem keyT_3 : keyT Tryz.prog 3 = some (false, [.i]) := by kernel_rfl
@[go_sem] theorem szT_4 : szT Tryz.prog 4 = 1 := by kernel_rfl
@[go_sem] theorem agT_4 : agT Tryz.prog 4 = some false := by kernel_rfl
@[go_sem] theorem zeroT_4 : zeroT Tryz.prog 4 = some (.bool false) := by kernel_rfl
@[go_sem] theorem elemT_4 : elemT Tryz.prog 4 = none := by kernel_rfl
@[go_sem] theorem concT_4 : concT Tryz.prog 4 = true := by kernel_rfl
@[go_sem] theorem spreadT_4 : spreadT Tryz.prog 4 = true := by kernel_rfl
@[go_sem] theorem zokT_4 : zokT Tryz.prog 4 = true := by kernel_rfl
@[go_sem] theorem bytesT_4 : bytesT Tryz.prog 4 = 1 := by kernel_rfl
@[go_sem] theorem arrT_4 : arrT Tryz.prog 4 = none := by kernel_rfl
@[go_sem] theorem keyT_4 : keyT Tryz.prog 4 = some (false, [.b]) := by kernel_rfl
@[go_sem] theorem szT_9 : szT Tryz.prog 9 = 1 := by kernel_rfl
@[go_sem] theorem agT_9 : agT Tryz.prog 9 = some false := by kernel_rfl
@[go_sem] theorem zeroT_9 : zeroT Tryz.prog 9 = some (.str []) := by kernel_rfl
@[go_sem] theorem elemT_9 : elemT Tryz.prog 9 = none := by kernel_rfl
@[go_sem] theorem concT_9 : concT Tryz.prog 9 = true := by kernel_rfl
@[go_sem] theorem spreadT_9 : spreadT Tryz.prog 9 = true := by kernel_rfl
@[go_sem] theorem zokT_9 : zokT Tryz.prog 9 = true := by kernel_rfl
@[go_sem] theorem bytesT_9 : bytesT Tryz.prog 9 = 16 := by kernel_rfl
@[go_sem] theorem arrT_9 : arrT Tryz.prog 9 = none := by kernel_rfl
@[go_sem] theorem keyT_9 : keyT Tryz.prog 9 = some (false, [.s]) := by kernel_rfl
@[go_sem] theorem szT_25 : szT Tryz.prog 25 = 1 := by kernel_rfl
@[go_sem] theorem agT_25 : agT Tryz.prog 25 = some false := by kernel_rfl
@[go_sem] theorem zeroT_25 : zeroT Tryz.prog 25 = some .nilsl := by kernel_rfl
@[go_sem] theorem elemT_25 : elemT Tryz.prog 25 = some 31 := by kernel_rfl
@[go_sem] theorem concT_25 : concT Tryz.prog 25 = true := by kernel_rfl
@[go_sem] theorem spreadT_25 : spreadT Tryz.prog 25 = true := by kernel_rfl
@[go_sem] theorem zokT_25 : zokT Tryz.prog 25 = true := by kernel_rfl
@[go_sem] theorem bytesT_25 : bytesT Tryz.prog 25 = 24 := by kernel_rfl
@[go_sem] theorem arrT_25 : arrT Tryz.prog 25 = none := by kernel_rfl
@[go_sem] theorem szT_26 : szT Tryz.prog 26 = 1 := by kernel_rfl
@[go_sem] theorem agT_26 : agT Tryz.prog 26 = some false := by kernel_rfl
@[go_sem] theorem zeroT_26 : zeroT Tryz.prog 26 = some .nilsl := by kernel_rfl
@[go_sem] theorem elemT_26 : elemT Tryz.prog 26 = some 9 := by kernel_rfl
@[go_sem] theorem concT_26 : concT Tryz.prog 26 = true := by kernel_rfl
@[go_sem] theorem spreadT_26 : spreadT Tryz.prog 26 = true := by kernel_rfl
@[go_sem] theorem zokT_26 : zokT Tryz.prog 26 = true := by kernel_rfl
end Go.V
namespace Go.V
open Go.Proofs
@[go_sem] theorem bytesT_26 : bytesT Tryz.prog 26 = 24 := by kernel_rfl
@[go_sem] theorem arrT_26 : arrT Tryz.prog 26 = none := by kernel_rfl
@[go_sem] theorem szT_27 : szT Tryz.prog 27 = 1 := by kernel_rfl
@[go_sem] theorem agT_27 : agT Tryz.prog 27 = some false := by kernel_rfl
@[go_sem] theorem zeroT_27 : zeroT Tryz.prog 27 = some .nilsl := by kernel_rfl
@[go_sem] theorem elemT_27 : elemT Tryz.prog 27 = some 29 := by kernel_rfl
@[go_sem] theorem concT_27 : concT Tryz.prog 27 = true := by kernel_rfl
@[go_sem] theorem spreadT_27 : spreadT Tryz.prog 27 = true := by kernel_rfl
@[go_sem] theorem zokT_27 : zokT Tryz.prog 27 = true := by kernel_rfl
@[go_sem] theorem bytesT_27 : bytesT Tryz.prog 27 = 24 := by kernel_rfl
@[go_sem] theorem arrT_27 : arrT Tryz.prog 27 = none := by kernel_rfl
@[go_sem] theorem szT_29 : szT Tryz.prog 29 = 4 := by kernel_rfl
@[go_sem] theorem agT_29 : agT Tryz.prog 29 = some true := by kernel_rfl
@[go_sem] theorem zeroT_29 : zeroT Tryz.prog 29 = some (.agg [(.int .i64 0), (.str []), (.str []), .nilsl]) := by kernel_rfl
@[go_sem] theorem elemT_29 : elemT Tryz.prog 29 = none := by kernel_rfl
@[go_sem] theorem concT_29 : concT Tryz.prog 29 = true := by kernel_rfl
@[go_sem] theorem spreadT_29 : spreadT Tryz.prog 29 = true := by kernel_rfl
@[go_sem] theorem zokT_29 : zokT Tryz.prog 29 = true := by kernel_rfl
@[go_sem] theorem bytesT_29 : bytesT Tryz.prog 29 = 64 := by kernel_rfl
@[go_sem] theorem arrT_29 : arrT Tryz.prog 29 = none := by kernel_rfl
@[go_sem] theorem placesT_29 : placesT Tryz.prog 29 = some [(0, 1), (1, 1), (2, 1), (3, 1)] := by kernel_rfl
@[go_sem] theorem fieldT_29_0 : fieldT Tryz.prog 29 0 = some (0, 3) := by kernel_rfl
@[go_sem] theorem fieldT_29_1 : fieldT Tryz.prog 29 1 = some (1, 9) := by kernel_rfl
@[go_sem] theorem fieldT_29_2 : fieldT Tryz.prog 29 2 = some (2, 9) := by kernel_rfl
@[go_sem] theorem fieldT_29_3 : fieldT Tryz.prog 29 3 = some (3, 27) := by kernel_rfl
@[go_sem] theorem szT_31 : szT Tryz.prog 31 = 12 := by kernel_rfl
@[go_sem] theorem agT_31 : agT Tryz.prog 31 = some true := by kernel_rfl
@[go_sem] theorem zeroT_31 : zeroT Tryz.prog 31 = some (.agg [(.int .i64 0), (.str []), (.str []), (.int .i64 0), (.int .i64 0), (.int .i64 0), (.bool false), (.int .i64 0), (.str []), (.str []), .nilsl, .nilsl]) := by kernel_rfl
@[go_sem] theorem elemT_31 : elemT Tryz.prog 31 = none := by kernel_rfl
@[go_sem] theorem concT_31 : concT Tryz.prog 31 = true := by kernel_rfl
@[go_sem] theorem spreadT_31 : spreadT Tryz.prog 31 = true := by kernel_rfl
@[go_sem] theorem zokT_31 : zokT Tryz.prog 31 = true := by kernel_rfl
@[go_sem] theorem bytesT_31 : bytesT Tryz.prog 31 = 160 := by kernel_rfl
@[go_sem] theorem arrT_31 : arrT Tryz.prog 31 = none := by kernel_rfl
@[go_sem] theorem placesT_31 : placesT Tryz.prog 31 = some [(0, 1), (1, 1), (2, 1), (3, 1), (4, 1), (5, 1), (6, 1), (7, 4), (11, 1)] := by kernel_rfl
@[go_sem] theorem fieldT_31_0 : fieldT Tryz.prog 31 0 = some (0, 3) := by kernel_rfl
@[go_sem] theorem fieldT_31_1 : fieldT Tryz.prog 31 1 = some (1, 9) := by kernel_rfl
@[go_sem] theorem fieldT_31_2 : fieldT Tryz.prog 31 2 = some (2, 9) := by kernel_rfl
@[go_sem] theorem fieldT_31_3 : fieldT Tryz.prog 31 3 = some (3, 3) := by kernel_rfl
@[go_sem] theorem fieldT_31_4 : fieldT Tryz.prog 31 4 = some (4, 3) := by kernel_rfl
@[go_sem] theorem fieldT_31_5 : fieldT Tryz.prog 31 5 = some (5, 3) := by kernel_rfl
@[go_sem] theorem fieldT_31_6 : fieldT Tryz.prog 31 6 = some (6, 4) := by kernel_rfl
@[go_sem] theorem fieldT_31_7 : fieldT Tryz.prog 31 7 = some (7, 29) := by kernel_rfl
@[go_sem] theorem fieldT_31_8 : fieldT Tryz.prog 31 8 = some (11, 26) := by kernel_rfl
@[go_sem] theorem szT_37 : szT Tryz.prog 37 = 1 := by kernel_rfl
@[go_sem] theorem agT_37 : agT Tryz.prog 37 = some false := by kernel_rfl
end Go.V
namespace Go.V
open Go.Proofs
@[go_sem] theorem zeroT_37 : zeroT Tryz.prog 37 = some (.int .i64 0) := by kernel_rfl
@[go_sem] theorem elemT_37 : elemT Tryz.prog 37 = none := by kernel_rfl
@[go_sem] theorem concT_37 : concT Tryz.prog 37 = true := by kernel_rfl
@[go_sem] theorem spreadT_37 : spreadT Tryz.prog 37 = false := by kernel_rfl
@[go_sem] theorem zokT_37 : zokT Tryz.prog 37 = true := by kernel_rfl
@[go_sem] theorem bytesT_37 : bytesT Tryz.prog 37 = 8 := by kernel_rfl
@[go_sem] theorem arrT_37 : arrT Tryz.prog 37 = none := by kernel_rfl
@[go_sem] theorem keyT_37 : keyT Tryz.prog 37 = some (false, [.i]) := by kernel_rfl
@[go_sem] theorem szT_46 : szT Tryz.prog 46 = 1 := by kernel_rfl
@[go_sem] theorem agT_46 : agT Tryz.prog 46 = some false := by kernel_rfl
@[go_sem] theorem zeroT_46 : zeroT Tryz.prog 46 = some .nilsl := by kernel_rfl
@[go_sem] theorem elemT_46 : elemT Tryz.prog 46 = some 3 := by kernel_rfl
@[go_sem] theorem concT_46 : concT Tryz.prog 46 = true := by kernel_rfl
@[go_sem] theorem spreadT_46 : spreadT Tryz.prog 46 = true := by kernel_rfl
@[go_sem] theorem zokT_46 : zokT Tryz.prog 46 = true := by kernel_rfl
@[go_sem] theorem bytesT_46 : bytesT Tryz.prog 46 = 24 := by kernel_rfl
@[go_sem] theorem arrT_46 : arrT Tryz.prog 46 = none := by kernel_rfl
@[go_sem] theorem szT_83 : szT Tryz.prog 83 = 1 := by kernel_rfl
@[go_sem] theorem agT_83 : agT Tryz.prog 83 = some false := by kernel_rfl
@[go_sem] theorem zeroT_83 : zeroT Tryz.prog 83 = some .nilfn := by kernel_rfl
@[go_sem] theorem elemT_83 : elemT Tryz.prog 83 = none := by kernel_rfl
@[go_sem] theorem concT_83 : concT Tryz.prog 83 = true := by kernel_rfl
@[go_sem] theorem spreadT_83 : spreadT Tryz.prog 83 = true := by kernel_rfl
@[go_sem] theorem zokT_83 : zokT Tryz.prog 83 = true := by kernel_rfl
@[go_sem] theorem bytesT_83 : bytesT Tryz.prog 83 = 8 := by kernel_rfl
@[go_sem] theorem arrT_83 : arrT Tryz.prog 83 = none := by kernel_rfl
@[go_sem] theorem szT_149 : szT Tryz.prog 149 = 1 := by kernel_rfl
@[go_sem] theorem agT_149 : agT Tryz.prog 149 = some false := by kernel_rfl
@[go_sem] theorem zeroT_149 : zeroT Tryz.prog 149 = some .nilfn := by kernel_rfl
@[go_sem] theorem elemT_149 : elemT Tryz.prog 149 = none := by kernel_rfl
@[go_sem] theorem concT_149 : concT Tryz.prog 149 = true := by kernel_rfl
@[go_sem] theorem spreadT_149 : spreadT Tryz.prog 149 = true := by kernel_rfl
@[go_sem] theorem zokT_149 : zokT Tryz.prog 149 = true := by kernel_rfl
@[go_sem] theorem bytesT_149 : bytesT Tryz.prog 149 = 8 := by kernel_rfl
@[go_sem] theorem arrT_149 : arrT Tryz.prog 149 = none := by kernel_rfl
@[go_sem] theorem szT_195 : szT Tryz.prog 195 = 1 := by kernel_rfl
@[go_sem] theorem agT_195 : agT Tryz.prog 195 = some false := by kernel_rfl
@[go_sem] theorem zeroT_195 : zeroT Tryz.prog 195 = some .nilfn := by kernel_rfl
@[go_sem] theorem elemT_195 : elemT Tryz.prog 195 = none := by kernel_rfl
@[go_sem] theorem concT_195 : concT Tryz.prog 195 = true := by kernel_rfl
@[go_sem] theorem spreadT_195 : spreadT Tryz.prog 195 = true := by kernel_rfl
@[go_sem] theorem zokT_195 : zokT Tryz.prog 195 = true := by kernel_rfl
@[go_sem] theorem bytesT_195 : bytesT Tryz.prog 195 = 8 := by kernel_rfl
@[go_sem] theorem arrT_195 : arrT Tryz.prog 195 = none := by kernel_rfl
end Go.V
