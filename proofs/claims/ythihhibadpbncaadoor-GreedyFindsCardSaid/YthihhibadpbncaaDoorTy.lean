/- Facts on the types and functions of this seat's program, each computed. Printed by wl.py of this repo. -/
import Derived.Test.YthihhibadpbncaaDoorProg
import Derived.Test.YthihhibadpbncaaDoorFn
import Derived.KernelRfl
namespace Go.Proofs.YthihhibadpbncaaDoor
open Go.RowKit

theorem mixed : Tryd.prog.follows .mixedOrders = true := by kernel_rfl
theorem ti_2 : tinfo Tryd.prog 2 = some ((some (.int .i64 0)), 1, 8) := by kernel_rfl
theorem ti_3 : tinfo Tryd.prog 3 = some ((some (.int .i64 0)), 1, 8) := by kernel_rfl
theorem ti_5 : tinfo Tryd.prog 5 = some ((some (.int .u8 0)), 1, 1) := by kernel_rfl
theorem ti_22 : tinfo Tryd.prog 22 = some ((some (.slice none 0 0)), 1, 24) := by kernel_rfl
theorem ti_23 : tinfo Tryd.prog 23 = some ((some (.slice none 0 0)), 1, 24) := by kernel_rfl
theorem ti_37 : tinfo Tryd.prog 37 = some ((some (.agg #[(.slice none 0 0), (.int .i64 0), (.slice none 0 0)])), 3, 56) := by kernel_rfl
theorem ti_41 : tinfo Tryd.prog 41 = some ((some (.int .i16 0)), 1, 2) := by kernel_rfl
theorem ti_46 : tinfo Tryd.prog 46 = some ((some (.agg #[(.slice none 0 0), (.int .i64 0), .nilFunc])), 3, 40) := by kernel_rfl
theorem ti_48 : tinfo Tryd.prog 48 = some ((some (.agg #[(.int .u32 0), (.int .i64 0)])), 2, 16) := by kernel_rfl
theorem sc_2 : scalarT Tryd.prog 2 = true := by kernel_rfl
theorem sc_3 : scalarT Tryd.prog 3 = true := by kernel_rfl
theorem sc_5 : scalarT Tryd.prog 5 = true := by kernel_rfl
theorem sc_22 : scalarT Tryd.prog 22 = true := by kernel_rfl
theorem sc_23 : scalarT Tryd.prog 23 = true := by kernel_rfl
theorem sc_28 : scalarT Tryd.prog 28 = true := by kernel_rfl
theorem sc_32 : scalarT Tryd.prog 32 = true := by kernel_rfl
theorem sc_41 : scalarT Tryd.prog 41 = true := by kernel_rfl
theorem st_25 : structT Tryd.prog 25 7 = true := by kernel_rfl
theorem st_37 : structT Tryd.prog 37 3 = true := by kernel_rfl
theorem st_46 : structT Tryd.prog 46 3 = true := by kernel_rfl
theorem st_48 : structT Tryd.prog 48 2 = true := by kernel_rfl
theorem fo_25_0 : fieldOff Tryd.prog 25 0 = some 0 := by kernel_rfl
theorem fo_25_1 : fieldOff Tryd.prog 25 1 = some 1 := by kernel_rfl
theorem fo_25_2 : fieldOff Tryd.prog 25 2 = some 2 := by kernel_rfl
theorem fo_25_3 : fieldOff Tryd.prog 25 3 = some 3 := by kernel_rfl
theorem fo_25_4 : fieldOff Tryd.prog 25 4 = some 4 := by kernel_rfl
theorem fo_25_5 : fieldOff Tryd.prog 25 5 = some 5 := by kernel_rfl
theorem fo_25_6 : fieldOff Tryd.prog 25 6 = some 6 := by kernel_rfl
theorem fo_37_0 : fieldOff Tryd.prog 37 0 = some 0 := by kernel_rfl
theorem fo_37_1 : fieldOff Tryd.prog 37 1 = some 1 := by kernel_rfl
theorem fo_37_2 : fieldOff Tryd.prog 37 2 = some 2 := by kernel_rfl
theorem fo_46_0 : fieldOff Tryd.prog 46 0 = some 0 := by kernel_rfl
theorem fo_46_1 : fieldOff Tryd.prog 46 1 = some 1 := by kernel_rfl
theorem fo_46_2 : fieldOff Tryd.prog 46 2 = some 2 := by kernel_rfl
theorem fo_48_0 : fieldOff Tryd.prog 48 0 = some 0 := by kernel_rfl
theorem fo_48_1 : fieldOff Tryd.prog 48 1 = some 1 := by kernel_rfl
theorem bi_37_0_1 : buildInfo Tryd.prog 37 [0, 1] = some ([(.slice none 0 0), (.int .i64 0), (.slice none 0 0)], [0, 1]) := by kernel_rfl
theorem bi_46_0_1_2 : buildInfo Tryd.prog 46 [0, 1, 2] = some ([(.slice none 0 0), (.int .i64 0), .nilFunc], [0, 1, 2]) := by kernel_rfl
theorem bi_48_0_1 : buildInfo Tryd.prog 48 [0, 1] = some ([(.int .u32 0), (.int .i64 0)], [0, 1]) := by kernel_rfl
theorem cb_7 : callable Tryd.prog 7 = true := by kernel_rfl
theorem cb_8 : callable Tryd.prog 8 = true := by kernel_rfl
theorem cb_9 : callable Tryd.prog 9 = true := by kernel_rfl
theorem cb_10 : callable Tryd.prog 10 = true := by kernel_rfl
theorem cb_11 : callable Tryd.prog 11 = true := by kernel_rfl
theorem cb_12 : callable Tryd.prog 12 = true := by kernel_rfl
theorem cb_13 : callable Tryd.prog 13 = true := by kernel_rfl
theorem cb_14 : callable Tryd.prog 14 = true := by kernel_rfl
theorem cb_15 : callable Tryd.prog 15 = true := by kernel_rfl
theorem cb_16 : callable Tryd.prog 16 = true := by kernel_rfl
theorem cb_17 : callable Tryd.prog 17 = true := by kernel_rfl
theorem cb_18 : callable Tryd.prog 18 = true := by kernel_rfl
theorem cb_19 : callable Tryd.prog 19 = true := by kernel_rfl
theorem cb_20 : callable Tryd.prog 20 = true := by kernel_rfl
theorem cb_21 : callable Tryd.prog 21 = true := by kernel_rfl
theorem cb_22 : callable Tryd.prog 22 = true := by kernel_rfl
theorem cb_23 : callable Tryd.prog 23 = true := by kernel_rfl
theorem cb_24 : callable Tryd.prog 24 = true := by kernel_rfl
theorem cb_25 : callable Tryd.prog 25 = true := by kernel_rfl

end Go.Proofs.YthihhibadpbncaaDoor
