/- Facts on the types and functions of this seat's program, each computed. Printed by wl.py of this repo. -/
import Derived.Test.YtmfogoehocjedaaDoorProg
import Derived.Test.YtmfogoehocjedaaDoorFn
import Derived.KernelRfl
namespace Go.Proofs.YtmfogoehocjedaaDoor
open Go.RowKit

theorem mixed : Tryd.prog.follows .mixedOrders = true := by kernel_rfl
theorem ti_3 : tinfo Tryd.prog 3 = some ((some (.int .i64 0)), 1, 8) := by kernel_rfl
theorem ti_5 : tinfo Tryd.prog 5 = some ((some (.int .u8 0)), 1, 1) := by kernel_rfl
theorem ti_9 : tinfo Tryd.prog 9 = some ((some (.string (ByteArray.mk #[]))), 1, 16) := by kernel_rfl
theorem ti_26 : tinfo Tryd.prog 26 = some ((some (.slice none 0 0)), 1, 24) := by kernel_rfl
theorem ti_36 : tinfo Tryd.prog 36 = some ((some (.agg #[(.int .i64 0), (.string (ByteArray.mk #[])), (.int .i64 0)])), 3, 32) := by kernel_rfl
theorem ti_53 : tinfo Tryd.prog 53 = some ((some (.pointer none)), 1, 8) := by kernel_rfl
theorem ti_55 : tinfo Tryd.prog 55 = some ((some (.agg #[(.pointer none), (.slice none 0 0)])), 2, 32) := by kernel_rfl
theorem sc_3 : scalarT Tryd.prog 3 = true := by kernel_rfl
theorem sc_5 : scalarT Tryd.prog 5 = true := by kernel_rfl
theorem sc_9 : scalarT Tryd.prog 9 = true := by kernel_rfl
theorem sc_26 : scalarT Tryd.prog 26 = true := by kernel_rfl
theorem sc_53 : scalarT Tryd.prog 53 = true := by kernel_rfl
theorem st_36 : structT Tryd.prog 36 3 = true := by kernel_rfl
theorem fo_36_0 : fieldOff Tryd.prog 36 0 = some 0 := by kernel_rfl
theorem fo_36_2 : fieldOff Tryd.prog 36 2 = some 2 := by kernel_rfl
theorem fo_55_0 : fieldOff Tryd.prog 55 0 = some 0 := by kernel_rfl
theorem fo_55_1 : fieldOff Tryd.prog 55 1 = some 1 := by kernel_rfl
theorem bi_36 : buildInfo Tryd.prog 36 [] = some ([(.int .i64 0), (.string (ByteArray.mk #[])), (.int .i64 0)], []) := by kernel_rfl
theorem bi_36_0_1 : buildInfo Tryd.prog 36 [0, 1] = some ([(.int .i64 0), (.string (ByteArray.mk #[])), (.int .i64 0)], [0, 1]) := by kernel_rfl
theorem bi_36_0_1_2 : buildInfo Tryd.prog 36 [0, 1, 2] = some ([(.int .i64 0), (.string (ByteArray.mk #[])), (.int .i64 0)], [0, 1, 2]) := by kernel_rfl
theorem bi_36_2 : buildInfo Tryd.prog 36 [2] = some ([(.int .i64 0), (.string (ByteArray.mk #[])), (.int .i64 0)], [2]) := by kernel_rfl
theorem cb_7 : callable Tryd.prog 7 = true := by kernel_rfl
theorem cb_8 : callable Tryd.prog 8 = true := by kernel_rfl
theorem cb_9 : callable Tryd.prog 9 = true := by kernel_rfl
theorem cb_10 : callable Tryd.prog 10 = true := by kernel_rfl
theorem cb_11 : callable Tryd.prog 11 = true := by kernel_rfl
theorem cb_13 : callable Tryd.prog 13 = true := by kernel_rfl
theorem cb_14 : callable Tryd.prog 14 = true := by kernel_rfl
theorem cb_15 : callable Tryd.prog 15 = true := by kernel_rfl
theorem cb_16 : callable Tryd.prog 16 = true := by kernel_rfl
theorem cb_18 : callable Tryd.prog 18 = true := by kernel_rfl
theorem cb_19 : callable Tryd.prog 19 = true := by kernel_rfl
theorem cb_20 : callable Tryd.prog 20 = true := by kernel_rfl
theorem cb_21 : callable Tryd.prog 21 = true := by kernel_rfl
theorem cb_22 : callable Tryd.prog 22 = true := by kernel_rfl
theorem cb_23 : callable Tryd.prog 23 = true := by kernel_rfl
theorem cb_24 : callable Tryd.prog 24 = true := by kernel_rfl
theorem cb_26 : callable Tryd.prog 26 = true := by kernel_rfl
theorem cb_27 : callable Tryd.prog 27 = true := by kernel_rfl
theorem cb_28 : callable Tryd.prog 28 = true := by kernel_rfl
theorem cb_29 : callable Tryd.prog 29 = true := by kernel_rfl
theorem cb_38 : callable Tryd.prog 38 = true := by kernel_rfl

end Go.Proofs.YtmfogoehocjedaaDoor
