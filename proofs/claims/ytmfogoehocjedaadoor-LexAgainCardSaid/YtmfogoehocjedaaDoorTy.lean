/- Facts on the types and functions of this seat's program, each computed. Printed by wl.py of this repo. -/
import Derived.Test.YtmfogoehocjedaaDoorProg
import Derived.Test.YtmfogoehocjedaaDoorFn
import Derived.KernelRfl
namespace Go.Proofs.YtmfogoehocjedaaDoor
open Go.RowKit

theorem mixed : Tryd.prog.follows .mixedOrders = true := by kernel_rfl
theorem ti_3 : tinfo Tryd.prog 3 = some ((some (.int .i64 0)), 1, 8) := by kernel_rfl
theorem ti_4 : tinfo Tryd.prog 4 = some ((some (.bool false)), 1, 1) := by kernel_rfl
theorem ti_5 : tinfo Tryd.prog 5 = some ((some (.int .u8 0)), 1, 1) := by kernel_rfl
theorem ti_9 : tinfo Tryd.prog 9 = some ((some (.string (ByteArray.mk #[]))), 1, 16) := by kernel_rfl
theorem ti_22 : tinfo Tryd.prog 22 = some ((some (.int .u64 0)), 1, 8) := by kernel_rfl
theorem ti_26 : tinfo Tryd.prog 26 = some ((some (.slice none 0 0)), 1, 24) := by kernel_rfl
theorem ti_36 : tinfo Tryd.prog 36 = some ((some (.agg #[(.int .i64 0), (.string (ByteArray.mk #[])), (.int .i64 0)])), 3, 32) := by kernel_rfl
theorem ti_48 : tinfo Tryd.prog 48 = some ((some (.float .f64 0)), 1, 8) := by kernel_rfl
theorem ti_53 : tinfo Tryd.prog 53 = some ((some (.pointer none)), 1, 8) := by kernel_rfl
theorem ti_55 : tinfo Tryd.prog 55 = some ((some (.agg #[(.pointer none), (.slice none 0 0)])), 2, 32) := by kernel_rfl
theorem ti_114 : tinfo Tryd.prog 114 = some ((some (.agg #[(.int .u64 0), (.int .u64 0), (.int .i64 0)])), 3, 24) := by kernel_rfl
theorem ti_130 : tinfo Tryd.prog 130 = some ((some (.agg #[(.int .u64 0), (.int .u64 0)])), 2, 16) := by kernel_rfl
theorem ti_141 : tinfo Tryd.prog 141 = some ((some (.agg #[(.int .i64 0), (.string (ByteArray.mk #[]))])), 2, 24) := by kernel_rfl
theorem sc_3 : scalarT Tryd.prog 3 = true := by kernel_rfl
theorem sc_4 : scalarT Tryd.prog 4 = true := by kernel_rfl
theorem sc_5 : scalarT Tryd.prog 5 = true := by kernel_rfl
theorem sc_9 : scalarT Tryd.prog 9 = true := by kernel_rfl
theorem sc_22 : scalarT Tryd.prog 22 = true := by kernel_rfl
theorem sc_26 : scalarT Tryd.prog 26 = true := by kernel_rfl
theorem sc_48 : scalarT Tryd.prog 48 = true := by kernel_rfl
theorem sc_53 : scalarT Tryd.prog 53 = true := by kernel_rfl
theorem sc_59 : scalarT Tryd.prog 59 = true := by kernel_rfl
theorem sc_124 : scalarT Tryd.prog 124 = true := by kernel_rfl
theorem sc_126 : scalarT Tryd.prog 126 = true := by kernel_rfl
theorem sc_142 : scalarT Tryd.prog 142 = true := by kernel_rfl
theorem st_36 : structT Tryd.prog 36 3 = true := by kernel_rfl
theorem fo_36_0 : fieldOff Tryd.prog 36 0 = some 0 := by kernel_rfl
theorem fo_36_1 : fieldOff Tryd.prog 36 1 = some 1 := by kernel_rfl
theorem fo_36_2 : fieldOff Tryd.prog 36 2 = some 2 := by kernel_rfl
theorem fo_55_0 : fieldOff Tryd.prog 55 0 = some 0 := by kernel_rfl
theorem fo_55_1 : fieldOff Tryd.prog 55 1 = some 1 := by kernel_rfl
theorem fo_88_0 : fieldOff Tryd.prog 88 0 = some 0 := by kernel_rfl
theorem fo_88_1 : fieldOff Tryd.prog 88 1 = some 1 := by kernel_rfl
theorem fo_88_2 : fieldOff Tryd.prog 88 2 = some 2 := by kernel_rfl
theorem fo_97_0 : fieldOff Tryd.prog 97 0 = some 0 := by kernel_rfl
theorem fo_97_1 : fieldOff Tryd.prog 97 1 = some 800 := by kernel_rfl
theorem fo_97_2 : fieldOff Tryd.prog 97 2 = some 801 := by kernel_rfl
theorem fo_97_3 : fieldOff Tryd.prog 97 3 = some 802 := by kernel_rfl
theorem fo_97_4 : fieldOff Tryd.prog 97 4 = some 803 := by kernel_rfl
theorem fo_114_0 : fieldOff Tryd.prog 114 0 = some 0 := by kernel_rfl
theorem fo_114_1 : fieldOff Tryd.prog 114 1 = some 1 := by kernel_rfl
theorem fo_114_2 : fieldOff Tryd.prog 114 2 = some 2 := by kernel_rfl
theorem fo_130_0 : fieldOff Tryd.prog 130 0 = some 0 := by kernel_rfl
theorem fo_130_1 : fieldOff Tryd.prog 130 1 = some 1 := by kernel_rfl
theorem fo_141_0 : fieldOff Tryd.prog 141 0 = some 0 := by kernel_rfl
theorem fo_141_1 : fieldOff Tryd.prog 141 1 = some 1 := by kernel_rfl
theorem bi_36 : buildInfo Tryd.prog 36 [] = some ([(.int .i64 0), (.string (ByteArray.mk #[])), (.int .i64 0)], []) := by kernel_rfl
theorem bi_36_0_1 : buildInfo Tryd.prog 36 [0, 1] = some ([(.int .i64 0), (.string (ByteArray.mk #[])), (.int .i64 0)], [0, 1]) := by kernel_rfl
theorem bi_36_0_1_2 : buildInfo Tryd.prog 36 [0, 1, 2] = some ([(.int .i64 0), (.string (ByteArray.mk #[])), (.int .i64 0)], [0, 1, 2]) := by kernel_rfl
theorem bi_36_2 : buildInfo Tryd.prog 36 [2] = some ([(.int .i64 0), (.string (ByteArray.mk #[])), (.int .i64 0)], [2]) := by kernel_rfl
theorem cb_7 : callable Tryd.prog 7 = true := by kernel_rfl
theorem cb_8 : callable Tryd.prog 8 = true := by kernel_rfl
theorem cb_9 : callable Tryd.prog 9 = true := by kernel_rfl
theorem cb_10 : callable Tryd.prog 10 = true := by kernel_rfl
theorem cb_11 : callable Tryd.prog 11 = true := by kernel_rfl
theorem cb_12 : callable Tryd.prog 12 = true := by kernel_rfl
theorem cb_13 : callable Tryd.prog 13 = true := by kernel_rfl
theorem cb_14 : callable Tryd.prog 14 = true := by kernel_rfl
theorem cb_15 : callable Tryd.prog 15 = true := by kernel_rfl
theorem cb_16 : callable Tryd.prog 16 = true := by kernel_rfl
theorem cb_18 : callable Tryd.prog 18 = true := by kernel_rfl
theorem cb_19 : callable Tryd.prog 19 = true := by kernel_rfl
theorem cb_20 : callable Tryd.prog 20 = true := by kernel_rfl
theorem cb_21 : callable Tryd.prog 21 = true := by kernel_rfl
theorem cb_22 : callable Tryd.prog 22 = true := by kernel_rfl
theorem cb_23 : callable Tryd.prog 23 = true := by kernel_rfl
theorem cb_24 : callable Tryd.prog 24 = true := by kernel_rfl
theorem cb_26 : callable Tryd.prog 26 = true := by kernel_rfl
theorem cb_27 : callable Tryd.prog 27 = true := by kernel_rfl
theorem cb_28 : callable Tryd.prog 28 = true := by kernel_rfl
theorem cb_29 : callable Tryd.prog 29 = true := by kernel_rfl
theorem cb_36 : callable Tryd.prog 36 = true := by kernel_rfl
theorem cb_37 : callable Tryd.prog 37 = true := by kernel_rfl
theorem cb_38 : callable Tryd.prog 38 = true := by kernel_rfl
theorem cb_41 : callable Tryd.prog 41 = true := by kernel_rfl
theorem cb_48 : callable Tryd.prog 48 = true := by kernel_rfl
theorem cb_52 : callable Tryd.prog 52 = true := by kernel_rfl
theorem cb_53 : callable Tryd.prog 53 = true := by kernel_rfl
theorem cb_59 : callable Tryd.prog 59 = true := by kernel_rfl
theorem cb_60 : callable Tryd.prog 60 = true := by kernel_rfl
theorem cb_61 : callable Tryd.prog 61 = true := by kernel_rfl
theorem cb_63 : callable Tryd.prog 63 = true := by kernel_rfl
theorem cb_64 : callable Tryd.prog 64 = true := by kernel_rfl
theorem cb_69 : callable Tryd.prog 69 = true := by kernel_rfl
theorem cb_71 : callable Tryd.prog 71 = true := by kernel_rfl
theorem cb_72 : callable Tryd.prog 72 = true := by kernel_rfl
theorem cb_73 : callable Tryd.prog 73 = true := by kernel_rfl
theorem cb_74 : callable Tryd.prog 74 = true := by kernel_rfl
theorem cb_75 : callable Tryd.prog 75 = true := by kernel_rfl
theorem cb_76 : callable Tryd.prog 76 = true := by kernel_rfl
theorem cb_78 : callable Tryd.prog 78 = true := by kernel_rfl
theorem cb_79 : callable Tryd.prog 79 = true := by kernel_rfl
theorem cb_80 : callable Tryd.prog 80 = true := by kernel_rfl
theorem cb_81 : callable Tryd.prog 81 = true := by kernel_rfl
theorem cb_83 : callable Tryd.prog 83 = true := by kernel_rfl
theorem cb_84 : callable Tryd.prog 84 = true := by kernel_rfl
theorem cb_85 : callable Tryd.prog 85 = true := by kernel_rfl
theorem cb_86 : callable Tryd.prog 86 = true := by kernel_rfl
theorem cb_91 : callable Tryd.prog 91 = true := by kernel_rfl
theorem cb_92 : callable Tryd.prog 92 = true := by kernel_rfl

end Go.Proofs.YtmfogoehocjedaaDoor
