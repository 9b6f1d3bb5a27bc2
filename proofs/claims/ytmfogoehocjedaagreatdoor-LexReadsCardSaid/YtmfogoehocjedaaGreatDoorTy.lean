/- Facts on the types and functions of this seat's program, each computed. Printed by wl.py of this repo. -/
import Derived.Test.YtmfogoehocjedaaGreatDoorProg
import Derived.Test.YtmfogoehocjedaaGreatDoorFn
import Derived.KernelRfl
namespace Go.Proofs.YtmfogoehocjedaaGreatDoor
open Go.RowKit

theorem mixed : Tryz.prog.follows .mixedOrders = true := by kernel_rfl
theorem ti_3 : tinfo Tryz.prog 3 = some ((some (.int .i64 0)), 1, 8) := by kernel_rfl
theorem ti_4 : tinfo Tryz.prog 4 = some ((some (.bool false)), 1, 1) := by kernel_rfl
theorem ti_5 : tinfo Tryz.prog 5 = some ((some (.int .u8 0)), 1, 1) := by kernel_rfl
theorem ti_9 : tinfo Tryz.prog 9 = some ((some (.string (ByteArray.mk #[]))), 1, 16) := by kernel_rfl
theorem ti_30 : tinfo Tryz.prog 30 = some ((some (.agg #[(.int .i64 0), (.string (ByteArray.mk #[])), (.int .i64 0)])), 3, 32) := by kernel_rfl
theorem ti_45 : tinfo Tryz.prog 45 = some ((some (.slice none 0 0)), 1, 24) := by kernel_rfl
theorem ti_47 : tinfo Tryz.prog 47 = some ((some (.float .f64 0)), 1, 8) := by kernel_rfl
theorem ti_52 : tinfo Tryz.prog 52 = some ((some (.pointer none)), 1, 8) := by kernel_rfl
theorem ti_54 : tinfo Tryz.prog 54 = some ((some (.agg #[(.pointer none), (.slice none 0 0)])), 2, 32) := by kernel_rfl
theorem ti_85 : tinfo Tryz.prog 85 = some ((some (.int .u64 0)), 1, 8) := by kernel_rfl
theorem ti_118 : tinfo Tryz.prog 118 = some ((some (.agg #[(.int .u64 0), (.int .u64 0), (.int .i64 0)])), 3, 24) := by kernel_rfl
theorem ti_134 : tinfo Tryz.prog 134 = some ((some (.agg #[(.int .u64 0), (.int .u64 0)])), 2, 16) := by kernel_rfl
theorem ti_145 : tinfo Tryz.prog 145 = some ((some (.agg #[(.int .i64 0), (.string (ByteArray.mk #[]))])), 2, 24) := by kernel_rfl
theorem sc_3 : scalarT Tryz.prog 3 = true := by kernel_rfl
theorem sc_4 : scalarT Tryz.prog 4 = true := by kernel_rfl
theorem sc_5 : scalarT Tryz.prog 5 = true := by kernel_rfl
theorem sc_9 : scalarT Tryz.prog 9 = true := by kernel_rfl
theorem sc_45 : scalarT Tryz.prog 45 = true := by kernel_rfl
theorem sc_47 : scalarT Tryz.prog 47 = true := by kernel_rfl
theorem sc_52 : scalarT Tryz.prog 52 = true := by kernel_rfl
theorem sc_71 : scalarT Tryz.prog 71 = true := by kernel_rfl
theorem sc_85 : scalarT Tryz.prog 85 = true := by kernel_rfl
theorem sc_128 : scalarT Tryz.prog 128 = true := by kernel_rfl
theorem sc_130 : scalarT Tryz.prog 130 = true := by kernel_rfl
theorem sc_146 : scalarT Tryz.prog 146 = true := by kernel_rfl
theorem st_30 : structT Tryz.prog 30 3 = true := by kernel_rfl
theorem fo_30_0 : fieldOff Tryz.prog 30 0 = some 0 := by kernel_rfl
theorem fo_30_1 : fieldOff Tryz.prog 30 1 = some 1 := by kernel_rfl
theorem fo_30_2 : fieldOff Tryz.prog 30 2 = some 2 := by kernel_rfl
theorem fo_54_0 : fieldOff Tryz.prog 54 0 = some 0 := by kernel_rfl
theorem fo_54_1 : fieldOff Tryz.prog 54 1 = some 1 := by kernel_rfl
theorem fo_91_0 : fieldOff Tryz.prog 91 0 = some 0 := by kernel_rfl
theorem fo_91_1 : fieldOff Tryz.prog 91 1 = some 1 := by kernel_rfl
theorem fo_91_2 : fieldOff Tryz.prog 91 2 = some 2 := by kernel_rfl
theorem fo_100_0 : fieldOff Tryz.prog 100 0 = some 0 := by kernel_rfl
theorem fo_100_1 : fieldOff Tryz.prog 100 1 = some 800 := by kernel_rfl
theorem fo_100_2 : fieldOff Tryz.prog 100 2 = some 801 := by kernel_rfl
theorem fo_100_3 : fieldOff Tryz.prog 100 3 = some 802 := by kernel_rfl
theorem fo_100_4 : fieldOff Tryz.prog 100 4 = some 803 := by kernel_rfl
theorem fo_118_0 : fieldOff Tryz.prog 118 0 = some 0 := by kernel_rfl
theorem fo_118_1 : fieldOff Tryz.prog 118 1 = some 1 := by kernel_rfl
theorem fo_118_2 : fieldOff Tryz.prog 118 2 = some 2 := by kernel_rfl
theorem fo_134_0 : fieldOff Tryz.prog 134 0 = some 0 := by kernel_rfl
theorem fo_134_1 : fieldOff Tryz.prog 134 1 = some 1 := by kernel_rfl
theorem fo_145_0 : fieldOff Tryz.prog 145 0 = some 0 := by kernel_rfl
theorem fo_145_1 : fieldOff Tryz.prog 145 1 = some 1 := by kernel_rfl
theorem bi_30 : buildInfo Tryz.prog 30 [] = some ([(.int .i64 0), (.string (ByteArray.mk #[])), (.int .i64 0)], []) := by kernel_rfl
theorem bi_30_0_1 : buildInfo Tryz.prog 30 [0, 1] = some ([(.int .i64 0), (.string (ByteArray.mk #[])), (.int .i64 0)], [0, 1]) := by kernel_rfl
theorem bi_30_0_1_2 : buildInfo Tryz.prog 30 [0, 1, 2] = some ([(.int .i64 0), (.string (ByteArray.mk #[])), (.int .i64 0)], [0, 1, 2]) := by kernel_rfl
theorem bi_30_0_2 : buildInfo Tryz.prog 30 [0, 2] = some ([(.int .i64 0), (.string (ByteArray.mk #[])), (.int .i64 0)], [0, 2]) := by kernel_rfl
theorem bi_30_2 : buildInfo Tryz.prog 30 [2] = some ([(.int .i64 0), (.string (ByteArray.mk #[])), (.int .i64 0)], [2]) := by kernel_rfl
theorem cb_4 : callable Tryz.prog 4 = true := by kernel_rfl
theorem cb_5 : callable Tryz.prog 5 = true := by kernel_rfl
theorem cb_6 : callable Tryz.prog 6 = true := by kernel_rfl
theorem cb_7 : callable Tryz.prog 7 = true := by kernel_rfl
theorem cb_8 : callable Tryz.prog 8 = true := by kernel_rfl
theorem cb_9 : callable Tryz.prog 9 = true := by kernel_rfl
theorem cb_10 : callable Tryz.prog 10 = true := by kernel_rfl
theorem cb_11 : callable Tryz.prog 11 = true := by kernel_rfl
theorem cb_12 : callable Tryz.prog 12 = true := by kernel_rfl
theorem cb_13 : callable Tryz.prog 13 = true := by kernel_rfl
theorem cb_14 : callable Tryz.prog 14 = true := by kernel_rfl
theorem cb_15 : callable Tryz.prog 15 = true := by kernel_rfl
theorem cb_16 : callable Tryz.prog 16 = true := by kernel_rfl
theorem cb_17 : callable Tryz.prog 17 = true := by kernel_rfl
theorem cb_18 : callable Tryz.prog 18 = true := by kernel_rfl
theorem cb_19 : callable Tryz.prog 19 = true := by kernel_rfl
theorem cb_20 : callable Tryz.prog 20 = true := by kernel_rfl
theorem cb_21 : callable Tryz.prog 21 = true := by kernel_rfl
theorem cb_22 : callable Tryz.prog 22 = true := by kernel_rfl
theorem cb_23 : callable Tryz.prog 23 = true := by kernel_rfl
theorem cb_24 : callable Tryz.prog 24 = true := by kernel_rfl
theorem cb_25 : callable Tryz.prog 25 = true := by kernel_rfl
theorem cb_26 : callable Tryz.prog 26 = true := by kernel_rfl
theorem cb_27 : callable Tryz.prog 27 = true := by kernel_rfl
theorem cb_30 : callable Tryz.prog 30 = true := by kernel_rfl
theorem cb_31 : callable Tryz.prog 31 = true := by kernel_rfl
theorem cb_34 : callable Tryz.prog 34 = true := by kernel_rfl
theorem cb_35 : callable Tryz.prog 35 = true := by kernel_rfl
theorem cb_36 : callable Tryz.prog 36 = true := by kernel_rfl
theorem cb_39 : callable Tryz.prog 39 = true := by kernel_rfl
theorem cb_49 : callable Tryz.prog 49 = true := by kernel_rfl
theorem cb_54 : callable Tryz.prog 54 = true := by kernel_rfl
theorem cb_55 : callable Tryz.prog 55 = true := by kernel_rfl
theorem cb_61 : callable Tryz.prog 61 = true := by kernel_rfl
theorem cb_62 : callable Tryz.prog 62 = true := by kernel_rfl
theorem cb_63 : callable Tryz.prog 63 = true := by kernel_rfl
theorem cb_65 : callable Tryz.prog 65 = true := by kernel_rfl
theorem cb_66 : callable Tryz.prog 66 = true := by kernel_rfl
theorem cb_71 : callable Tryz.prog 71 = true := by kernel_rfl
theorem cb_73 : callable Tryz.prog 73 = true := by kernel_rfl
theorem cb_74 : callable Tryz.prog 74 = true := by kernel_rfl
theorem cb_75 : callable Tryz.prog 75 = true := by kernel_rfl
theorem cb_76 : callable Tryz.prog 76 = true := by kernel_rfl
theorem cb_77 : callable Tryz.prog 77 = true := by kernel_rfl
theorem cb_78 : callable Tryz.prog 78 = true := by kernel_rfl
theorem cb_80 : callable Tryz.prog 80 = true := by kernel_rfl
theorem cb_81 : callable Tryz.prog 81 = true := by kernel_rfl
theorem cb_82 : callable Tryz.prog 82 = true := by kernel_rfl
theorem cb_83 : callable Tryz.prog 83 = true := by kernel_rfl
theorem cb_85 : callable Tryz.prog 85 = true := by kernel_rfl
theorem cb_86 : callable Tryz.prog 86 = true := by kernel_rfl
theorem cb_87 : callable Tryz.prog 87 = true := by kernel_rfl
theorem cb_88 : callable Tryz.prog 88 = true := by kernel_rfl
theorem cb_93 : callable Tryz.prog 93 = true := by kernel_rfl
theorem cb_94 : callable Tryz.prog 94 = true := by kernel_rfl

end Go.Proofs.YtmfogoehocjedaaGreatDoor
