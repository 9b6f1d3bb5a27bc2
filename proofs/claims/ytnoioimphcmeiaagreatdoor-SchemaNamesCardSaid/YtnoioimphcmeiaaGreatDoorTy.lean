/- Facts on the types and functions of this seat's program, each computed. Printed by wl.py of this repo. -/
import Derived.Test.YtnoioimphcmeiaaGreatDoorProg
import Derived.Test.YtnoioimphcmeiaaGreatDoorFn
import Derived.KernelRfl
namespace Go.Proofs.YtnoioimphcmeiaaGreatDoor
open Go.RowKit

theorem mixed : Tryz.prog.follows .mixedOrders = true := by kernel_rfl
theorem ti_3 : tinfo Tryz.prog 3 = some ((some (.int .i64 0)), 1, 8) := by kernel_rfl
theorem ti_4 : tinfo Tryz.prog 4 = some ((some (.bool false)), 1, 1) := by kernel_rfl
theorem ti_5 : tinfo Tryz.prog 5 = some ((some (.int .u8 0)), 1, 1) := by kernel_rfl
theorem ti_9 : tinfo Tryz.prog 9 = some ((some (.string (ByteArray.mk #[]))), 1, 16) := by kernel_rfl
theorem ti_25 : tinfo Tryz.prog 25 = some ((some (.slice none 0 0)), 1, 24) := by kernel_rfl
theorem ti_27 : tinfo Tryz.prog 27 = some ((some (.agg #[(.string (ByteArray.mk #[])), (.slice none 0 0), (.int .i64 0), (.int .i64 0), (.int .i64 0)])), 5, 64) := by kernel_rfl
theorem ti_28 : tinfo Tryz.prog 28 = some ((some (.slice none 0 0)), 1, 24) := by kernel_rfl
theorem ti_30 : tinfo Tryz.prog 30 = some ((some (.agg #[(.string (ByteArray.mk #[])), (.string (ByteArray.mk #[])), (.slice none 0 0), (.int .i64 0), (.int .i64 0), (.int .i64 0)])), 6, 80) := by kernel_rfl
theorem ti_34 : tinfo Tryz.prog 34 = some ((some (.slice none 0 0)), 1, 24) := by kernel_rfl
theorem ti_35 : tinfo Tryz.prog 35 = some ((some (.slice none 0 0)), 1, 24) := by kernel_rfl
theorem ti_37 : tinfo Tryz.prog 37 = some ((some (.agg #[(.slice none 0 0), (.slice none 0 0)])), 2, 48) := by kernel_rfl
theorem ti_43 : tinfo Tryz.prog 43 = some ((some (.agg #[(.string (ByteArray.mk #[])), (.int .i64 0), (.bool false)])), 3, 32) := by kernel_rfl
theorem ti_56 : tinfo Tryz.prog 56 = some ((some (.slice none 0 0)), 1, 24) := by kernel_rfl
theorem ti_71 : tinfo Tryz.prog 71 = some ((some (.agg #[(.int .i64 0), (.string (ByteArray.mk #[])), (.int .i64 0)])), 3, 32) := by kernel_rfl
theorem ti_131 : tinfo Tryz.prog 131 = some ((some (.int .u64 0)), 1, 8) := by kernel_rfl
theorem ti_166 : tinfo Tryz.prog 166 = some ((some (.float .f64 0)), 1, 8) := by kernel_rfl
theorem ti_171 : tinfo Tryz.prog 171 = some ((some (.pointer none)), 1, 8) := by kernel_rfl
theorem ti_173 : tinfo Tryz.prog 173 = some ((some (.agg #[(.pointer none), (.slice none 0 0)])), 2, 32) := by kernel_rfl
theorem ti_234 : tinfo Tryz.prog 234 = some ((some (.agg #[(.int .u64 0), (.int .u64 0), (.int .i64 0)])), 3, 24) := by kernel_rfl
theorem ti_248 : tinfo Tryz.prog 248 = some ((some (.agg #[(.int .u64 0), (.int .u64 0)])), 2, 16) := by kernel_rfl
theorem ti_259 : tinfo Tryz.prog 259 = some ((some (.agg #[(.int .i64 0), (.string (ByteArray.mk #[]))])), 2, 24) := by kernel_rfl
theorem sc_2 : scalarT Tryz.prog 2 = true := by kernel_rfl
theorem sc_3 : scalarT Tryz.prog 3 = true := by kernel_rfl
theorem sc_4 : scalarT Tryz.prog 4 = true := by kernel_rfl
theorem sc_5 : scalarT Tryz.prog 5 = true := by kernel_rfl
theorem sc_9 : scalarT Tryz.prog 9 = true := by kernel_rfl
theorem sc_25 : scalarT Tryz.prog 25 = true := by kernel_rfl
theorem sc_28 : scalarT Tryz.prog 28 = true := by kernel_rfl
theorem sc_34 : scalarT Tryz.prog 34 = true := by kernel_rfl
theorem sc_35 : scalarT Tryz.prog 35 = true := by kernel_rfl
theorem sc_56 : scalarT Tryz.prog 56 = true := by kernel_rfl
theorem sc_74 : scalarT Tryz.prog 74 = true := by kernel_rfl
theorem sc_131 : scalarT Tryz.prog 131 = true := by kernel_rfl
theorem sc_166 : scalarT Tryz.prog 166 = true := by kernel_rfl
theorem sc_171 : scalarT Tryz.prog 171 = true := by kernel_rfl
theorem sc_244 : scalarT Tryz.prog 244 = true := by kernel_rfl
theorem sc_260 : scalarT Tryz.prog 260 = true := by kernel_rfl
theorem st_27 : structT Tryz.prog 27 5 = true := by kernel_rfl
theorem st_30 : structT Tryz.prog 30 6 = true := by kernel_rfl
theorem st_37 : structT Tryz.prog 37 2 = true := by kernel_rfl
theorem st_43 : structT Tryz.prog 43 3 = true := by kernel_rfl
theorem st_71 : structT Tryz.prog 71 3 = true := by kernel_rfl
theorem fo_27_0 : fieldOff Tryz.prog 27 0 = some 0 := by kernel_rfl
theorem fo_27_1 : fieldOff Tryz.prog 27 1 = some 1 := by kernel_rfl
theorem fo_27_2 : fieldOff Tryz.prog 27 2 = some 2 := by kernel_rfl
theorem fo_27_3 : fieldOff Tryz.prog 27 3 = some 3 := by kernel_rfl
theorem fo_27_4 : fieldOff Tryz.prog 27 4 = some 4 := by kernel_rfl
theorem fo_30_0 : fieldOff Tryz.prog 30 0 = some 0 := by kernel_rfl
theorem fo_30_2 : fieldOff Tryz.prog 30 2 = some 2 := by kernel_rfl
theorem fo_37_0 : fieldOff Tryz.prog 37 0 = some 0 := by kernel_rfl
theorem fo_37_1 : fieldOff Tryz.prog 37 1 = some 1 := by kernel_rfl
theorem fo_43_0 : fieldOff Tryz.prog 43 0 = some 0 := by kernel_rfl
theorem fo_43_1 : fieldOff Tryz.prog 43 1 = some 1 := by kernel_rfl
theorem fo_71_0 : fieldOff Tryz.prog 71 0 = some 0 := by kernel_rfl
theorem fo_71_1 : fieldOff Tryz.prog 71 1 = some 1 := by kernel_rfl
theorem fo_71_2 : fieldOff Tryz.prog 71 2 = some 2 := by kernel_rfl
theorem fo_173_0 : fieldOff Tryz.prog 173 0 = some 0 := by kernel_rfl
theorem fo_173_1 : fieldOff Tryz.prog 173 1 = some 1 := by kernel_rfl
theorem fo_208_0 : fieldOff Tryz.prog 208 0 = some 0 := by kernel_rfl
theorem fo_208_1 : fieldOff Tryz.prog 208 1 = some 1 := by kernel_rfl
theorem fo_208_2 : fieldOff Tryz.prog 208 2 = some 2 := by kernel_rfl
theorem fo_217_0 : fieldOff Tryz.prog 217 0 = some 0 := by kernel_rfl
theorem fo_217_1 : fieldOff Tryz.prog 217 1 = some 800 := by kernel_rfl
theorem fo_217_2 : fieldOff Tryz.prog 217 2 = some 801 := by kernel_rfl
theorem fo_217_3 : fieldOff Tryz.prog 217 3 = some 802 := by kernel_rfl
theorem fo_217_4 : fieldOff Tryz.prog 217 4 = some 803 := by kernel_rfl
theorem fo_234_0 : fieldOff Tryz.prog 234 0 = some 0 := by kernel_rfl
theorem fo_234_1 : fieldOff Tryz.prog 234 1 = some 1 := by kernel_rfl
theorem fo_234_2 : fieldOff Tryz.prog 234 2 = some 2 := by kernel_rfl
theorem fo_248_0 : fieldOff Tryz.prog 248 0 = some 0 := by kernel_rfl
theorem fo_248_1 : fieldOff Tryz.prog 248 1 = some 1 := by kernel_rfl
theorem fo_259_0 : fieldOff Tryz.prog 259 0 = some 0 := by kernel_rfl
theorem fo_259_1 : fieldOff Tryz.prog 259 1 = some 1 := by kernel_rfl
theorem bi_27_0_1_2_3 : buildInfo Tryz.prog 27 [0, 1, 2, 3] = some ([(.string (ByteArray.mk #[])), (.slice none 0 0), (.int .i64 0), (.int .i64 0), (.int .i64 0)], [0, 1, 2, 3]) := by kernel_rfl
theorem bi_27_1 : buildInfo Tryz.prog 27 [1] = some ([(.string (ByteArray.mk #[])), (.slice none 0 0), (.int .i64 0), (.int .i64 0), (.int .i64 0)], [1]) := by kernel_rfl
theorem bi_37 : buildInfo Tryz.prog 37 [] = some ([(.slice none 0 0), (.slice none 0 0)], []) := by kernel_rfl
theorem bi_43_0_1 : buildInfo Tryz.prog 43 [0, 1] = some ([(.string (ByteArray.mk #[])), (.int .i64 0), (.bool false)], [0, 1]) := by kernel_rfl
theorem bi_71 : buildInfo Tryz.prog 71 [] = some ([(.int .i64 0), (.string (ByteArray.mk #[])), (.int .i64 0)], []) := by kernel_rfl
theorem bi_71_0_1 : buildInfo Tryz.prog 71 [0, 1] = some ([(.int .i64 0), (.string (ByteArray.mk #[])), (.int .i64 0)], [0, 1]) := by kernel_rfl
theorem bi_71_0_2 : buildInfo Tryz.prog 71 [0, 2] = some ([(.int .i64 0), (.string (ByteArray.mk #[])), (.int .i64 0)], [0, 2]) := by kernel_rfl
theorem bi_71_2 : buildInfo Tryz.prog 71 [2] = some ([(.int .i64 0), (.string (ByteArray.mk #[])), (.int .i64 0)], [2]) := by kernel_rfl
theorem cb_8 : callable Tryz.prog 8 = true := by kernel_rfl
theorem cb_9 : callable Tryz.prog 9 = true := by kernel_rfl
theorem cb_10 : callable Tryz.prog 10 = true := by kernel_rfl
theorem cb_13 : callable Tryz.prog 13 = true := by kernel_rfl
theorem cb_15 : callable Tryz.prog 15 = true := by kernel_rfl
theorem cb_22 : callable Tryz.prog 22 = true := by kernel_rfl
theorem cb_23 : callable Tryz.prog 23 = true := by kernel_rfl
theorem cb_30 : callable Tryz.prog 30 = true := by kernel_rfl
theorem cb_31 : callable Tryz.prog 31 = true := by kernel_rfl
theorem cb_32 : callable Tryz.prog 32 = true := by kernel_rfl
theorem cb_40 : callable Tryz.prog 40 = true := by kernel_rfl
theorem cb_41 : callable Tryz.prog 41 = true := by kernel_rfl
theorem cb_42 : callable Tryz.prog 42 = true := by kernel_rfl
theorem cb_43 : callable Tryz.prog 43 = true := by kernel_rfl
theorem cb_44 : callable Tryz.prog 44 = true := by kernel_rfl
theorem cb_45 : callable Tryz.prog 45 = true := by kernel_rfl
theorem cb_47 : callable Tryz.prog 47 = true := by kernel_rfl
theorem cb_48 : callable Tryz.prog 48 = true := by kernel_rfl
theorem cb_49 : callable Tryz.prog 49 = true := by kernel_rfl
theorem cb_50 : callable Tryz.prog 50 = true := by kernel_rfl
theorem cb_59 : callable Tryz.prog 59 = true := by kernel_rfl
theorem cb_60 : callable Tryz.prog 60 = true := by kernel_rfl
theorem cb_61 : callable Tryz.prog 61 = true := by kernel_rfl
theorem cb_62 : callable Tryz.prog 62 = true := by kernel_rfl
theorem cb_63 : callable Tryz.prog 63 = true := by kernel_rfl
theorem cb_64 : callable Tryz.prog 64 = true := by kernel_rfl
theorem cb_65 : callable Tryz.prog 65 = true := by kernel_rfl
theorem cb_66 : callable Tryz.prog 66 = true := by kernel_rfl
theorem cb_69 : callable Tryz.prog 69 = true := by kernel_rfl
theorem cb_75 : callable Tryz.prog 75 = true := by kernel_rfl
theorem cb_76 : callable Tryz.prog 76 = true := by kernel_rfl
theorem cb_98 : callable Tryz.prog 98 = true := by kernel_rfl
theorem cb_99 : callable Tryz.prog 99 = true := by kernel_rfl
theorem cb_100 : callable Tryz.prog 100 = true := by kernel_rfl
theorem cb_101 : callable Tryz.prog 101 = true := by kernel_rfl
theorem cb_102 : callable Tryz.prog 102 = true := by kernel_rfl
theorem cb_103 : callable Tryz.prog 103 = true := by kernel_rfl
theorem cb_104 : callable Tryz.prog 104 = true := by kernel_rfl
theorem cb_105 : callable Tryz.prog 105 = true := by kernel_rfl
theorem cb_106 : callable Tryz.prog 106 = true := by kernel_rfl
theorem cb_107 : callable Tryz.prog 107 = true := by kernel_rfl
theorem cb_108 : callable Tryz.prog 108 = true := by kernel_rfl
theorem cb_109 : callable Tryz.prog 109 = true := by kernel_rfl
theorem cb_110 : callable Tryz.prog 110 = true := by kernel_rfl
theorem cb_111 : callable Tryz.prog 111 = true := by kernel_rfl
theorem cb_117 : callable Tryz.prog 117 = true := by kernel_rfl
theorem cb_119 : callable Tryz.prog 119 = true := by kernel_rfl
theorem cb_120 : callable Tryz.prog 120 = true := by kernel_rfl
theorem cb_121 : callable Tryz.prog 121 = true := by kernel_rfl
theorem cb_122 : callable Tryz.prog 122 = true := by kernel_rfl
theorem cb_123 : callable Tryz.prog 123 = true := by kernel_rfl
theorem cb_126 : callable Tryz.prog 126 = true := by kernel_rfl
theorem cb_127 : callable Tryz.prog 127 = true := by kernel_rfl
theorem cb_128 : callable Tryz.prog 128 = true := by kernel_rfl
theorem cb_134 : callable Tryz.prog 134 = true := by kernel_rfl
theorem cb_135 : callable Tryz.prog 135 = true := by kernel_rfl
theorem cb_136 : callable Tryz.prog 136 = true := by kernel_rfl
theorem cb_141 : callable Tryz.prog 141 = true := by kernel_rfl
theorem cb_152 : callable Tryz.prog 152 = true := by kernel_rfl
theorem cb_157 : callable Tryz.prog 157 = true := by kernel_rfl
theorem cb_158 : callable Tryz.prog 158 = true := by kernel_rfl
theorem cb_164 : callable Tryz.prog 164 = true := by kernel_rfl
theorem cb_165 : callable Tryz.prog 165 = true := by kernel_rfl
theorem cb_166 : callable Tryz.prog 166 = true := by kernel_rfl
theorem cb_168 : callable Tryz.prog 168 = true := by kernel_rfl
theorem cb_169 : callable Tryz.prog 169 = true := by kernel_rfl
theorem cb_174 : callable Tryz.prog 174 = true := by kernel_rfl
theorem cb_176 : callable Tryz.prog 176 = true := by kernel_rfl
theorem cb_177 : callable Tryz.prog 177 = true := by kernel_rfl
theorem cb_178 : callable Tryz.prog 178 = true := by kernel_rfl
theorem cb_179 : callable Tryz.prog 179 = true := by kernel_rfl
theorem cb_180 : callable Tryz.prog 180 = true := by kernel_rfl
theorem cb_181 : callable Tryz.prog 181 = true := by kernel_rfl
theorem cb_183 : callable Tryz.prog 183 = true := by kernel_rfl
theorem cb_184 : callable Tryz.prog 184 = true := by kernel_rfl
theorem cb_185 : callable Tryz.prog 185 = true := by kernel_rfl
theorem cb_186 : callable Tryz.prog 186 = true := by kernel_rfl
theorem cb_188 : callable Tryz.prog 188 = true := by kernel_rfl
theorem cb_189 : callable Tryz.prog 189 = true := by kernel_rfl
theorem cb_190 : callable Tryz.prog 190 = true := by kernel_rfl
theorem cb_191 : callable Tryz.prog 191 = true := by kernel_rfl
theorem cb_196 : callable Tryz.prog 196 = true := by kernel_rfl
theorem cb_197 : callable Tryz.prog 197 = true := by kernel_rfl

end Go.Proofs.YtnoioimphcmeiaaGreatDoor
