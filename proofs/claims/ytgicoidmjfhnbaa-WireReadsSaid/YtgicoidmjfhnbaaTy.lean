/- Facts on the types and functions of this seat's program, each computed. Printed by wl.py of this repo. -/
import Derived.Test.YtgicoidmjfhnbaaProg
import Derived.Test.YtgicoidmjfhnbaaFn
import Derived.KernelRfl
namespace Go.Proofs.Ytgicoidmjfhnbaa
open Go.RowKit

theorem mixed : Try.prog.follows .mixedOrders = true := by kernel_rfl
theorem ti_3 : tinfo Try.prog 3 = some ((some (.int .i64 0)), 1, 8) := by kernel_rfl
theorem ti_5 : tinfo Try.prog 5 = some ((some (.int .u8 0)), 1, 1) := by kernel_rfl
theorem ti_23 : tinfo Try.prog 23 = some ((some (.slice none 0 0)), 1, 24) := by kernel_rfl
theorem ti_31 : tinfo Try.prog 31 = some ((some (.int .i64 0)), 1, 8) := by kernel_rfl
theorem ti_42 : tinfo Try.prog 42 = some ((some (.agg #[(.string (ByteArray.mk #[])), (.int .i64 0)])), 2, 24) := by kernel_rfl
theorem ti_44 : tinfo Try.prog 44 = some ((some (.agg #[(.int .i64 0), (.int .i64 0)])), 2, 16) := by kernel_rfl
theorem sc_3 : scalarT Try.prog 3 = true := by kernel_rfl
theorem sc_5 : scalarT Try.prog 5 = true := by kernel_rfl
theorem sc_9 : scalarT Try.prog 9 = true := by kernel_rfl
theorem sc_23 : scalarT Try.prog 23 = true := by kernel_rfl
theorem sc_31 : scalarT Try.prog 31 = true := by kernel_rfl
theorem st_42 : structT Try.prog 42 2 = true := by kernel_rfl
theorem st_44 : structT Try.prog 44 2 = true := by kernel_rfl
theorem fo_42_0 : fieldOff Try.prog 42 0 = some 0 := by kernel_rfl
theorem fo_42_1 : fieldOff Try.prog 42 1 = some 1 := by kernel_rfl
theorem fo_44_0 : fieldOff Try.prog 44 0 = some 0 := by kernel_rfl
theorem fo_44_1 : fieldOff Try.prog 44 1 = some 1 := by kernel_rfl
theorem fo_57_0 : fieldOff Try.prog 57 0 = some 0 := by kernel_rfl
theorem fo_57_1 : fieldOff Try.prog 57 1 = some 1 := by kernel_rfl
theorem bi_42_0 : buildInfo Try.prog 42 [0] = some ([(.string (ByteArray.mk #[])), (.int .i64 0)], [0]) := by kernel_rfl
theorem bi_42_0_1 : buildInfo Try.prog 42 [0, 1] = some ([(.string (ByteArray.mk #[])), (.int .i64 0)], [0, 1]) := by kernel_rfl
theorem bi_57_0 : buildInfo Try.prog 57 [0] = some ([(.slice none 0 0), (.int .i64 0)], [0]) := by kernel_rfl
theorem cb_10 : callable Try.prog 10 = true := by kernel_rfl
theorem cb_11 : callable Try.prog 11 = true := by kernel_rfl
theorem cb_12 : callable Try.prog 12 = true := by kernel_rfl
theorem cb_13 : callable Try.prog 13 = true := by kernel_rfl
theorem cb_14 : callable Try.prog 14 = true := by kernel_rfl
theorem cb_15 : callable Try.prog 15 = true := by kernel_rfl
theorem cb_16 : callable Try.prog 16 = true := by kernel_rfl
theorem cb_17 : callable Try.prog 17 = true := by kernel_rfl
theorem cb_18 : callable Try.prog 18 = true := by kernel_rfl
theorem cb_19 : callable Try.prog 19 = true := by kernel_rfl
theorem cb_20 : callable Try.prog 20 = true := by kernel_rfl
theorem cb_21 : callable Try.prog 21 = true := by kernel_rfl
theorem cb_22 : callable Try.prog 22 = true := by kernel_rfl
theorem cb_23 : callable Try.prog 23 = true := by kernel_rfl
theorem cb_24 : callable Try.prog 24 = true := by kernel_rfl
theorem cb_25 : callable Try.prog 25 = true := by kernel_rfl
theorem cb_26 : callable Try.prog 26 = true := by kernel_rfl
theorem cb_27 : callable Try.prog 27 = true := by kernel_rfl
theorem cb_28 : callable Try.prog 28 = true := by kernel_rfl
theorem cb_29 : callable Try.prog 29 = true := by kernel_rfl
theorem cb_30 : callable Try.prog 30 = true := by kernel_rfl
theorem cb_31 : callable Try.prog 31 = true := by kernel_rfl
theorem cb_32 : callable Try.prog 32 = true := by kernel_rfl
theorem cb_33 : callable Try.prog 33 = true := by kernel_rfl
theorem cb_34 : callable Try.prog 34 = true := by kernel_rfl
theorem cb_35 : callable Try.prog 35 = true := by kernel_rfl

end Go.Proofs.Ytgicoidmjfhnbaa
