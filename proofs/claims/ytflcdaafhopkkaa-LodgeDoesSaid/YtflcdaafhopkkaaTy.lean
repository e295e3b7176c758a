/- Facts on the types of this translation, as the logical layer asks them. -/
import Derived.Test.YtflcdaafhopkkaaProg
import Derived.Test.YtflcdaafhopkkaaLc
import Derived.KernelRfl
namespace Go.Proofs.Ytflcdaafhopkkaa.Ty
open Go.Lw
@[go_sem] theorem call_10 : callable Try.prog 10 = true := by kernel_rfl
@[go_sem] theorem call_11 : callable Try.prog 11 = true := by kernel_rfl
@[go_sem] theorem call_12 : callable Try.prog 12 = true := by kernel_rfl
@[go_sem] theorem call_13 : callable Try.prog 13 = true := by kernel_rfl
@[go_sem] theorem call_14 : callable Try.prog 14 = true := by kernel_rfl
@[go_sem] theorem call_15 : callable Try.prog 15 = true := by kernel_rfl
@[go_sem] theorem call_16 : callable Try.prog 16 = true := by kernel_rfl
@[go_sem] theorem call_17 : callable Try.prog 17 = true := by kernel_rfl
@[go_sem] theorem call_18 : callable Try.prog 18 = true := by kernel_rfl
@[go_sem] theorem call_19 : callable Try.prog 19 = true := by kernel_rfl
@[go_sem] theorem call_20 : callable Try.prog 20 = true := by kernel_rfl
@[go_sem] theorem call_21 : callable Try.prog 21 = true := by kernel_rfl
@[go_sem] theorem call_22 : callable Try.prog 22 = true := by kernel_rfl
@[go_sem] theorem call_23 : callable Try.prog 23 = true := by kernel_rfl
@[go_sem] theorem call_24 : callable Try.prog 24 = true := by kernel_rfl
@[go_sem] theorem call_25 : callable Try.prog 25 = true := by kernel_rfl
@[go_sem] theorem call_26 : callable Try.prog 26 = true := by kernel_rfl
@[go_sem] theorem call_27 : callable Try.prog 27 = true := by kernel_rfl
@[go_sem] theorem call_28 : callable Try.prog 28 = true := by kernel_rfl
@[go_sem] theorem call_29 : callable Try.prog 29 = true := by kernel_rfl
@[go_sem] theorem call_3 : callable Try.prog 3 = true := by kernel_rfl
@[go_sem] theorem call_30 : callable Try.prog 30 = true := by kernel_rfl
@[go_sem] theorem call_31 : callable Try.prog 31 = true := by kernel_rfl
@[go_sem] theorem call_32 : callable Try.prog 32 = true := by kernel_rfl
@[go_sem] theorem call_33 : callable Try.prog 33 = true := by kernel_rfl
@[go_sem] theorem call_34 : callable Try.prog 34 = true := by kernel_rfl
@[go_sem] theorem call_4 : callable Try.prog 4 = true := by kernel_rfl
@[go_sem] theorem call_5 : callable Try.prog 5 = true := by kernel_rfl
@[go_sem] theorem call_6 : callable Try.prog 6 = true := by kernel_rfl
@[go_sem] theorem call_7 : callable Try.prog 7 = true := by kernel_rfl
@[go_sem] theorem call_8 : callable Try.prog 8 = true := by kernel_rfl
@[go_sem] theorem call_9 : callable Try.prog 9 = true := by kernel_rfl
theorem mixed : Try.prog.follows .mixedOrders = true := by kernel_rfl
@[go_sem] theorem tagg_2 : tagg Try.prog 2 = some false := by kernel_rfl
@[go_sem] theorem tagg_29 : tagg Try.prog 29 = some true := by kernel_rfl
@[go_sem] theorem tagg_3 : tagg Try.prog 3 = some false := by kernel_rfl
@[go_sem] theorem tbool_4 : (Try.prog.underlying 4).map isBoolD = some true := by kernel_rfl
@[go_sem] theorem tbytes_29 : tbytes Try.prog 29 = some 40 := by kernel_rfl
@[go_sem] theorem tbytes_3 : tbytes Try.prog 3 = some 8 := by kernel_rfl
@[go_sem] theorem telem_22 : telem Try.prog 22 = some 29 := by kernel_rfl
@[go_sem] theorem telem_35 : telem Try.prog 35 = some 3 := by kernel_rfl
@[go_sem] theorem teq_29 : teq Try.prog 29 = some [(0, .int .i64), (1, .int .i64), (2, .int .i64), (3, .int .i64), (4, .int .i64)] := by kernel_rfl
@[go_sem] theorem tfield_29_0 : tfield Try.prog 29 0 = some (0, 3) := by kernel_rfl
@[go_sem] theorem tfield_29_1 : tfield Try.prog 29 1 = some (1, 3) := by kernel_rfl
@[go_sem] theorem tfield_29_2 : tfield Try.prog 29 2 = some (2, 3) := by kernel_rfl
@[go_sem] theorem tfield_29_3 : tfield Try.prog 29 3 = some (3, 2) := by kernel_rfl
@[go_sem] theorem tfield_29_4 : tfield Try.prog 29 4 = some (4, 2) := by kernel_rfl
@[go_sem] theorem tplaces_29 : tplaces Try.prog 29 = some [(0, 1), (1, 1), (2, 1), (3, 1), (4, 1)] := by kernel_rfl
@[go_sem] theorem tsize_2 : tsize Try.prog 2 = some 1 := by kernel_rfl
@[go_sem] theorem tsize_29 : tsize Try.prog 29 = some 5 := by kernel_rfl
@[go_sem] theorem tsize_3 : tsize Try.prog 3 = some 1 := by kernel_rfl
@[go_sem] theorem tzero_29 : tzero Try.prog 29 = some (.agg #[.int .i64 0, .int .i64 0, .int .i64 0, .int .i64 0, .int .i64 0]) := by kernel_rfl
@[go_sem] theorem tzero_3 : tzero Try.prog 3 = some (.int .i64 0) := by kernel_rfl
end Go.Proofs.Ytflcdaafhopkkaa.Ty
