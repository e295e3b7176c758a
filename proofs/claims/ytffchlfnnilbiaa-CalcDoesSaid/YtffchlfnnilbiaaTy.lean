/- Facts on the types of this translation, as the logical layer asks them. -/
import Derived.Test.YtffchlfnnilbiaaProg
import Derived.Test.YtffchlfnnilbiaaLc
import Derived.KernelRfl
namespace Go.Proofs.Ytffchlfnnilbiaa.Ty
open Go.Lw
@[go_sem] theorem call_10 : callable Try.prog 10 = true := by kernel_rfl
@[go_sem] theorem call_11 : callable Try.prog 11 = true := by kernel_rfl
@[go_sem] theorem call_12 : callable Try.prog 12 = true := by kernel_rfl
@[go_sem] theorem call_13 : callable Try.prog 13 = true := by kernel_rfl
@[go_sem] theorem call_14 : callable Try.prog 14 = true := by kernel_rfl
@[go_sem] theorem call_15 : callable Try.prog 15 = true := by kernel_rfl
@[go_sem] theorem call_16 : callable Try.prog 16 = true := by kernel_rfl
@[go_sem] theorem call_17 : callable Try.prog 17 = true := by kernel_rfl
@[go_sem] theorem call_18 : callable Try.prog 18 = true := by kernel_rfl
@[go_sem] theorem call_19 : callable Try.prog 19 = true := by kernel_rfl
@[go_sem] theorem call_20 : callable Try.prog 20 = true := by kernel_rfl
@[go_sem] theorem call_21 : callable Try.prog 21 = true := by kernel_rfl
@[go_sem] theorem call_22 : callable Try.prog 22 = true := by kernel_rfl
@[go_sem] theorem call_23 : callable Try.prog 23 = true := by kernel_rfl
@[go_sem] theorem call_24 : callable Try.prog 24 = true := by kernel_rfl
@[go_sem] theorem call_25 : callable Try.prog 25 = true := by kernel_rfl
@[go_sem] theorem call_26 : callable Try.prog 26 = true := by kernel_rfl
@[go_sem] theorem call_27 : callable Try.prog 27 = true := by kernel_rfl
@[go_sem] theorem call_28 : callable Try.prog 28 = true := by kernel_rfl
@[go_sem] theorem call_29 : callable Try.prog 29 = true := by kernel_rfl
@[go_sem] theorem call_3 : callable Try.prog 3 = true := by kernel_rfl
@[go_sem] theorem call_30 : callable Try.prog 30 = true := by kernel_rfl
@[go_sem] theorem call_31 : callable Try.prog 31 = true := by kernel_rfl
@[go_sem] theorem call_32 : callable Try.prog 32 = true := by kernel_rfl
@[go_sem] theorem call_33 : callable Try.prog 33 = true := by kernel_rfl
@[go_sem] theorem call_34 : callable Try.prog 34 = true := by kernel_rfl
@[go_sem] theorem call_35 : callable Try.prog 35 = true := by kernel_rfl
@[go_sem] theorem call_36 : callable Try.prog 36 = true := by kernel_rfl
@[go_sem] theorem call_37 : callable Try.prog 37 = true := by kernel_rfl
@[go_sem] theorem call_38 : callable Try.prog 38 = true := by kernel_rfl
@[go_sem] theorem call_39 : callable Try.prog 39 = true := by kernel_rfl
@[go_sem] theorem call_4 : callable Try.prog 4 = true := by kernel_rfl
@[go_sem] theorem call_40 : callable Try.prog 40 = true := by kernel_rfl
@[go_sem] theorem call_41 : callable Try.prog 41 = true := by kernel_rfl
@[go_sem] theorem call_42 : callable Try.prog 42 = true := by kernel_rfl
@[go_sem] theorem call_5 : callable Try.prog 5 = true := by kernel_rfl
@[go_sem] theorem call_6 : callable Try.prog 6 = true := by kernel_rfl
@[go_sem] theorem call_7 : callable Try.prog 7 = true := by kernel_rfl
@[go_sem] theorem call_8 : callable Try.prog 8 = true := by kernel_rfl
@[go_sem] theorem call_9 : callable Try.prog 9 = true := by kernel_rfl
theorem mixed : Try.prog.follows .mixedOrders = true := by kernel_rfl
@[go_sem] theorem tagg_23 : tagg Try.prog 23 = some false := by kernel_rfl
@[go_sem] theorem tagg_3 : tagg Try.prog 3 = some false := by kernel_rfl
@[go_sem] theorem tagg_35 : tagg Try.prog 35 = some false := by kernel_rfl
@[go_sem] theorem tagg_37 : tagg Try.prog 37 = some true := by kernel_rfl
@[go_sem] theorem tagg_4 : tagg Try.prog 4 = some false := by kernel_rfl
@[go_sem] theorem tagg_42 : tagg Try.prog 42 = some true := by kernel_rfl
@[go_sem] theorem tagg_44 : tagg Try.prog 44 = some true := by kernel_rfl
@[go_sem] theorem tagg_60 : tagg Try.prog 60 = some false := by kernel_rfl
@[go_sem] theorem tarr_40 : tarr Try.prog 40 = some (4, 23) := by kernel_rfl
@[go_sem] theorem tarr_42 : tarr Try.prog 42 = some (16, 35) := by kernel_rfl
@[go_sem] theorem tarr_9 : tarr Try.prog 9 = none := by kernel_rfl
@[go_sem] theorem tbool_4 : (Try.prog.underlying 4).map isBoolD = some true := by kernel_rfl
@[go_sem] theorem tbytes_3 : tbytes Try.prog 3 = some 8 := by kernel_rfl
@[go_sem] theorem telem_40 : telem Try.prog 40 = none := by kernel_rfl
@[go_sem] theorem telem_42 : telem Try.prog 42 = none := by kernel_rfl
@[go_sem] theorem telem_63 : telem Try.prog 63 = some 3 := by kernel_rfl
@[go_sem] theorem telem_9 : telem Try.prog 9 = none := by kernel_rfl
@[go_sem] theorem teq_37 : teq Try.prog 37 = some [(0, .bool), (1, .int .u64), (2, .int .u64)] := by kernel_rfl
@[go_sem] theorem tfield_37_0 : tfield Try.prog 37 0 = some (0, 4) := by kernel_rfl
@[go_sem] theorem tfield_37_1 : tfield Try.prog 37 1 = some (1, 35) := by kernel_rfl
@[go_sem] theorem tfield_37_2 : tfield Try.prog 37 2 = some (2, 35) := by kernel_rfl
@[go_sem] theorem tfield_44_0 : tfield Try.prog 44 0 = some (0, 4) := by kernel_rfl
@[go_sem] theorem tfield_44_1 : tfield Try.prog 44 1 = some (1, 42) := by kernel_rfl
@[go_sem] theorem tint_2 : tint Try.prog 2 = some .i64 := by kernel_rfl
@[go_sem] theorem tint_3 : tint Try.prog 3 = some .i64 := by kernel_rfl
@[go_sem] theorem tint_35 : tint Try.prog 35 = some .u64 := by kernel_rfl
@[go_sem] theorem tint_5 : tint Try.prog 5 = some .u8 := by kernel_rfl
@[go_sem] theorem tint_61 : tint Try.prog 61 = some .u64 := by kernel_rfl
@[go_sem] theorem tplaces_37 : tplaces Try.prog 37 = some [(0, 1), (1, 1), (2, 1)] := by kernel_rfl
@[go_sem] theorem tplaces_40 : tplaces Try.prog 40 = some [(0, 1), (1, 1), (2, 1), (3, 1)] := by kernel_rfl
@[go_sem] theorem tplaces_42 : tplaces Try.prog 42 = some [(0, 1), (1, 1), (2, 1), (3, 1), (4, 1), (5, 1), (6, 1), (7, 1), (8, 1), (9, 1), (10, 1), (11, 1), (12, 1), (13, 1), (14, 1), (15, 1)] := by kernel_rfl
@[go_sem] theorem tplaces_44 : tplaces Try.prog 44 = some [(0, 1), (1, 16)] := by kernel_rfl
@[go_sem] theorem tsize_23 : tsize Try.prog 23 = some 1 := by kernel_rfl
@[go_sem] theorem tsize_3 : tsize Try.prog 3 = some 1 := by kernel_rfl
@[go_sem] theorem tsize_35 : tsize Try.prog 35 = some 1 := by kernel_rfl
@[go_sem] theorem tsize_37 : tsize Try.prog 37 = some 3 := by kernel_rfl
@[go_sem] theorem tsize_4 : tsize Try.prog 4 = some 1 := by kernel_rfl
@[go_sem] theorem tsize_42 : tsize Try.prog 42 = some 16 := by kernel_rfl
@[go_sem] theorem tsize_44 : tsize Try.prog 44 = some 17 := by kernel_rfl
@[go_sem] theorem tsize_60 : tsize Try.prog 60 = some 1 := by kernel_rfl
@[go_sem] theorem tsome_2 : (Try.prog.underlying 2).isSome = true := by kernel_rfl
@[go_sem] theorem tsome_3 : (Try.prog.underlying 3).isSome = true := by kernel_rfl
@[go_sem] theorem tsome_35 : (Try.prog.underlying 35).isSome = true := by kernel_rfl
@[go_sem] theorem tsome_5 : (Try.prog.underlying 5).isSome = true := by kernel_rfl
@[go_sem] theorem tzero_3 : tzero Try.prog 3 = some (.int .i64 0) := by kernel_rfl
@[go_sem] theorem tzero_37 : tzero Try.prog 37 = some (.agg #[.bool false, .int .u64 0, .int .u64 0]) := by kernel_rfl
@[go_sem] theorem tzero_40 : tzero Try.prog 40 = some (.agg #[.int .i64 0, .int .i64 0, .int .i64 0, .int .i64 0]) := by kernel_rfl
@[go_sem] theorem tzero_42 : tzero Try.prog 42 = some (.agg #[.int .u64 0, .int .u64 0, .int .u64 0, .int .u64 0, .int .u64 0, .int .u64 0, .int .u64 0, .int .u64 0, .int .u64 0, .int .u64 0, .int .u64 0, .int .u64 0, .int .u64 0, .int .u64 0, .int .u64 0, .int .u64 0]) := by kernel_rfl
@[go_sem] theorem tzero_44 : tzero Try.prog 44 = some (.agg #[.bool false, .int .u64 0, .int .u64 0, .int .u64 0, .int .u64 0, .int .u64 0, .int .u64 0, .int .u64 0, .int .u64 0, .int .u64 0, .int .u64 0, .int .u64 0, .int .u64 0, .int .u64 0, .int .u64 0, .int .u64 0, .int .u64 0]) := by kernel_rfl
end Go.Proofs.Ytffchlfnnilbiaa.Ty
