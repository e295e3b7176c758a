/- Facts on the types of this translation, as the logical layer asks them. -/
import Derived.Test.YtflfhgpcmocilaaProg
import Derived.Test.YtflfhgpcmocilaaLc
import Derived.KernelRfl
namespace Go.Proofs.Ytflfhgpcmocilaa.Ty
open Go.Lw
@[go_sem] theorem call_10 : callable Try.prog 10 = true := by kernel_rfl
@[go_sem] theorem call_11 : callable Try.prog 11 = true := by kernel_rfl
@[go_sem] theorem call_12 : callable Try.prog 12 = true := by kernel_rfl
@[go_sem] theorem call_13 : callable Try.prog 13 = true := by kernel_rfl
@[go_sem] theorem call_14 : callable Try.prog 14 = true := by kernel_rfl
@[go_sem] theorem call_15 : callable Try.prog 15 = true := by kernel_rfl
@[go_sem] theorem call_16 : callable Try.prog 16 = true := by kernel_rfl
@[go_sem] theorem call_17 : callable Try.prog 17 = true := by kernel_rfl
@[go_sem] theorem call_18 : callable Try.prog 18 = true := by kernel_rfl
@[go_sem] theorem call_19 : callable Try.prog 19 = true := by kernel_rfl
@[go_sem] theorem call_20 : callable Try.prog 20 = true := by kernel_rfl
@[go_sem] theorem call_21 : callable Try.prog 21 = true := by kernel_rfl
@[go_sem] theorem call_22 : callable Try.prog 22 = true := by kernel_rfl
@[go_sem] theorem call_23 : callable Try.prog 23 = true := by kernel_rfl
@[go_sem] theorem call_24 : callable Try.prog 24 = true := by kernel_rfl
@[go_sem] theorem call_25 : callable Try.prog 25 = true := by kernel_rfl
@[go_sem] theorem call_26 : callable Try.prog 26 = true := by kernel_rfl
@[go_sem] theorem call_27 : callable Try.prog 27 = true := by kernel_rfl
@[go_sem] theorem call_28 : callable Try.prog 28 = true := by kernel_rfl
@[go_sem] theorem call_29 : callable Try.prog 29 = true := by kernel_rfl
@[go_sem] theorem call_3 : callable Try.prog 3 = true := by kernel_rfl
@[go_sem] theorem call_30 : callable Try.prog 30 = true := by kernel_rfl
@[go_sem] theorem call_31 : callable Try.prog 31 = true := by kernel_rfl
@[go_sem] theorem call_32 : callable Try.prog 32 = true := by kernel_rfl
@[go_sem] theorem call_33 : callable Try.prog 33 = true := by kernel_rfl
@[go_sem] theorem call_34 : callable Try.prog 34 = true := by kernel_rfl
@[go_sem] theorem call_35 : callable Try.prog 35 = true := by kernel_rfl
@[go_sem] theorem call_36 : callable Try.prog 36 = true := by kernel_rfl
@[go_sem] theorem call_37 : callable Try.prog 37 = true := by kernel_rfl
@[go_sem] theorem call_38 : callable Try.prog 38 = true := by kernel_rfl
@[go_sem] theorem call_39 : callable Try.prog 39 = true := by kernel_rfl
@[go_sem] theorem call_4 : callable Try.prog 4 = true := by kernel_rfl
@[go_sem] theorem call_40 : callable Try.prog 40 = true := by kernel_rfl
@[go_sem] theorem call_41 : callable Try.prog 41 = true := by kernel_rfl
@[go_sem] theorem call_42 : callable Try.prog 42 = true := by kernel_rfl
@[go_sem] theorem call_43 : callable Try.prog 43 = true := by kernel_rfl
@[go_sem] theorem call_44 : callable Try.prog 44 = true := by kernel_rfl
@[go_sem] theorem call_45 : callable Try.prog 45 = true := by kernel_rfl
@[go_sem] theorem call_46 : callable Try.prog 46 = true := by kernel_rfl
@[go_sem] theorem call_47 : callable Try.prog 47 = true := by kernel_rfl
@[go_sem] theorem call_48 : callable Try.prog 48 = true := by kernel_rfl
@[go_sem] theorem call_5 : callable Try.prog 5 = true := by kernel_rfl
@[go_sem] theorem call_6 : callable Try.prog 6 = true := by kernel_rfl
@[go_sem] theorem call_7 : callable Try.prog 7 = true := by kernel_rfl
@[go_sem] theorem call_8 : callable Try.prog 8 = true := by kernel_rfl
@[go_sem] theorem call_9 : callable Try.prog 9 = true := by kernel_rfl
theorem mixed : Try.prog.follows .mixedOrders = true := by kernel_rfl
@[go_sem] theorem tagg_2 : tagg Try.prog 2 = some false := by kernel_rfl
@[go_sem] theorem tagg_27 : tagg Try.prog 27 = some false := by kernel_rfl
@[go_sem] theorem tagg_29 : tagg Try.prog 29 = some true := by kernel_rfl
@[go_sem] theorem tagg_3 : tagg Try.prog 3 = some false := by kernel_rfl
@[go_sem] theorem tagg_30 : tagg Try.prog 30 = some false := by kernel_rfl
@[go_sem] theorem tagg_4 : tagg Try.prog 4 = some false := by kernel_rfl
@[go_sem] theorem tagg_41 : tagg Try.prog 41 = some true := by kernel_rfl
@[go_sem] theorem tagg_5 : tagg Try.prog 5 = some false := by kernel_rfl
@[go_sem] theorem tagg_54 : tagg Try.prog 54 = some false := by kernel_rfl
@[go_sem] theorem tagg_64 : tagg Try.prog 64 = some false := by kernel_rfl
@[go_sem] theorem tbool_4 : (Try.prog.underlying 4).map isBoolD = some true := by kernel_rfl
@[go_sem] theorem tbytes_3 : tbytes Try.prog 3 = some 8 := by kernel_rfl
@[go_sem] theorem tbytes_4 : tbytes Try.prog 4 = some 1 := by kernel_rfl
@[go_sem] theorem tbytes_41 : tbytes Try.prog 41 = some 40 := by kernel_rfl
@[go_sem] theorem tbytes_5 : tbytes Try.prog 5 = some 1 := by kernel_rfl
@[go_sem] theorem telem_27 : telem Try.prog 27 = some 5 := by kernel_rfl
@[go_sem] theorem telem_30 : telem Try.prog 30 = some 3 := by kernel_rfl
@[go_sem] theorem telem_35 : telem Try.prog 35 = some 4 := by kernel_rfl
@[go_sem] theorem telem_39 : telem Try.prog 39 = some 41 := by kernel_rfl
@[go_sem] theorem tfield_29_0 : tfield Try.prog 29 0 = some (0, 27) := by kernel_rfl
@[go_sem] theorem tfield_29_1 : tfield Try.prog 29 1 = some (1, 3) := by kernel_rfl
@[go_sem] theorem tfield_41_0 : tfield Try.prog 41 0 = some (0, 3) := by kernel_rfl
@[go_sem] theorem tfield_41_1 : tfield Try.prog 41 1 = some (1, 3) := by kernel_rfl
@[go_sem] theorem tfield_41_2 : tfield Try.prog 41 2 = some (2, 3) := by kernel_rfl
@[go_sem] theorem tfield_41_3 : tfield Try.prog 41 3 = some (3, 2) := by kernel_rfl
@[go_sem] theorem tfield_41_4 : tfield Try.prog 41 4 = some (4, 2) := by kernel_rfl
@[go_sem] theorem tint_3 : tint Try.prog 3 = some .i64 := by kernel_rfl
@[go_sem] theorem tint_5 : tint Try.prog 5 = some .u8 := by kernel_rfl
@[go_sem] theorem tplaces_29 : tplaces Try.prog 29 = some [(0, 1), (1, 1)] := by kernel_rfl
@[go_sem] theorem tplaces_41 : tplaces Try.prog 41 = some [(0, 1), (1, 1), (2, 1), (3, 1), (4, 1)] := by kernel_rfl
@[go_sem] theorem tsize_2 : tsize Try.prog 2 = some 1 := by kernel_rfl
@[go_sem] theorem tsize_27 : tsize Try.prog 27 = some 1 := by kernel_rfl
@[go_sem] theorem tsize_29 : tsize Try.prog 29 = some 2 := by kernel_rfl
@[go_sem] theorem tsize_3 : tsize Try.prog 3 = some 1 := by kernel_rfl
@[go_sem] theorem tsize_30 : tsize Try.prog 30 = some 1 := by kernel_rfl
@[go_sem] theorem tsize_4 : tsize Try.prog 4 = some 1 := by kernel_rfl
@[go_sem] theorem tsize_41 : tsize Try.prog 41 = some 5 := by kernel_rfl
@[go_sem] theorem tsize_5 : tsize Try.prog 5 = some 1 := by kernel_rfl
@[go_sem] theorem tsize_54 : tsize Try.prog 54 = some 1 := by kernel_rfl
@[go_sem] theorem tsize_64 : tsize Try.prog 64 = some 1 := by kernel_rfl
@[go_sem] theorem tsome_3 : (Try.prog.underlying 3).isSome = true := by kernel_rfl
@[go_sem] theorem tsome_5 : (Try.prog.underlying 5).isSome = true := by kernel_rfl
@[go_sem] theorem tstr_9 : (Try.prog.underlying 9).map isStrD = some true := by kernel_rfl
@[go_sem] theorem tzero_29 : tzero Try.prog 29 = some (.agg #[.slice none 0 0, .int .i64 0]) := by kernel_rfl
@[go_sem] theorem tzero_3 : tzero Try.prog 3 = some (.int .i64 0) := by kernel_rfl
@[go_sem] theorem tzero_4 : tzero Try.prog 4 = some (.bool false) := by kernel_rfl
@[go_sem] theorem tzero_41 : tzero Try.prog 41 = some (.agg #[.int .i64 0, .int .i64 0, .int .i64 0, .int .i64 0, .int .i64 0]) := by kernel_rfl
@[go_sem] theorem tzero_5 : tzero Try.prog 5 = some (.int .u8 0) := by kernel_rfl
@[go_sem] theorem tzero_54 : tzero Try.prog 54 = some (.pointer none) := by kernel_rfl
@[go_sem] theorem tzero_64 : tzero Try.prog 64 = some (.nilFunc) := by kernel_rfl
end Go.Proofs.Ytflfhgpcmocilaa.Ty
