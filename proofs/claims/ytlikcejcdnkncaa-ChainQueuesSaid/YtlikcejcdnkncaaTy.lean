/- Facts on the types of this translation, as the logical layer asks them. -/
import Derived.Test.YtlikcejcdnkncaaProg
import Derived.Test.YtlikcejcdnkncaaLc
import Derived.KernelRfl
namespace Go.Proofs.Ytlikcejcdnkncaa.Ty
open Go.Lw
@[go_sem] theorem call_10 : callable Try.prog 10 = true := by kernel_rfl
@[go_sem] theorem call_11 : callable Try.prog 11 = true := by kernel_rfl
@[go_sem] theorem call_12 : callable Try.prog 12 = true := by kernel_rfl
@[go_sem] theorem call_13 : callable Try.prog 13 = true := by kernel_rfl
@[go_sem] theorem call_14 : callable Try.prog 14 = true := by kernel_rfl
@[go_sem] theorem call_15 : callable Try.prog 15 = true := by kernel_rfl
@[go_sem] theorem call_16 : callable Try.prog 16 = true := by kernel_rfl
@[go_sem] theorem call_17 : callable Try.prog 17 = true := by kernel_rfl
@[go_sem] theorem call_18 : callable Try.prog 18 = true := by kernel_rfl
@[go_sem] theorem call_19 : callable Try.prog 19 = true := by kernel_rfl
@[go_sem] theorem call_20 : callable Try.prog 20 = true := by kernel_rfl
@[go_sem] theorem call_21 : callable Try.prog 21 = true := by kernel_rfl
@[go_sem] theorem call_22 : callable Try.prog 22 = true := by kernel_rfl
@[go_sem] theorem call_23 : callable Try.prog 23 = true := by kernel_rfl
@[go_sem] theorem call_24 : callable Try.prog 24 = true := by kernel_rfl
@[go_sem] theorem call_25 : callable Try.prog 25 = true := by kernel_rfl
@[go_sem] theorem call_26 : callable Try.prog 26 = true := by kernel_rfl
@[go_sem] theorem call_27 : callable Try.prog 27 = true := by kernel_rfl
@[go_sem] theorem call_28 : callable Try.prog 28 = true := by kernel_rfl
@[go_sem] theorem call_29 : callable Try.prog 29 = true := by kernel_rfl
@[go_sem] theorem call_3 : callable Try.prog 3 = true := by kernel_rfl
@[go_sem] theorem call_30 : callable Try.prog 30 = true := by kernel_rfl
@[go_sem] theorem call_31 : callable Try.prog 31 = true := by kernel_rfl
@[go_sem] theorem call_32 : callable Try.prog 32 = true := by kernel_rfl
@[go_sem] theorem call_33 : callable Try.prog 33 = true := by kernel_rfl
@[go_sem] theorem call_34 : callable Try.prog 34 = true := by kernel_rfl
@[go_sem] theorem call_35 : callable Try.prog 35 = true := by kernel_rfl
@[go_sem] theorem call_36 : callable Try.prog 36 = true := by kernel_rfl
@[go_sem] theorem call_37 : callable Try.prog 37 = true := by kernel_rfl
@[go_sem] theorem call_38 : callable Try.prog 38 = true := by kernel_rfl
@[go_sem] theorem call_39 : callable Try.prog 39 = true := by kernel_rfl
@[go_sem] theorem call_4 : callable Try.prog 4 = true := by kernel_rfl
@[go_sem] theorem call_40 : callable Try.prog 40 = true := by kernel_rfl
@[go_sem] theorem call_41 : callable Try.prog 41 = true := by kernel_rfl
@[go_sem] theorem call_42 : callable Try.prog 42 = true := by kernel_rfl
@[go_sem] theorem call_43 : callable Try.prog 43 = true := by kernel_rfl
@[go_sem] theorem call_44 : callable Try.prog 44 = true := by kernel_rfl
@[go_sem] theorem call_45 : callable Try.prog 45 = true := by kernel_rfl
@[go_sem] theorem call_46 : callable Try.prog 46 = true := by kernel_rfl
@[go_sem] theorem call_47 : callable Try.prog 47 = true := by kernel_rfl
@[go_sem] theorem call_48 : callable Try.prog 48 = true := by kernel_rfl
@[go_sem] theorem call_49 : callable Try.prog 49 = true := by kernel_rfl
@[go_sem] theorem call_5 : callable Try.prog 5 = true := by kernel_rfl
@[go_sem] theorem call_50 : callable Try.prog 50 = true := by kernel_rfl
@[go_sem] theorem call_51 : callable Try.prog 51 = true := by kernel_rfl
@[go_sem] theorem call_6 : callable Try.prog 6 = true := by kernel_rfl
@[go_sem] theorem call_7 : callable Try.prog 7 = true := by kernel_rfl
@[go_sem] theorem call_8 : callable Try.prog 8 = true := by kernel_rfl
@[go_sem] theorem call_9 : callable Try.prog 9 = true := by kernel_rfl
theorem mixed : Try.prog.follows .mixedOrders = true := by kernel_rfl
@[go_sem] theorem tagg_22 : tagg Try.prog 22 = some false := by kernel_rfl
@[go_sem] theorem tagg_24 : tagg Try.prog 24 = some true := by kernel_rfl
@[go_sem] theorem tagg_27 : tagg Try.prog 27 = some false := by kernel_rfl
@[go_sem] theorem tagg_3 : tagg Try.prog 3 = some false := by kernel_rfl
@[go_sem] theorem tagg_4 : tagg Try.prog 4 = some false := by kernel_rfl
@[go_sem] theorem tagg_50 : tagg Try.prog 50 = some true := by kernel_rfl
@[go_sem] theorem tagg_59 : tagg Try.prog 59 = some false := by kernel_rfl
@[go_sem] theorem tbool_4 : (Try.prog.underlying 4).map isBoolD = some true := by kernel_rfl
@[go_sem] theorem tbytes_22 : tbytes Try.prog 22 = some 24 := by kernel_rfl
@[go_sem] theorem tbytes_3 : tbytes Try.prog 3 = some 8 := by kernel_rfl
@[go_sem] theorem tbytes_4 : tbytes Try.prog 4 = some 1 := by kernel_rfl
@[go_sem] theorem telem_22 : telem Try.prog 22 = some 3 := by kernel_rfl
@[go_sem] theorem telem_44 : telem Try.prog 44 = some 22 := by kernel_rfl
@[go_sem] theorem telem_48 : telem Try.prog 48 = some 50 := by kernel_rfl
@[go_sem] theorem telem_59 : telem Try.prog 59 = some 4 := by kernel_rfl
@[go_sem] theorem tfield_24_0 : tfield Try.prog 24 0 = some (0, 22) := by kernel_rfl
@[go_sem] theorem tfield_24_1 : tfield Try.prog 24 1 = some (1, 22) := by kernel_rfl
@[go_sem] theorem tfield_24_2 : tfield Try.prog 24 2 = some (2, 22) := by kernel_rfl
@[go_sem] theorem tfield_50_0 : tfield Try.prog 50 0 = some (0, 3) := by kernel_rfl
@[go_sem] theorem tfield_50_1 : tfield Try.prog 50 1 = some (1, 3) := by kernel_rfl
@[go_sem] theorem tfield_50_2 : tfield Try.prog 50 2 = some (2, 3) := by kernel_rfl
@[go_sem] theorem tfield_50_3 : tfield Try.prog 50 3 = some (3, 3) := by kernel_rfl
@[go_sem] theorem tint_3 : tint Try.prog 3 = some .i64 := by kernel_rfl
@[go_sem] theorem tint_71 : tint Try.prog 71 = some .u64 := by kernel_rfl
@[go_sem] theorem tint_75 : tint Try.prog 75 = some .u32 := by kernel_rfl
@[go_sem] theorem tint_78 : tint Try.prog 78 = some .u64 := by kernel_rfl
@[go_sem] theorem tmap_66 : tmap Try.prog 66 = some (.i64, 4) := by kernel_rfl
@[go_sem] theorem tplaces_24 : tplaces Try.prog 24 = some [(0, 1), (1, 1), (2, 1)] := by kernel_rfl
@[go_sem] theorem tsize_22 : tsize Try.prog 22 = some 1 := by kernel_rfl
@[go_sem] theorem tsize_24 : tsize Try.prog 24 = some 3 := by kernel_rfl
@[go_sem] theorem tsize_27 : tsize Try.prog 27 = some 1 := by kernel_rfl
@[go_sem] theorem tsize_3 : tsize Try.prog 3 = some 1 := by kernel_rfl
@[go_sem] theorem tsize_4 : tsize Try.prog 4 = some 1 := by kernel_rfl
@[go_sem] theorem tsize_50 : tsize Try.prog 50 = some 4 := by kernel_rfl
@[go_sem] theorem tsize_59 : tsize Try.prog 59 = some 1 := by kernel_rfl
@[go_sem] theorem tsome_3 : (Try.prog.underlying 3).isSome = true := by kernel_rfl
@[go_sem] theorem tsome_71 : (Try.prog.underlying 71).isSome = true := by kernel_rfl
@[go_sem] theorem tsome_75 : (Try.prog.underlying 75).isSome = true := by kernel_rfl
@[go_sem] theorem tsome_78 : (Try.prog.underlying 78).isSome = true := by kernel_rfl
@[go_sem] theorem tzero_22 : tzero Try.prog 22 = some (.slice none 0 0) := by kernel_rfl
@[go_sem] theorem tzero_24 : tzero Try.prog 24 = some (.agg #[.slice none 0 0, .slice none 0 0, .slice none 0 0]) := by kernel_rfl
@[go_sem] theorem tzero_27 : tzero Try.prog 27 = some (.int .i64 0) := by kernel_rfl
@[go_sem] theorem tzero_3 : tzero Try.prog 3 = some (.int .i64 0) := by kernel_rfl
@[go_sem] theorem tzero_4 : tzero Try.prog 4 = some (.bool false) := by kernel_rfl
@[go_sem] theorem tzero_50 : tzero Try.prog 50 = some (.agg #[.int .i64 0, .int .i64 0, .int .i64 0, .int .i64 0]) := by kernel_rfl
@[go_sem] theorem tzero_59 : tzero Try.prog 59 = some (.slice none 0 0) := by kernel_rfl
end Go.Proofs.Ytlikcejcdnkncaa.Ty
