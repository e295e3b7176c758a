/- Facts on the types of this translation, as the logical layer asks them. -/
import Derived.Test.YtgfkefekdmfcpaaProg
import Derived.Test.YtgfkefekdmfcpaaLc
import Derived.KernelRfl
namespace Go.Proofs.Ytgfkefekdmfcpaa.Ty
open Go.Lw
@[go_sem] theorem call_10 : callable Try.prog 10 = true := by kernel_rfl
@[go_sem] theorem call_11 : callable Try.prog 11 = true := by kernel_rfl
@[go_sem] theorem call_12 : callable Try.prog 12 = true := by kernel_rfl
@[go_sem] theorem call_13 : callable Try.prog 13 = true := by kernel_rfl
@[go_sem] theorem call_14 : callable Try.prog 14 = true := by kernel_rfl
@[go_sem] theorem call_15 : callable Try.prog 15 = true := by kernel_rfl
@[go_sem] theorem call_16 : callable Try.prog 16 = true := by kernel_rfl
@[go_sem] theorem call_17 : callable Try.prog 17 = true := by kernel_rfl
@[go_sem] theorem call_18 : callable Try.prog 18 = true := by kernel_rfl
@[go_sem] theorem call_19 : callable Try.prog 19 = true := by kernel_rfl
@[go_sem] theorem call_20 : callable Try.prog 20 = true := by kernel_rfl
@[go_sem] theorem call_21 : callable Try.prog 21 = true := by kernel_rfl
@[go_sem] theorem call_22 : callable Try.prog 22 = true := by kernel_rfl
@[go_sem] theorem call_23 : callable Try.prog 23 = true := by kernel_rfl
@[go_sem] theorem call_24 : callable Try.prog 24 = true := by kernel_rfl
@[go_sem] theorem call_25 : callable Try.prog 25 = true := by kernel_rfl
@[go_sem] theorem call_26 : callable Try.prog 26 = true := by kernel_rfl
@[go_sem] theorem call_27 : callable Try.prog 27 = true := by kernel_rfl
@[go_sem] theorem call_28 : callable Try.prog 28 = true := by kernel_rfl
@[go_sem] theorem call_29 : callable Try.prog 29 = true := by kernel_rfl
@[go_sem] theorem call_3 : callable Try.prog 3 = true := by kernel_rfl
@[go_sem] theorem call_30 : callable Try.prog 30 = true := by kernel_rfl
@[go_sem] theorem call_31 : callable Try.prog 31 = true := by kernel_rfl
@[go_sem] theorem call_32 : callable Try.prog 32 = true := by kernel_rfl
@[go_sem] theorem call_33 : callable Try.prog 33 = true := by kernel_rfl
@[go_sem] theorem call_34 : callable Try.prog 34 = true := by kernel_rfl
@[go_sem] theorem call_35 : callable Try.prog 35 = true := by kernel_rfl
@[go_sem] theorem call_36 : callable Try.prog 36 = true := by kernel_rfl
@[go_sem] theorem call_37 : callable Try.prog 37 = true := by kernel_rfl
@[go_sem] theorem call_38 : callable Try.prog 38 = true := by kernel_rfl
@[go_sem] theorem call_39 : callable Try.prog 39 = true := by kernel_rfl
@[go_sem] theorem call_4 : callable Try.prog 4 = true := by kernel_rfl
@[go_sem] theorem call_40 : callable Try.prog 40 = true := by kernel_rfl
@[go_sem] theorem call_41 : callable Try.prog 41 = true := by kernel_rfl
@[go_sem] theorem call_42 : callable Try.prog 42 = true := by kernel_rfl
@[go_sem] theorem call_43 : callable Try.prog 43 = true := by kernel_rfl
@[go_sem] theorem call_44 : callable Try.prog 44 = true := by kernel_rfl
@[go_sem] theorem call_45 : callable Try.prog 45 = true := by kernel_rfl
@[go_sem] theorem call_5 : callable Try.prog 5 = true := by kernel_rfl
@[go_sem] theorem call_6 : callable Try.prog 6 = true := by kernel_rfl
@[go_sem] theorem call_7 : callable Try.prog 7 = true := by kernel_rfl
@[go_sem] theorem call_8 : callable Try.prog 8 = true := by kernel_rfl
@[go_sem] theorem call_9 : callable Try.prog 9 = true := by kernel_rfl
theorem mixed : Try.prog.follows .mixedOrders = true := by kernel_rfl
@[go_sem] theorem tagg_2 : tagg Try.prog 2 = some false := by kernel_rfl
@[go_sem] theorem tagg_22 : tagg Try.prog 22 = some false := by kernel_rfl
@[go_sem] theorem tagg_24 : tagg Try.prog 24 = some false := by kernel_rfl
@[go_sem] theorem tagg_3 : tagg Try.prog 3 = some false := by kernel_rfl
@[go_sem] theorem tagg_35 : tagg Try.prog 35 = some true := by kernel_rfl
@[go_sem] theorem tagg_4 : tagg Try.prog 4 = some false := by kernel_rfl
@[go_sem] theorem tagg_42 : tagg Try.prog 42 = some true := by kernel_rfl
@[go_sem] theorem tarr_39 : tarr Try.prog 39 = none := by kernel_rfl
@[go_sem] theorem tbool_4 : (Try.prog.underlying 4).map isBoolD = some true := by kernel_rfl
@[go_sem] theorem tbytes_2 : tbytes Try.prog 2 = some 8 := by kernel_rfl
@[go_sem] theorem tbytes_22 : tbytes Try.prog 22 = some 24 := by kernel_rfl
@[go_sem] theorem tbytes_24 : tbytes Try.prog 24 = some 8 := by kernel_rfl
@[go_sem] theorem tbytes_35 : tbytes Try.prog 35 = some 16 := by kernel_rfl
@[go_sem] theorem telem_22 : telem Try.prog 22 = some 35 := by kernel_rfl
@[go_sem] theorem telem_31 : telem Try.prog 31 = some 22 := by kernel_rfl
@[go_sem] theorem telem_32 : telem Try.prog 32 = some 24 := by kernel_rfl
@[go_sem] theorem telem_37 : telem Try.prog 37 = some 42 := by kernel_rfl
@[go_sem] theorem telem_39 : telem Try.prog 39 = none := by kernel_rfl
@[go_sem] theorem telem_44 : telem Try.prog 44 = some 2 := by kernel_rfl
@[go_sem] theorem teq_35 : teq Try.prog 35 = some [(0, .bool), (1, .bool), (2, .int .i64)] := by kernel_rfl
@[go_sem] theorem tfield_35_0 : tfield Try.prog 35 0 = some (0, 4) := by kernel_rfl
@[go_sem] theorem tfield_35_1 : tfield Try.prog 35 1 = some (1, 4) := by kernel_rfl
@[go_sem] theorem tfield_35_2 : tfield Try.prog 35 2 = some (2, 2) := by kernel_rfl
@[go_sem] theorem tfield_42_0 : tfield Try.prog 42 0 = some (0, 3) := by kernel_rfl
@[go_sem] theorem tfield_42_1 : tfield Try.prog 42 1 = some (1, 3) := by kernel_rfl
@[go_sem] theorem tfield_42_2 : tfield Try.prog 42 2 = some (2, 2) := by kernel_rfl
@[go_sem] theorem tint_3 : tint Try.prog 3 = some .i64 := by kernel_rfl
@[go_sem] theorem tint_66 : tint Try.prog 66 = some .u64 := by kernel_rfl
@[go_sem] theorem tint_69 : tint Try.prog 69 = some .u32 := by kernel_rfl
@[go_sem] theorem tint_72 : tint Try.prog 72 = some .u64 := by kernel_rfl
@[go_sem] theorem tmap_39 : tmap Try.prog 39 = some (.i64, 2) := by kernel_rfl
@[go_sem] theorem tmap_40 : tmap Try.prog 40 = some (.i64, 4) := by kernel_rfl
@[go_sem] theorem tmap_59 : tmap Try.prog 59 = some (.i64, 4) := by kernel_rfl
@[go_sem] theorem tplaces_35 : tplaces Try.prog 35 = some [(0, 1), (1, 1), (2, 1)] := by kernel_rfl
@[go_sem] theorem tsize_2 : tsize Try.prog 2 = some 1 := by kernel_rfl
@[go_sem] theorem tsize_22 : tsize Try.prog 22 = some 1 := by kernel_rfl
@[go_sem] theorem tsize_24 : tsize Try.prog 24 = some 1 := by kernel_rfl
@[go_sem] theorem tsize_3 : tsize Try.prog 3 = some 1 := by kernel_rfl
@[go_sem] theorem tsize_35 : tsize Try.prog 35 = some 3 := by kernel_rfl
@[go_sem] theorem tsize_4 : tsize Try.prog 4 = some 1 := by kernel_rfl
@[go_sem] theorem tsize_42 : tsize Try.prog 42 = some 3 := by kernel_rfl
@[go_sem] theorem tsome_3 : (Try.prog.underlying 3).isSome = true := by kernel_rfl
@[go_sem] theorem tsome_66 : (Try.prog.underlying 66).isSome = true := by kernel_rfl
@[go_sem] theorem tsome_69 : (Try.prog.underlying 69).isSome = true := by kernel_rfl
@[go_sem] theorem tsome_72 : (Try.prog.underlying 72).isSome = true := by kernel_rfl
@[go_sem] theorem tzero_2 : tzero Try.prog 2 = some (.int .i64 0) := by kernel_rfl
@[go_sem] theorem tzero_22 : tzero Try.prog 22 = some (.slice none 0 0) := by kernel_rfl
@[go_sem] theorem tzero_24 : tzero Try.prog 24 = some (.int .i64 0) := by kernel_rfl
@[go_sem] theorem tzero_35 : tzero Try.prog 35 = some (.agg #[.bool false, .bool false, .int .i64 0]) := by kernel_rfl
@[go_sem] theorem tzero_4 : tzero Try.prog 4 = some (.bool false) := by kernel_rfl
@[go_sem] theorem tzero_42 : tzero Try.prog 42 = some (.agg #[.int .i64 0, .int .i64 0, .int .i64 0]) := by kernel_rfl
end Go.Proofs.Ytgfkefekdmfcpaa.Ty
