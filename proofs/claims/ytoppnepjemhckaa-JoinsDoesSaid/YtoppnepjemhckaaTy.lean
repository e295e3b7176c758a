/- Facts on the types of this translation, as the logical layer asks them. -/
import Derived.Test.YtoppnepjemhckaaProg
import Derived.Test.YtoppnepjemhckaaLc
import Derived.KernelRfl
namespace Go.Proofs.Ytoppnepjemhckaa.Ty
open Go.Lw
@[go_sem] theorem call_10 : callable Try.prog 10 = true := by kernel_rfl
@[go_sem] theorem call_11 : callable Try.prog 11 = true := by kernel_rfl
@[go_sem] theorem call_12 : callable Try.prog 12 = true := by kernel_rfl
@[go_sem] theorem call_13 : callable Try.prog 13 = true := by kernel_rfl
@[go_sem] theorem call_14 : callable Try.prog 14 = true := by kernel_rfl
@[go_sem] theorem call_15 : callable Try.prog 15 = true := by kernel_rfl
@[go_sem] theorem call_16 : callable Try.prog 16 = true := by kernel_rfl
@[go_sem] theorem call_17 : callable Try.prog 17 = true := by kernel_rfl
@[go_sem] theorem call_18 : callable Try.prog 18 = true := by kernel_rfl
@[go_sem] theorem call_19 : callable Try.prog 19 = true := by kernel_rfl
@[go_sem] theorem call_20 : callable Try.prog 20 = true := by kernel_rfl
@[go_sem] theorem call_21 : callable Try.prog 21 = true := by kernel_rfl
@[go_sem] theorem call_22 : callable Try.prog 22 = true := by kernel_rfl
@[go_sem] theorem call_23 : callable Try.prog 23 = true := by kernel_rfl
@[go_sem] theorem call_24 : callable Try.prog 24 = true := by kernel_rfl
@[go_sem] theorem call_25 : callable Try.prog 25 = true := by kernel_rfl
@[go_sem] theorem call_26 : callable Try.prog 26 = true := by kernel_rfl
@[go_sem] theorem call_27 : callable Try.prog 27 = true := by kernel_rfl
@[go_sem] theorem call_28 : callable Try.prog 28 = true := by kernel_rfl
@[go_sem] theorem call_29 : callable Try.prog 29 = true := by kernel_rfl
@[go_sem] theorem call_3 : callable Try.prog 3 = true := by kernel_rfl
@[go_sem] theorem call_30 : callable Try.prog 30 = true := by kernel_rfl
@[go_sem] theorem call_31 : callable Try.prog 31 = true := by kernel_rfl
@[go_sem] theorem call_32 : callable Try.prog 32 = true := by kernel_rfl
@[go_sem] theorem call_33 : callable Try.prog 33 = true := by kernel_rfl
@[go_sem] theorem call_34 : callable Try.prog 34 = true := by kernel_rfl
@[go_sem] theorem call_35 : callable Try.prog 35 = true := by kernel_rfl
@[go_sem] theorem call_36 : callable Try.prog 36 = true := by kernel_rfl
@[go_sem] theorem call_37 : callable Try.prog 37 = true := by kernel_rfl
@[go_sem] theorem call_4 : callable Try.prog 4 = true := by kernel_rfl
@[go_sem] theorem call_5 : callable Try.prog 5 = true := by kernel_rfl
@[go_sem] theorem call_6 : callable Try.prog 6 = true := by kernel_rfl
@[go_sem] theorem call_7 : callable Try.prog 7 = true := by kernel_rfl
@[go_sem] theorem call_8 : callable Try.prog 8 = true := by kernel_rfl
@[go_sem] theorem call_9 : callable Try.prog 9 = true := by kernel_rfl
theorem mixed : Try.prog.follows .mixedOrders = true := by kernel_rfl
@[go_sem] theorem tagg_2 : tagg Try.prog 2 = some false := by kernel_rfl
@[go_sem] theorem tagg_26 : tagg Try.prog 26 = some false := by kernel_rfl
@[go_sem] theorem tagg_3 : tagg Try.prog 3 = some false := by kernel_rfl
@[go_sem] theorem tagg_36 : tagg Try.prog 36 = some true := by kernel_rfl
@[go_sem] theorem tagg_4 : tagg Try.prog 4 = some false := by kernel_rfl
@[go_sem] theorem tagg_41 : tagg Try.prog 41 = some true := by kernel_rfl
@[go_sem] theorem tagg_46 : tagg Try.prog 46 = some false := by kernel_rfl
@[go_sem] theorem tarr_46 : tarr Try.prog 46 = none := by kernel_rfl
@[go_sem] theorem tbool_4 : (Try.prog.underlying 4).map isBoolD = some true := by kernel_rfl
@[go_sem] theorem tbytes_2 : tbytes Try.prog 2 = some 8 := by kernel_rfl
@[go_sem] theorem tbytes_36 : tbytes Try.prog 36 = some 16 := by kernel_rfl
@[go_sem] theorem telem_22 : telem Try.prog 22 = some 36 := by kernel_rfl
@[go_sem] theorem telem_26 : telem Try.prog 26 = some 2 := by kernel_rfl
@[go_sem] theorem telem_39 : telem Try.prog 39 = some 41 := by kernel_rfl
@[go_sem] theorem telem_46 : telem Try.prog 46 = none := by kernel_rfl
@[go_sem] theorem teq_36 : teq Try.prog 36 = some [(0, .int .i64), (1, .int .i64)] := by kernel_rfl
@[go_sem] theorem tfield_36_0 : tfield Try.prog 36 0 = some (0, 2) := by kernel_rfl
@[go_sem] theorem tfield_36_1 : tfield Try.prog 36 1 = some (1, 2) := by kernel_rfl
@[go_sem] theorem tfield_41_0 : tfield Try.prog 41 0 = some (0, 3) := by kernel_rfl
@[go_sem] theorem tfield_41_1 : tfield Try.prog 41 1 = some (1, 2) := by kernel_rfl
@[go_sem] theorem tfield_41_2 : tfield Try.prog 41 2 = some (2, 2) := by kernel_rfl
@[go_sem] theorem tmap_46 : tmap Try.prog 46 = some (.i64, 2) := by kernel_rfl
@[go_sem] theorem tplaces_36 : tplaces Try.prog 36 = some [(0, 1), (1, 1)] := by kernel_rfl
@[go_sem] theorem tsize_2 : tsize Try.prog 2 = some 1 := by kernel_rfl
@[go_sem] theorem tsize_26 : tsize Try.prog 26 = some 1 := by kernel_rfl
@[go_sem] theorem tsize_3 : tsize Try.prog 3 = some 1 := by kernel_rfl
@[go_sem] theorem tsize_36 : tsize Try.prog 36 = some 2 := by kernel_rfl
@[go_sem] theorem tsize_4 : tsize Try.prog 4 = some 1 := by kernel_rfl
@[go_sem] theorem tsize_41 : tsize Try.prog 41 = some 3 := by kernel_rfl
@[go_sem] theorem tsize_46 : tsize Try.prog 46 = some 1 := by kernel_rfl
@[go_sem] theorem tzero_2 : tzero Try.prog 2 = some (.int .i64 0) := by kernel_rfl
@[go_sem] theorem tzero_26 : tzero Try.prog 26 = some (.slice none 0 0) := by kernel_rfl
@[go_sem] theorem tzero_36 : tzero Try.prog 36 = some (.agg #[.int .i64 0, .int .i64 0]) := by kernel_rfl
@[go_sem] theorem tzero_4 : tzero Try.prog 4 = some (.bool false) := by kernel_rfl
@[go_sem] theorem tzero_41 : tzero Try.prog 41 = some (.agg #[.int .i64 0, .int .i64 0, .int .i64 0]) := by kernel_rfl
end Go.Proofs.Ytoppnepjemhckaa.Ty
