/- Facts on the table of types of this seat, printed by program: one rule a fact. -/
import Derived.Test.YthlekjgfnldbjaaPlD
import Derived.KernelRfl
import Derived.Test.YthlekjgfnldbjaaRows
set_option linter.unusedSimpArgs false
set_option linter.unusedVariables false
namespace Go.Proofs.Ythlekjgfnldbjaa
open Go.PL
@[go_sem] theorem tkn_2 : tkn Try.prog 2 = true := by kernel_rfl
@[go_sem] theorem tsz_2 : tsz Try.prog 2 = 1 := by kernel_rfl
@[go_sem] theorem tagg_2 : tagg Try.prog 2 = false := by kernel_rfl
@[go_sem] theorem tzero_2 : tzero Try.prog 2 = some [.int .i64 0] := by kernel_rfl
@[go_sem] theorem tbdz_2 : aMakeFull.tbdz Try.prog 2 = some [.int .i64 0] := by kernel_rfl
@[go_sem] theorem tkn_3 : tkn Try.prog 3 = true := by kernel_rfl
@[go_sem] theorem tsz_3 : tsz Try.prog 3 = 1 := by kernel_rfl
@[go_sem] theorem tagg_3 : tagg Try.prog 3 = false := by kernel_rfl
@[go_sem] theorem tzero_3 : tzero Try.prog 3 = some [.int .i64 0] := by kernel_rfl
@[go_sem] theorem tbdz_3 : aMakeFull.tbdz Try.prog 3 = some [.int .i64 0] := by kernel_rfl
@[go_sem] theorem tkn_4 : tkn Try.prog 4 = true := by kernel_rfl
@[go_sem] theorem tsz_4 : tsz Try.prog 4 = 1 := by kernel_rfl
@[go_sem] theorem tagg_4 : tagg Try.prog 4 = false := by kernel_rfl
@[go_sem] theorem tzero_4 : tzero Try.prog 4 = some [.bool false] := by kernel_rfl
@[go_sem] theorem tbdz_4 : aMakeFull.tbdz Try.prog 4 = some [.bool false] := by kernel_rfl
@[go_sem] theorem teqk_4 : teqk Try.prog 4 = .bool := by kernel_rfl
@[go_sem] theorem tkn_5 : tkn Try.prog 5 = true := by kernel_rfl
@[go_sem] theorem tsz_5 : tsz Try.prog 5 = 1 := by kernel_rfl
@[go_sem] theorem tagg_5 : tagg Try.prog 5 = false := by kernel_rfl
@[go_sem] theorem tzero_5 : tzero Try.prog 5 = some [.int .u8 0] := by kernel_rfl
@[go_sem] theorem tbdz_5 : aMakeFull.tbdz Try.prog 5 = some [.int .u8 0] := by kernel_rfl
@[go_sem] theorem tkn_9 : tkn Try.prog 9 = true := by kernel_rfl
@[go_sem] theorem tsz_9 : tsz Try.prog 9 = 1 := by kernel_rfl
@[go_sem] theorem tagg_9 : tagg Try.prog 9 = false := by kernel_rfl
@[go_sem] theorem tzero_9 : tzero Try.prog 9 = some [.str []] := by kernel_rfl
@[go_sem] theorem tbdz_9 : aMakeFull.tbdz Try.prog 9 = some [.str []] := by kernel_rfl
@[go_sem] theorem tix_9 : tix Try.prog 9 = .str := by kernel_rfl
@[go_sem] theorem tlen_9 : tlen Try.prog 9 = .str := by kernel_rfl
@[go_sem] theorem tkn_12 : tkn Try.prog 12 = true := by kernel_rfl
@[go_sem] theorem tsz_12 : tsz Try.prog 12 = 1 := by kernel_rfl
@[go_sem] theorem tagg_12 : tagg Try.prog 12 = false := by kernel_rfl
@[go_sem] theorem tzero_12 : tzero Try.prog 12 = some [.int .u64 0] := by kernel_rfl
@[go_sem] theorem tbdz_12 : aMakeFull.tbdz Try.prog 12 = some [.int .u64 0] := by kernel_rfl
@[go_sem] theorem tkn_21 : tkn Try.prog 21 = true := by kernel_rfl
@[go_sem] theorem tsz_21 : tsz Try.prog 21 = 1 := by kernel_rfl
@[go_sem] theorem tagg_21 : tagg Try.prog 21 = false := by kernel_rfl
@[go_sem] theorem tzero_21 : tzero Try.prog 21 = some [.int .i32 0] := by kernel_rfl
@[go_sem] theorem tbdz_21 : aMakeFull.tbdz Try.prog 21 = some [.int .i32 0] := by kernel_rfl
@[go_sem] theorem tkn_22 : tkn Try.prog 22 = true := by kernel_rfl
@[go_sem] theorem tsz_22 : tsz Try.prog 22 = 6 := by kernel_rfl
@[go_sem] theorem tagg_22 : tagg Try.prog 22 = true := by kernel_rfl
@[go_sem] theorem tzero_22 : tzero Try.prog 22 = some [.int .i64 0, .int .i64 0, .int .i64 0, .int .i64 0, .int .i64 0, .int .i64 0] := by kernel_rfl
@[go_sem] theorem tbdz_22 : aMakeFull.tbdz Try.prog 22 = some [.int .i64 0, .int .i64 0, .int .i64 0, .int .i64 0, .int .i64 0, .int .i64 0] := by kernel_rfl
@[go_sem] theorem tix_22 : tix Try.prog 22 = .arr 6 1 false := by kernel_rfl
@[go_sem] theorem tlen_22 : tlen Try.prog 22 = .arr 6 := by kernel_rfl
@[go_sem] theorem tbd_22 : tbd Try.prog 22 = .arr 1 [.int .i64 0, .int .i64 0, .int .i64 0, .int .i64 0, .int .i64 0, .int .i64 0] := by kernel_rfl
@[go_sem] theorem tleaves_22 : tleaves Try.prog 22 = some [.int, .int, .int, .int, .int, .int] := by kernel_rfl
@[go_sem] theorem tkn_23 : tkn Try.prog 23 = true := by kernel_rfl
@[go_sem] theorem tsz_23 : tsz Try.prog 23 = 6 := by kernel_rfl
@[go_sem] theorem tagg_23 : tagg Try.prog 23 = true := by kernel_rfl
@[go_sem] theorem tzero_23 : tzero Try.prog 23 = some [.int .i64 0, .int .i64 0, .int .i64 0, .int .i64 0, .int .i64 0, .int .i64 0] := by kernel_rfl
@[go_sem] theorem tbdz_23 : aMakeFull.tbdz Try.prog 23 = some [.int .i64 0, .int .i64 0, .int .i64 0, .int .i64 0, .int .i64 0, .int .i64 0] := by kernel_rfl
@[go_sem] theorem tix_23 : tix Try.prog 23 = .arr 6 1 false := by kernel_rfl
@[go_sem] theorem tlen_23 : tlen Try.prog 23 = .arr 6 := by kernel_rfl
@[go_sem] theorem tbd_23 : tbd Try.prog 23 = .arr 1 [.int .i64 0, .int .i64 0, .int .i64 0, .int .i64 0, .int .i64 0, .int .i64 0] := by kernel_rfl
@[go_sem] theorem tleaves_23 : tleaves Try.prog 23 = some [.int, .int, .int, .int, .int, .int] := by kernel_rfl
@[go_sem] theorem tkn_24 : tkn Try.prog 24 = true := by kernel_rfl
@[go_sem] theorem tsz_24 : tsz Try.prog 24 = 2 := by kernel_rfl
@[go_sem] theorem tagg_24 : tagg Try.prog 24 = true := by kernel_rfl
@[go_sem] theorem tzero_24 : tzero Try.prog 24 = some [.int .i64 0, .int .i64 0] := by kernel_rfl
@[go_sem] theorem tbdz_24 : aMakeFull.tbdz Try.prog 24 = some [.int .i64 0, .int .i64 0] := by kernel_rfl
@[go_sem] theorem tfld_24_0 : tfld Try.prog 24 0 = some (0, 1, false) := by kernel_rfl
@[go_sem] theorem tfld_24_1 : tfld Try.prog 24 1 = some (1, 1, false) := by kernel_rfl
@[go_sem] theorem tbd_24 : tbd Try.prog 24 = .str [(0, 1), (1, 1)] [.int .i64 0, .int .i64 0] := by kernel_rfl
@[go_sem] theorem tleaves_24 : tleaves Try.prog 24 = some [.int, .int] := by kernel_rfl
@[go_sem] theorem tkn_25 : tkn Try.prog 25 = true := by kernel_rfl
@[go_sem] theorem tsz_25 : tsz Try.prog 25 = 2 := by kernel_rfl
@[go_sem] theorem tagg_25 : tagg Try.prog 25 = true := by kernel_rfl
@[go_sem] theorem tzero_25 : tzero Try.prog 25 = some [.int .i64 0, .int .i64 0] := by kernel_rfl
@[go_sem] theorem tbdz_25 : aMakeFull.tbdz Try.prog 25 = some [.int .i64 0, .int .i64 0] := by kernel_rfl
@[go_sem] theorem tfld_25_0 : tfld Try.prog 25 0 = some (0, 1, false) := by kernel_rfl
@[go_sem] theorem tfld_25_1 : tfld Try.prog 25 1 = some (1, 1, false) := by kernel_rfl
@[go_sem] theorem tbd_25 : tbd Try.prog 25 = .str [(0, 1), (1, 1)] [.int .i64 0, .int .i64 0] := by kernel_rfl
@[go_sem] theorem tleaves_25 : tleaves Try.prog 25 = some [.int, .int] := by kernel_rfl
@[go_sem] theorem tkn_27 : tkn Try.prog 27 = true := by kernel_rfl
@[go_sem] theorem tsz_27 : tsz Try.prog 27 = 1 := by kernel_rfl
@[go_sem] theorem tagg_27 : tagg Try.prog 27 = false := by kernel_rfl
@[go_sem] theorem tzero_27 : tzero Try.prog 27 = some [.int .i64 0] := by kernel_rfl
@[go_sem] theorem tbdz_27 : aMakeFull.tbdz Try.prog 27 = some [.int .i64 0] := by kernel_rfl
@[go_sem] theorem tkn_38 : tkn Try.prog 38 = true := by kernel_rfl
@[go_sem] theorem tsz_38 : tsz Try.prog 38 = 1 := by kernel_rfl
@[go_sem] theorem tagg_38 : tagg Try.prog 38 = false := by kernel_rfl
@[go_sem] theorem tzero_38 : tzero Try.prog 38 = some [.sl .nil []] := by kernel_rfl
@[go_sem] theorem tbdz_38 : aMakeFull.tbdz Try.prog 38 = some [.sl .nil []] := by kernel_rfl
@[go_sem] theorem tix_38 : tix Try.prog 38 = .slc 2 true := by kernel_rfl
@[go_sem] theorem tlen_38 : tlen Try.prog 38 = .slc := by kernel_rfl
@[go_sem] theorem teqk_38 : teqk Try.prog 38 = .slc := by kernel_rfl
@[go_sem] theorem telem_38 : telem Try.prog 38 = some ⟨25, 2, 16⟩ := by kernel_rfl
@[go_sem] theorem tkn_48 : tkn Try.prog 48 = true := by kernel_rfl
@[go_sem] theorem tsz_48 : tsz Try.prog 48 = 0 := by kernel_rfl
@[go_sem] theorem tagg_48 : tagg Try.prog 48 = true := by kernel_rfl
@[go_sem] theorem tzero_48 : tzero Try.prog 48 = some [] := by kernel_rfl
@[go_sem] theorem tbdz_48 : aMakeFull.tbdz Try.prog 48 = some [] := by kernel_rfl
@[go_sem] theorem tix_48 : tix Try.prog 48 = .arr 0 1 false := by kernel_rfl
@[go_sem] theorem tlen_48 : tlen Try.prog 48 = .arr 0 := by kernel_rfl
@[go_sem] theorem tbd_48 : tbd Try.prog 48 = .arr 1 [] := by kernel_rfl
@[go_sem] theorem tkn_52 : tkn Try.prog 52 = true := by kernel_rfl
@[go_sem] theorem tsz_52 : tsz Try.prog 52 = 1 := by kernel_rfl
@[go_sem] theorem tagg_52 : tagg Try.prog 52 = false := by kernel_rfl
@[go_sem] theorem tzero_52 : tzero Try.prog 52 = some [.int .u32 0] := by kernel_rfl
@[go_sem] theorem tbdz_52 : aMakeFull.tbdz Try.prog 52 = some [.int .u32 0] := by kernel_rfl
@[go_sem] theorem tkn_56 : tkn Try.prog 56 = true := by kernel_rfl
@[go_sem] theorem tsz_56 : tsz Try.prog 56 = 1 := by kernel_rfl
@[go_sem] theorem tagg_56 : tagg Try.prog 56 = false := by kernel_rfl
@[go_sem] theorem tzero_56 : tzero Try.prog 56 = some [.nilp] := by kernel_rfl
@[go_sem] theorem tbdz_56 : aMakeFull.tbdz Try.prog 56 = some [.nilp] := by kernel_rfl
@[go_sem] theorem teqk_56 : teqk Try.prog 56 = .ptr := by kernel_rfl
@[go_sem] theorem tcv_2_2 : tcv Try.prog 2 2 = .int .i64 := by kernel_rfl
@[go_sem] theorem tcv_2_3 : tcv Try.prog 2 3 = .int .i64 := by kernel_rfl
@[go_sem] theorem tcv_2_27 : tcv Try.prog 2 27 = .int .i64 := by kernel_rfl
@[go_sem] theorem tcv_2_5 : tcv Try.prog 2 5 = .int .u8 := by kernel_rfl
@[go_sem] theorem tcv_2_12 : tcv Try.prog 2 12 = .int .u64 := by kernel_rfl
@[go_sem] theorem tcv_2_21 : tcv Try.prog 2 21 = .int .i32 := by kernel_rfl
@[go_sem] theorem tcv_2_52 : tcv Try.prog 2 52 = .int .u32 := by kernel_rfl
@[go_sem] theorem tcv_3_2 : tcv Try.prog 3 2 = .int .i64 := by kernel_rfl
@[go_sem] theorem tcv_3_3 : tcv Try.prog 3 3 = .int .i64 := by kernel_rfl
@[go_sem] theorem tcv_3_27 : tcv Try.prog 3 27 = .int .i64 := by kernel_rfl
@[go_sem] theorem tcv_3_5 : tcv Try.prog 3 5 = .int .u8 := by kernel_rfl
@[go_sem] theorem tcv_3_12 : tcv Try.prog 3 12 = .int .u64 := by kernel_rfl
@[go_sem] theorem tcv_3_21 : tcv Try.prog 3 21 = .int .i32 := by kernel_rfl
@[go_sem] theorem tcv_3_52 : tcv Try.prog 3 52 = .int .u32 := by kernel_rfl
@[go_sem] theorem tcv_27_2 : tcv Try.prog 27 2 = .int .i64 := by kernel_rfl
@[go_sem] theorem tcv_27_3 : tcv Try.prog 27 3 = .int .i64 := by kernel_rfl
@[go_sem] theorem tcv_27_27 : tcv Try.prog 27 27 = .int .i64 := by kernel_rfl
@[go_sem] theorem tcv_27_5 : tcv Try.prog 27 5 = .int .u8 := by kernel_rfl
@[go_sem] theorem tcv_27_12 : tcv Try.prog 27 12 = .int .u64 := by kernel_rfl
@[go_sem] theorem tcv_27_21 : tcv Try.prog 27 21 = .int .i32 := by kernel_rfl
@[go_sem] theorem tcv_27_52 : tcv Try.prog 27 52 = .int .u32 := by kernel_rfl
@[go_sem] theorem tcv_5_2 : tcv Try.prog 5 2 = .int .i64 := by kernel_rfl
@[go_sem] theorem tcv_5_3 : tcv Try.prog 5 3 = .int .i64 := by kernel_rfl
@[go_sem] theorem tcv_5_27 : tcv Try.prog 5 27 = .int .i64 := by kernel_rfl
@[go_sem] theorem tcv_5_5 : tcv Try.prog 5 5 = .int .u8 := by kernel_rfl
@[go_sem] theorem tcv_5_12 : tcv Try.prog 5 12 = .int .u64 := by kernel_rfl
@[go_sem] theorem tcv_5_21 : tcv Try.prog 5 21 = .int .i32 := by kernel_rfl
@[go_sem] theorem tcv_5_52 : tcv Try.prog 5 52 = .int .u32 := by kernel_rfl
@[go_sem] theorem tcv_12_2 : tcv Try.prog 12 2 = .int .i64 := by kernel_rfl
@[go_sem] theorem tcv_12_3 : tcv Try.prog 12 3 = .int .i64 := by kernel_rfl
@[go_sem] theorem tcv_12_27 : tcv Try.prog 12 27 = .int .i64 := by kernel_rfl
@[go_sem] theorem tcv_12_5 : tcv Try.prog 12 5 = .int .u8 := by kernel_rfl
@[go_sem] theorem tcv_12_12 : tcv Try.prog 12 12 = .int .u64 := by kernel_rfl
@[go_sem] theorem tcv_12_21 : tcv Try.prog 12 21 = .int .i32 := by kernel_rfl
@[go_sem] theorem tcv_12_52 : tcv Try.prog 12 52 = .int .u32 := by kernel_rfl
@[go_sem] theorem tcv_21_2 : tcv Try.prog 21 2 = .int .i64 := by kernel_rfl
@[go_sem] theorem tcv_21_3 : tcv Try.prog 21 3 = .int .i64 := by kernel_rfl
@[go_sem] theorem tcv_21_27 : tcv Try.prog 21 27 = .int .i64 := by kernel_rfl
@[go_sem] theorem tcv_21_5 : tcv Try.prog 21 5 = .int .u8 := by kernel_rfl
@[go_sem] theorem tcv_21_12 : tcv Try.prog 21 12 = .int .u64 := by kernel_rfl
@[go_sem] theorem tcv_21_21 : tcv Try.prog 21 21 = .int .i32 := by kernel_rfl
@[go_sem] theorem tcv_21_52 : tcv Try.prog 21 52 = .int .u32 := by kernel_rfl
@[go_sem] theorem tcv_52_2 : tcv Try.prog 52 2 = .int .i64 := by kernel_rfl
@[go_sem] theorem tcv_52_3 : tcv Try.prog 52 3 = .int .i64 := by kernel_rfl
@[go_sem] theorem tcv_52_27 : tcv Try.prog 52 27 = .int .i64 := by kernel_rfl
@[go_sem] theorem tcv_52_5 : tcv Try.prog 52 5 = .int .u8 := by kernel_rfl
@[go_sem] theorem tcv_52_12 : tcv Try.prog 52 12 = .int .u64 := by kernel_rfl
@[go_sem] theorem tcv_52_21 : tcv Try.prog 52 21 = .int .i32 := by kernel_rfl
@[go_sem] theorem tcv_52_52 : tcv Try.prog 52 52 = .int .u32 := by kernel_rfl
end Go.Proofs.Ythlekjgfnldbjaa
