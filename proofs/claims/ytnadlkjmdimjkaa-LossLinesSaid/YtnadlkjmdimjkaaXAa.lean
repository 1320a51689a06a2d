/- Facts on the table of types of this seat, printed by program: one rule a fact. -/
import Derived.Test.YtnadlkjmdimjkaaPlF
import Derived.Test.YtnadlkjmdimjkaaProg
import Derived.KernelRfl
set_option linter.unusedSimpArgs false
set_option linter.unusedVariables false
namespace Go.Proofs.Ytnadlkjmdimjkaa
open Go.PL
@[go_sem] theorem tkn_2 : tkn Try.prog 2 = true := by kernel_rfl
@[go_sem] theorem tsz_2 : tsz Try.prog 2 = 1 := by kernel_rfl
@[go_sem] theorem tagg_2 : tagg Try.prog 2 = false := by kernel_rfl
@[go_sem] theorem tzero_2 : tzero Try.prog 2 = some [.int .i64 0] := by kernel_rfl
@[go_sem] theorem tbdz_2 : aMakeFull.tbdz Try.prog 2 = some [.int .i64 0] := by kernel_rfl
@[go_sem] theorem tkn_3 : tkn Try.prog 3 = true := by kernel_rfl
@[go_sem] theorem tsz_3 : tsz Try.prog 3 = 1 := by kernel_rfl
@[go_sem] theorem tagg_3 : tagg Try.prog 3 = false := by kernel_rfl
@[go_sem] theorem tzero_3 : tzero Try.prog 3 = some [.int .i64 0] := by kernel_rfl
@[go_sem] theorem tbdz_3 : aMakeFull.tbdz Try.prog 3 = some [.int .i64 0] := by kernel_rfl
@[go_sem] theorem tkn_4 : tkn Try.prog 4 = true := by kernel_rfl
@[go_sem] theorem tsz_4 : tsz Try.prog 4 = 1 := by kernel_rfl
@[go_sem] theorem tagg_4 : tagg Try.prog 4 = false := by kernel_rfl
@[go_sem] theorem tzero_4 : tzero Try.prog 4 = some [.bool false] := by kernel_rfl
@[go_sem] theorem tbdz_4 : aMakeFull.tbdz Try.prog 4 = some [.bool false] := by kernel_rfl
@[go_sem] theorem teqk_4 : teqk Try.prog 4 = .bool := by kernel_rfl
@[go_sem] theorem tkn_5 : tkn Try.prog 5 = true := by kernel_rfl
@[go_sem] theorem tsz_5 : tsz Try.prog 5 = 1 := by kernel_rfl
@[go_sem] theorem tagg_5 : tagg Try.prog 5 = false := by kernel_rfl
@[go_sem] theorem tzero_5 : tzero Try.prog 5 = some [.int .u8 0] := by kernel_rfl
@[go_sem] theorem tbdz_5 : aMakeFull.tbdz Try.prog 5 = some [.int .u8 0] := by kernel_rfl
@[go_sem] theorem tkn_9 : tkn Try.prog 9 = true := by kernel_rfl
@[go_sem] theorem tsz_9 : tsz Try.prog 9 = 1 := by kernel_rfl
@[go_sem] theorem tagg_9 : tagg Try.prog 9 = false := by kernel_rfl
@[go_sem] theorem tzero_9 : tzero Try.prog 9 = some [.str []] := by kernel_rfl
@[go_sem] theorem tbdz_9 : aMakeFull.tbdz Try.prog 9 = some [.str []] := by kernel_rfl
@[go_sem] theorem tix_9 : tix Try.prog 9 = .str := by kernel_rfl
@[go_sem] theorem tlen_9 : tlen Try.prog 9 = .str := by kernel_rfl
@[go_sem] theorem tkn_12 : tkn Try.prog 12 = true := by kernel_rfl
@[go_sem] theorem tsz_12 : tsz Try.prog 12 = 1 := by kernel_rfl
@[go_sem] theorem tagg_12 : tagg Try.prog 12 = false := by kernel_rfl
@[go_sem] theorem tzero_12 : tzero Try.prog 12 = some [.int .u64 0] := by kernel_rfl
@[go_sem] theorem tbdz_12 : aMakeFull.tbdz Try.prog 12 = some [.int .u64 0] := by kernel_rfl
@[go_sem] theorem tkn_21 : tkn Try.prog 21 = true := by kernel_rfl
@[go_sem] theorem tsz_21 : tsz Try.prog 21 = 1 := by kernel_rfl
@[go_sem] theorem tagg_21 : tagg Try.prog 21 = false := by kernel_rfl
@[go_sem] theorem tzero_21 : tzero Try.prog 21 = some [.int .i32 0] := by kernel_rfl
@[go_sem] theorem tbdz_21 : aMakeFull.tbdz Try.prog 21 = some [.int .i32 0] := by kernel_rfl
@[go_sem] theorem tkn_22 : tkn Try.prog 22 = true := by kernel_rfl
@[go_sem] theorem tsz_22 : tsz Try.prog 22 = 1 := by kernel_rfl
@[go_sem] theorem tagg_22 : tagg Try.prog 22 = false := by kernel_rfl
@[go_sem] theorem tzero_22 : tzero Try.prog 22 = some [.sl .nil []] := by kernel_rfl
@[go_sem] theorem tbdz_22 : aMakeFull.tbdz Try.prog 22 = some [.sl .nil []] := by kernel_rfl
@[go_sem] theorem tix_22 : tix Try.prog 22 = .slc 7 true := by kernel_rfl
@[go_sem] theorem tlen_22 : tlen Try.prog 22 = .slc := by kernel_rfl
@[go_sem] theorem teqk_22 : teqk Try.prog 22 = .slc := by kernel_rfl
@[go_sem] theorem telem_22 : telem Try.prog 22 = some ⟨27, 7, 88⟩ := by kernel_rfl
@[go_sem] theorem tkn_24 : tkn Try.prog 24 = true := by kernel_rfl
@[go_sem] theorem tsz_24 : tsz Try.prog 24 = 3 := by kernel_rfl
@[go_sem] theorem tagg_24 : tagg Try.prog 24 = true := by kernel_rfl
@[go_sem] theorem tzero_24 : tzero Try.prog 24 = some [.int .i64 0, .str [], .str []] := by kernel_rfl
@[go_sem] theorem tbdz_24 : aMakeFull.tbdz Try.prog 24 = some [.int .i64 0, .str [], .str []] := by kernel_rfl
@[go_sem] theorem tfld_24_0 : tfld Try.prog 24 0 = some (0, 1, false) := by kernel_rfl
@[go_sem] theorem tfld_24_1 : tfld Try.prog 24 1 = some (1, 1, false) := by kernel_rfl
@[go_sem] theorem tfld_24_2 : tfld Try.prog 24 2 = some (2, 1, false) := by kernel_rfl
@[go_sem] theorem tbd_24 : tbd Try.prog 24 = .str [(0, 1), (1, 1), (2, 1)] [.int .i64 0, .str [], .str []] := by kernel_rfl
@[go_sem] theorem tleaves_24 : tleaves Try.prog 24 = some [.int, .str, .str] := by kernel_rfl
@[go_sem] theorem tkn_25 : tkn Try.prog 25 = true := by kernel_rfl
@[go_sem] theorem tsz_25 : tsz Try.prog 25 = 3 := by kernel_rfl
@[go_sem] theorem tagg_25 : tagg Try.prog 25 = true := by kernel_rfl
@[go_sem] theorem tzero_25 : tzero Try.prog 25 = some [.int .i64 0, .str [], .str []] := by kernel_rfl
@[go_sem] theorem tbdz_25 : aMakeFull.tbdz Try.prog 25 = some [.int .i64 0, .str [], .str []] := by kernel_rfl
@[go_sem] theorem tfld_25_0 : tfld Try.prog 25 0 = some (0, 1, false) := by kernel_rfl
@[go_sem] theorem tfld_25_1 : tfld Try.prog 25 1 = some (1, 1, false) := by kernel_rfl
@[go_sem] theorem tfld_25_2 : tfld Try.prog 25 2 = some (2, 1, false) := by kernel_rfl
@[go_sem] theorem tbd_25 : tbd Try.prog 25 = .str [(0, 1), (1, 1), (2, 1)] [.int .i64 0, .str [], .str []] := by kernel_rfl
@[go_sem] theorem tleaves_25 : tleaves Try.prog 25 = some [.int, .str, .str] := by kernel_rfl
@[go_sem] theorem tkn_26 : tkn Try.prog 26 = true := by kernel_rfl
@[go_sem] theorem tsz_26 : tsz Try.prog 26 = 7 := by kernel_rfl
@[go_sem] theorem tagg_26 : tagg Try.prog 26 = true := by kernel_rfl
@[go_sem] theorem tzero_26 : tzero Try.prog 26 = some [.int .i64 0, .int .i64 0, .str [], .str [], .int .i64 0, .str [], .str []] := by kernel_rfl
@[go_sem] theorem tbdz_26 : aMakeFull.tbdz Try.prog 26 = some [.int .i64 0, .int .i64 0, .str [], .str [], .int .i64 0, .str [], .str []] := by kernel_rfl
@[go_sem] theorem tfld_26_0 : tfld Try.prog 26 0 = some (0, 1, false) := by kernel_rfl
@[go_sem] theorem tfld_26_1 : tfld Try.prog 26 1 = some (1, 3, true) := by kernel_rfl
@[go_sem] theorem tfld_26_2 : tfld Try.prog 26 2 = some (4, 3, true) := by kernel_rfl
@[go_sem] theorem tbd_26 : tbd Try.prog 26 = .str [(0, 1), (1, 3), (4, 3)] [.int .i64 0, .int .i64 0, .str [], .str [], .int .i64 0, .str [], .str []] := by kernel_rfl
@[go_sem] theorem tleaves_26 : tleaves Try.prog 26 = some [.int, .int, .str, .str, .int, .str, .str] := by kernel_rfl
@[go_sem] theorem tkn_27 : tkn Try.prog 27 = true := by kernel_rfl
@[go_sem] theorem tsz_27 : tsz Try.prog 27 = 7 := by kernel_rfl
@[go_sem] theorem tagg_27 : tagg Try.prog 27 = true := by kernel_rfl
@[go_sem] theorem tzero_27 : tzero Try.prog 27 = some [.int .i64 0, .int .i64 0, .str [], .str [], .int .i64 0, .str [], .str []] := by kernel_rfl
@[go_sem] theorem tbdz_27 : aMakeFull.tbdz Try.prog 27 = some [.int .i64 0, .int .i64 0, .str [], .str [], .int .i64 0, .str [], .str []] := by kernel_rfl
@[go_sem] theorem tfld_27_0 : tfld Try.prog 27 0 = some (0, 1, false) := by kernel_rfl
@[go_sem] theorem tfld_27_1 : tfld Try.prog 27 1 = some (1, 3, true) := by kernel_rfl
@[go_sem] theorem tfld_27_2 : tfld Try.prog 27 2 = some (4, 3, true) := by kernel_rfl
@[go_sem] theorem tbd_27 : tbd Try.prog 27 = .str [(0, 1), (1, 3), (4, 3)] [.int .i64 0, .int .i64 0, .str [], .str [], .int .i64 0, .str [], .str []] := by kernel_rfl
@[go_sem] theorem tleaves_27 : tleaves Try.prog 27 = some [.int, .int, .str, .str, .int, .str, .str] := by kernel_rfl
@[go_sem] theorem tkn_29 : tkn Try.prog 29 = true := by kernel_rfl
@[go_sem] theorem tsz_29 : tsz Try.prog 29 = 1 := by kernel_rfl
@[go_sem] theorem tagg_29 : tagg Try.prog 29 = false := by kernel_rfl
@[go_sem] theorem tzero_29 : tzero Try.prog 29 = some [.sl .nil []] := by kernel_rfl
@[go_sem] theorem tbdz_29 : aMakeFull.tbdz Try.prog 29 = some [.sl .nil []] := by kernel_rfl
@[go_sem] theorem tix_29 : tix Try.prog 29 = .slc 1 false := by kernel_rfl
@[go_sem] theorem tlen_29 : tlen Try.prog 29 = .slc := by kernel_rfl
@[go_sem] theorem teqk_29 : teqk Try.prog 29 = .slc := by kernel_rfl
@[go_sem] theorem telem_29 : telem Try.prog 29 = some ⟨9, 1, 16⟩ := by kernel_rfl
@[go_sem] theorem tkn_32 : tkn Try.prog 32 = true := by kernel_rfl
@[go_sem] theorem tsz_32 : tsz Try.prog 32 = 1 := by kernel_rfl
@[go_sem] theorem tagg_32 : tagg Try.prog 32 = false := by kernel_rfl
@[go_sem] theorem tzero_32 : tzero Try.prog 32 = some [.nilp] := by kernel_rfl
@[go_sem] theorem tbdz_32 : aMakeFull.tbdz Try.prog 32 = some [.nilp] := by kernel_rfl
@[go_sem] theorem teqk_32 : teqk Try.prog 32 = .ptr := by kernel_rfl
@[go_sem] theorem tkn_34 : tkn Try.prog 34 = true := by kernel_rfl
@[go_sem] theorem tsz_34 : tsz Try.prog 34 = 2 := by kernel_rfl
@[go_sem] theorem tagg_34 : tagg Try.prog 34 = true := by kernel_rfl
@[go_sem] theorem tzero_34 : tzero Try.prog 34 = some [.int .i64 0, .int .i64 0] := by kernel_rfl
@[go_sem] theorem tbdz_34 : aMakeFull.tbdz Try.prog 34 = some [.int .i64 0, .int .i64 0] := by kernel_rfl
@[go_sem] theorem tfld_34_0 : tfld Try.prog 34 0 = some (0, 1, false) := by kernel_rfl
@[go_sem] theorem tfld_34_1 : tfld Try.prog 34 1 = some (1, 1, false) := by kernel_rfl
@[go_sem] theorem tbd_34 : tbd Try.prog 34 = .str [(0, 1), (1, 1)] [.int .i64 0, .int .i64 0] := by kernel_rfl
@[go_sem] theorem tleaves_34 : tleaves Try.prog 34 = some [.int, .int] := by kernel_rfl
@[go_sem] theorem tkn_35 : tkn Try.prog 35 = true := by kernel_rfl
@[go_sem] theorem tsz_35 : tsz Try.prog 35 = 2 := by kernel_rfl
@[go_sem] theorem tagg_35 : tagg Try.prog 35 = true := by kernel_rfl
@[go_sem] theorem tzero_35 : tzero Try.prog 35 = some [.int .i64 0, .int .i64 0] := by kernel_rfl
@[go_sem] theorem tbdz_35 : aMakeFull.tbdz Try.prog 35 = some [.int .i64 0, .int .i64 0] := by kernel_rfl
@[go_sem] theorem tfld_35_0 : tfld Try.prog 35 0 = some (0, 1, false) := by kernel_rfl
@[go_sem] theorem tfld_35_1 : tfld Try.prog 35 1 = some (1, 1, false) := by kernel_rfl
@[go_sem] theorem tbd_35 : tbd Try.prog 35 = .str [(0, 1), (1, 1)] [.int .i64 0, .int .i64 0] := by kernel_rfl
@[go_sem] theorem tleaves_35 : tleaves Try.prog 35 = some [.int, .int] := by kernel_rfl
@[go_sem] theorem tkn_36 : tkn Try.prog 36 = true := by kernel_rfl
@[go_sem] theorem tsz_36 : tsz Try.prog 36 = 1 := by kernel_rfl
@[go_sem] theorem tagg_36 : tagg Try.prog 36 = false := by kernel_rfl
@[go_sem] theorem tzero_36 : tzero Try.prog 36 = some [.int .i64 0] := by kernel_rfl
@[go_sem] theorem tbdz_36 : aMakeFull.tbdz Try.prog 36 = some [.int .i64 0] := by kernel_rfl
@[go_sem] theorem tkn_38 : tkn Try.prog 38 = true := by kernel_rfl
@[go_sem] theorem tsz_38 : tsz Try.prog 38 = 7 := by kernel_rfl
@[go_sem] theorem tagg_38 : tagg Try.prog 38 = true := by kernel_rfl
@[go_sem] theorem tzero_38 : tzero Try.prog 38 = some [.int .i64 0, .str [], .str [], .int .i64 0, .str [], .sl .nil [], .int .i64 0] := by kernel_rfl
@[go_sem] theorem tbdz_38 : aMakeFull.tbdz Try.prog 38 = some [.int .i64 0, .str [], .str [], .int .i64 0, .str [], .sl .nil [], .int .i64 0] := by kernel_rfl
@[go_sem] theorem tfld_38_0 : tfld Try.prog 38 0 = some (0, 3, true) := by kernel_rfl
@[go_sem] theorem tfld_38_1 : tfld Try.prog 38 1 = some (3, 1, false) := by kernel_rfl
@[go_sem] theorem tfld_38_2 : tfld Try.prog 38 2 = some (4, 1, false) := by kernel_rfl
@[go_sem] theorem tfld_38_3 : tfld Try.prog 38 3 = some (5, 1, false) := by kernel_rfl
@[go_sem] theorem tfld_38_4 : tfld Try.prog 38 4 = some (6, 1, false) := by kernel_rfl
@[go_sem] theorem tbd_38 : tbd Try.prog 38 = .str [(0, 3), (3, 1), (4, 1), (5, 1), (6, 1)] [.int .i64 0, .str [], .str [], .int .i64 0, .str [], .sl .nil [], .int .i64 0] := by kernel_rfl
@[go_sem] theorem tkn_39 : tkn Try.prog 39 = true := by kernel_rfl
@[go_sem] theorem tsz_39 : tsz Try.prog 39 = 7 := by kernel_rfl
@[go_sem] theorem tagg_39 : tagg Try.prog 39 = true := by kernel_rfl
@[go_sem] theorem tzero_39 : tzero Try.prog 39 = some [.int .i64 0, .str [], .str [], .int .i64 0, .str [], .sl .nil [], .int .i64 0] := by kernel_rfl
@[go_sem] theorem tbdz_39 : aMakeFull.tbdz Try.prog 39 = some [.int .i64 0, .str [], .str [], .int .i64 0, .str [], .sl .nil [], .int .i64 0] := by kernel_rfl
@[go_sem] theorem tfld_39_0 : tfld Try.prog 39 0 = some (0, 3, true) := by kernel_rfl
@[go_sem] theorem tfld_39_1 : tfld Try.prog 39 1 = some (3, 1, false) := by kernel_rfl
@[go_sem] theorem tfld_39_2 : tfld Try.prog 39 2 = some (4, 1, false) := by kernel_rfl
@[go_sem] theorem tfld_39_3 : tfld Try.prog 39 3 = some (5, 1, false) := by kernel_rfl
@[go_sem] theorem tfld_39_4 : tfld Try.prog 39 4 = some (6, 1, false) := by kernel_rfl
@[go_sem] theorem tbd_39 : tbd Try.prog 39 = .str [(0, 3), (3, 1), (4, 1), (5, 1), (6, 1)] [.int .i64 0, .str [], .str [], .int .i64 0, .str [], .sl .nil [], .int .i64 0] := by kernel_rfl
@[go_sem] theorem tkn_40 : tkn Try.prog 40 = true := by kernel_rfl
@[go_sem] theorem tsz_40 : tsz Try.prog 40 = 1 := by kernel_rfl
@[go_sem] theorem tagg_40 : tagg Try.prog 40 = false := by kernel_rfl
@[go_sem] theorem tzero_40 : tzero Try.prog 40 = some [.sl .nil []] := by kernel_rfl
@[go_sem] theorem tbdz_40 : aMakeFull.tbdz Try.prog 40 = some [.sl .nil []] := by kernel_rfl
@[go_sem] theorem tix_40 : tix Try.prog 40 = .slc 2 true := by kernel_rfl
@[go_sem] theorem tlen_40 : tlen Try.prog 40 = .slc := by kernel_rfl
@[go_sem] theorem teqk_40 : teqk Try.prog 40 = .slc := by kernel_rfl
@[go_sem] theorem telem_40 : telem Try.prog 40 = some ⟨120, 2, 32⟩ := by kernel_rfl
@[go_sem] theorem tkn_41 : tkn Try.prog 41 = true := by kernel_rfl
@[go_sem] theorem tsz_41 : tsz Try.prog 41 = 16 := by kernel_rfl
@[go_sem] theorem tagg_41 : tagg Try.prog 41 = true := by kernel_rfl
@[go_sem] theorem tzero_41 : tzero Try.prog 41 = some [.int .i64 0, .int .i64 0, .str [], .str [], .str [], .str [], .int .i64 0, .int .i64 0, .str [], .str [], .int .i64 0, .str [], .sl .nil [], .int .i64 0, .sl .nil [], .sl .nil []] := by kernel_rfl
@[go_sem] theorem tbdz_41 : aMakeFull.tbdz Try.prog 41 = some [.int .i64 0, .int .i64 0, .str [], .str [], .str [], .str [], .int .i64 0, .int .i64 0, .str [], .str [], .int .i64 0, .str [], .sl .nil [], .int .i64 0, .sl .nil [], .sl .nil []] := by kernel_rfl
@[go_sem] theorem tfld_41_0 : tfld Try.prog 41 0 = some (0, 1, false) := by kernel_rfl
@[go_sem] theorem tfld_41_1 : tfld Try.prog 41 1 = some (1, 3, true) := by kernel_rfl
@[go_sem] theorem tfld_41_2 : tfld Try.prog 41 2 = some (4, 1, false) := by kernel_rfl
@[go_sem] theorem tfld_41_3 : tfld Try.prog 41 3 = some (5, 1, false) := by kernel_rfl
@[go_sem] theorem tfld_41_4 : tfld Try.prog 41 4 = some (6, 1, false) := by kernel_rfl
@[go_sem] theorem tfld_41_5 : tfld Try.prog 41 5 = some (7, 7, true) := by kernel_rfl
@[go_sem] theorem tfld_41_6 : tfld Try.prog 41 6 = some (14, 1, false) := by kernel_rfl
@[go_sem] theorem tfld_41_7 : tfld Try.prog 41 7 = some (15, 1, false) := by kernel_rfl
@[go_sem] theorem tbd_41 : tbd Try.prog 41 = .str [(0, 1), (1, 3), (4, 1), (5, 1), (6, 1), (7, 7), (14, 1), (15, 1)] [.int .i64 0, .int .i64 0, .str [], .str [], .str [], .str [], .int .i64 0, .int .i64 0, .str [], .str [], .int .i64 0, .str [], .sl .nil [], .int .i64 0, .sl .nil [], .sl .nil []] := by kernel_rfl
@[go_sem] theorem tkn_42 : tkn Try.prog 42 = true := by kernel_rfl
@[go_sem] theorem tsz_42 : tsz Try.prog 42 = 16 := by kernel_rfl
@[go_sem] theorem tagg_42 : tagg Try.prog 42 = true := by kernel_rfl
@[go_sem] theorem tzero_42 : tzero Try.prog 42 = some [.int .i64 0, .int .i64 0, .str [], .str [], .str [], .str [], .int .i64 0, .int .i64 0, .str [], .str [], .int .i64 0, .str [], .sl .nil [], .int .i64 0, .sl .nil [], .sl .nil []] := by kernel_rfl
@[go_sem] theorem tbdz_42 : aMakeFull.tbdz Try.prog 42 = some [.int .i64 0, .int .i64 0, .str [], .str [], .str [], .str [], .int .i64 0, .int .i64 0, .str [], .str [], .int .i64 0, .str [], .sl .nil [], .int .i64 0, .sl .nil [], .sl .nil []] := by kernel_rfl
@[go_sem] theorem tfld_42_0 : tfld Try.prog 42 0 = some (0, 1, false) := by kernel_rfl
@[go_sem] theorem tfld_42_1 : tfld Try.prog 42 1 = some (1, 3, true) := by kernel_rfl
@[go_sem] theorem tfld_42_2 : tfld Try.prog 42 2 = some (4, 1, false) := by kernel_rfl
@[go_sem] theorem tfld_42_3 : tfld Try.prog 42 3 = some (5, 1, false) := by kernel_rfl
@[go_sem] theorem tfld_42_4 : tfld Try.prog 42 4 = some (6, 1, false) := by kernel_rfl
@[go_sem] theorem tfld_42_5 : tfld Try.prog 42 5 = some (7, 7, true) := by kernel_rfl
@[go_sem] theorem tfld_42_6 : tfld Try.prog 42 6 = some (14, 1, false) := by kernel_rfl
@[go_sem] theorem tfld_42_7 : tfld Try.prog 42 7 = some (15, 1, false) := by kernel_rfl
@[go_sem] theorem tbd_42 : tbd Try.prog 42 = .str [(0, 1), (1, 3), (4, 1), (5, 1), (6, 1), (7, 7), (14, 1), (15, 1)] [.int .i64 0, .int .i64 0, .str [], .str [], .str [], .str [], .int .i64 0, .int .i64 0, .str [], .str [], .int .i64 0, .str [], .sl .nil [], .int .i64 0, .sl .nil [], .sl .nil []] := by kernel_rfl
@[go_sem] theorem tkn_43 : tkn Try.prog 43 = true := by kernel_rfl
@[go_sem] theorem tsz_43 : tsz Try.prog 43 = 20 := by kernel_rfl
@[go_sem] theorem tagg_43 : tagg Try.prog 43 = true := by kernel_rfl
@[go_sem] theorem tzero_43 : tzero Try.prog 43 = some [.int .i64 0, .int .i64 0, .int .i64 0, .int .i64 0, .int .i64 0, .int .i64 0, .str [], .str [], .str [], .str [], .int .i64 0, .int .i64 0, .str [], .str [], .int .i64 0, .str [], .sl .nil [], .int .i64 0, .sl .nil [], .sl .nil []] := by kernel_rfl
@[go_sem] theorem tbdz_43 : aMakeFull.tbdz Try.prog 43 = some [.int .i64 0, .int .i64 0, .int .i64 0, .int .i64 0, .int .i64 0, .int .i64 0, .str [], .str [], .str [], .str [], .int .i64 0, .int .i64 0, .str [], .str [], .int .i64 0, .str [], .sl .nil [], .int .i64 0, .sl .nil [], .sl .nil []] := by kernel_rfl
@[go_sem] theorem tfld_43_0 : tfld Try.prog 43 0 = some (0, 2, true) := by kernel_rfl
@[go_sem] theorem tfld_43_1 : tfld Try.prog 43 1 = some (2, 2, true) := by kernel_rfl
@[go_sem] theorem tfld_43_2 : tfld Try.prog 43 2 = some (4, 16, true) := by kernel_rfl
@[go_sem] theorem tbd_43 : tbd Try.prog 43 = .str [(0, 2), (2, 2), (4, 16)] [.int .i64 0, .int .i64 0, .int .i64 0, .int .i64 0, .int .i64 0, .int .i64 0, .str [], .str [], .str [], .str [], .int .i64 0, .int .i64 0, .str [], .str [], .int .i64 0, .str [], .sl .nil [], .int .i64 0, .sl .nil [], .sl .nil []] := by kernel_rfl
@[go_sem] theorem tkn_44 : tkn Try.prog 44 = true := by kernel_rfl
@[go_sem] theorem tsz_44 : tsz Try.prog 44 = 20 := by kernel_rfl
@[go_sem] theorem tagg_44 : tagg Try.prog 44 = true := by kernel_rfl
@[go_sem] theorem tzero_44 : tzero Try.prog 44 = some [.int .i64 0, .int .i64 0, .int .i64 0, .int .i64 0, .int .i64 0, .int .i64 0, .str [], .str [], .str [], .str [], .int .i64 0, .int .i64 0, .str [], .str [], .int .i64 0, .str [], .sl .nil [], .int .i64 0, .sl .nil [], .sl .nil []] := by kernel_rfl
@[go_sem] theorem tbdz_44 : aMakeFull.tbdz Try.prog 44 = some [.int .i64 0, .int .i64 0, .int .i64 0, .int .i64 0, .int .i64 0, .int .i64 0, .str [], .str [], .str [], .str [], .int .i64 0, .int .i64 0, .str [], .str [], .int .i64 0, .str [], .sl .nil [], .int .i64 0, .sl .nil [], .sl .nil []] := by kernel_rfl
@[go_sem] theorem tfld_44_0 : tfld Try.prog 44 0 = some (0, 2, true) := by kernel_rfl
@[go_sem] theorem tfld_44_1 : tfld Try.prog 44 1 = some (2, 2, true) := by kernel_rfl
@[go_sem] theorem tfld_44_2 : tfld Try.prog 44 2 = some (4, 16, true) := by kernel_rfl
@[go_sem] theorem tbd_44 : tbd Try.prog 44 = .str [(0, 2), (2, 2), (4, 16)] [.int .i64 0, .int .i64 0, .int .i64 0, .int .i64 0, .int .i64 0, .int .i64 0, .str [], .str [], .str [], .str [], .int .i64 0, .int .i64 0, .str [], .str [], .int .i64 0, .str [], .sl .nil [], .int .i64 0, .sl .nil [], .sl .nil []] := by kernel_rfl
@[go_sem] theorem tkn_51 : tkn Try.prog 51 = true := by kernel_rfl
@[go_sem] theorem tsz_51 : tsz Try.prog 51 = 1 := by kernel_rfl
@[go_sem] theorem tagg_51 : tagg Try.prog 51 = false := by kernel_rfl
@[go_sem] theorem tzero_51 : tzero Try.prog 51 = some [.nilmap] := by kernel_rfl
@[go_sem] theorem tbdz_51 : aMakeFull.tbdz Try.prog 51 = some [.nilmap] := by kernel_rfl
@[go_sem] theorem teqk_51 : teqk Try.prog 51 = .map := by kernel_rfl
@[go_sem] theorem tmapB_51 : tmapB Try.prog 51 = true := by kernel_rfl
@[go_sem] theorem tmap_51 : tmap Try.prog 51 = some ([.int, .int], .agg [.int .i64 0, .int .i64 0, .int .i64 0, .int .i64 0, .int .i64 0, .int .i64 0, .str [], .str [], .str [], .str [], .int .i64 0, .int .i64 0, .str [], .str [], .int .i64 0, .str [], .sl .nil [], .int .i64 0, .sl .nil [], .sl .nil [], .int .i64 0, .sl .nil [], .int .i64 0]) := by kernel_rfl
@[go_sem] theorem tkn_52 : tkn Try.prog 52 = true := by kernel_rfl
@[go_sem] theorem tsz_52 : tsz Try.prog 52 = 1 := by kernel_rfl
@[go_sem] theorem tagg_52 : tagg Try.prog 52 = true := by kernel_rfl
@[go_sem] theorem tzero_52 : tzero Try.prog 52 = some [.nilmap] := by kernel_rfl
@[go_sem] theorem tbdz_52 : aMakeFull.tbdz Try.prog 52 = some [.nilmap] := by kernel_rfl
@[go_sem] theorem tfld_52_0 : tfld Try.prog 52 0 = some (0, 1, false) := by kernel_rfl
@[go_sem] theorem tbd_52 : tbd Try.prog 52 = .str [(0, 1)] [.nilmap] := by kernel_rfl
@[go_sem] theorem tkn_53 : tkn Try.prog 53 = true := by kernel_rfl
@[go_sem] theorem tsz_53 : tsz Try.prog 53 = 1 := by kernel_rfl
@[go_sem] theorem tagg_53 : tagg Try.prog 53 = true := by kernel_rfl
@[go_sem] theorem tzero_53 : tzero Try.prog 53 = some [.nilmap] := by kernel_rfl
@[go_sem] theorem tbdz_53 : aMakeFull.tbdz Try.prog 53 = some [.nilmap] := by kernel_rfl
@[go_sem] theorem tfld_53_0 : tfld Try.prog 53 0 = some (0, 1, false) := by kernel_rfl
@[go_sem] theorem tbd_53 : tbd Try.prog 53 = .str [(0, 1)] [.nilmap] := by kernel_rfl
@[go_sem] theorem tkn_55 : tkn Try.prog 55 = true := by kernel_rfl
@[go_sem] theorem tsz_55 : tsz Try.prog 55 = 1 := by kernel_rfl
@[go_sem] theorem tagg_55 : tagg Try.prog 55 = false := by kernel_rfl
@[go_sem] theorem tzero_55 : tzero Try.prog 55 = some [.sl .nil []] := by kernel_rfl
@[go_sem] theorem tbdz_55 : aMakeFull.tbdz Try.prog 55 = some [.sl .nil []] := by kernel_rfl
@[go_sem] theorem tix_55 : tix Try.prog 55 = .slc 7 true := by kernel_rfl
@[go_sem] theorem tlen_55 : tlen Try.prog 55 = .slc := by kernel_rfl
@[go_sem] theorem teqk_55 : teqk Try.prog 55 = .slc := by kernel_rfl
@[go_sem] theorem telem_55 : telem Try.prog 55 = some ⟨39, 7, 96⟩ := by kernel_rfl
@[go_sem] theorem tkn_56 : tkn Try.prog 56 = true := by kernel_rfl
@[go_sem] theorem tsz_56 : tsz Try.prog 56 = 23 := by kernel_rfl
@[go_sem] theorem tagg_56 : tagg Try.prog 56 = true := by kernel_rfl
@[go_sem] theorem tzero_56 : tzero Try.prog 56 = some [.int .i64 0, .int .i64 0, .int .i64 0, .int .i64 0, .int .i64 0, .int .i64 0, .str [], .str [], .str [], .str [], .int .i64 0, .int .i64 0, .str [], .str [], .int .i64 0, .str [], .sl .nil [], .int .i64 0, .sl .nil [], .sl .nil [], .int .i64 0, .sl .nil [], .int .i64 0] := by kernel_rfl
@[go_sem] theorem tbdz_56 : aMakeFull.tbdz Try.prog 56 = some [.int .i64 0, .int .i64 0, .int .i64 0, .int .i64 0, .int .i64 0, .int .i64 0, .str [], .str [], .str [], .str [], .int .i64 0, .int .i64 0, .str [], .str [], .int .i64 0, .str [], .sl .nil [], .int .i64 0, .sl .nil [], .sl .nil [], .int .i64 0, .sl .nil [], .int .i64 0] := by kernel_rfl
@[go_sem] theorem tfld_56_0 : tfld Try.prog 56 0 = some (0, 20, true) := by kernel_rfl
@[go_sem] theorem tfld_56_1 : tfld Try.prog 56 1 = some (20, 1, false) := by kernel_rfl
@[go_sem] theorem tfld_56_2 : tfld Try.prog 56 2 = some (21, 1, false) := by kernel_rfl
@[go_sem] theorem tfld_56_3 : tfld Try.prog 56 3 = some (22, 1, false) := by kernel_rfl
@[go_sem] theorem tbd_56 : tbd Try.prog 56 = .str [(0, 20), (20, 1), (21, 1), (22, 1)] [.int .i64 0, .int .i64 0, .int .i64 0, .int .i64 0, .int .i64 0, .int .i64 0, .str [], .str [], .str [], .str [], .int .i64 0, .int .i64 0, .str [], .str [], .int .i64 0, .str [], .sl .nil [], .int .i64 0, .sl .nil [], .sl .nil [], .int .i64 0, .sl .nil [], .int .i64 0] := by kernel_rfl
@[go_sem] theorem tkn_57 : tkn Try.prog 57 = true := by kernel_rfl
@[go_sem] theorem tsz_57 : tsz Try.prog 57 = 23 := by kernel_rfl
@[go_sem] theorem tagg_57 : tagg Try.prog 57 = true := by kernel_rfl
@[go_sem] theorem tzero_57 : tzero Try.prog 57 = some [.int .i64 0, .int .i64 0, .int .i64 0, .int .i64 0, .int .i64 0, .int .i64 0, .str [], .str [], .str [], .str [], .int .i64 0, .int .i64 0, .str [], .str [], .int .i64 0, .str [], .sl .nil [], .int .i64 0, .sl .nil [], .sl .nil [], .int .i64 0, .sl .nil [], .int .i64 0] := by kernel_rfl
@[go_sem] theorem tbdz_57 : aMakeFull.tbdz Try.prog 57 = some [.int .i64 0, .int .i64 0, .int .i64 0, .int .i64 0, .int .i64 0, .int .i64 0, .str [], .str [], .str [], .str [], .int .i64 0, .int .i64 0, .str [], .str [], .int .i64 0, .str [], .sl .nil [], .int .i64 0, .sl .nil [], .sl .nil [], .int .i64 0, .sl .nil [], .int .i64 0] := by kernel_rfl
@[go_sem] theorem tfld_57_0 : tfld Try.prog 57 0 = some (0, 20, true) := by kernel_rfl
@[go_sem] theorem tfld_57_1 : tfld Try.prog 57 1 = some (20, 1, false) := by kernel_rfl
@[go_sem] theorem tfld_57_2 : tfld Try.prog 57 2 = some (21, 1, false) := by kernel_rfl
@[go_sem] theorem tfld_57_3 : tfld Try.prog 57 3 = some (22, 1, false) := by kernel_rfl
@[go_sem] theorem tbd_57 : tbd Try.prog 57 = .str [(0, 20), (20, 1), (21, 1), (22, 1)] [.int .i64 0, .int .i64 0, .int .i64 0, .int .i64 0, .int .i64 0, .int .i64 0, .str [], .str [], .str [], .str [], .int .i64 0, .int .i64 0, .str [], .str [], .int .i64 0, .str [], .sl .nil [], .int .i64 0, .sl .nil [], .sl .nil [], .int .i64 0, .sl .nil [], .int .i64 0] := by kernel_rfl
@[go_sem] theorem tkn_63 : tkn Try.prog 63 = true := by kernel_rfl
@[go_sem] theorem tsz_63 : tsz Try.prog 63 = 1 := by kernel_rfl
@[go_sem] theorem tagg_63 : tagg Try.prog 63 = false := by kernel_rfl
@[go_sem] theorem tzero_63 : tzero Try.prog 63 = some [.nilmap] := by kernel_rfl
@[go_sem] theorem tbdz_63 : aMakeFull.tbdz Try.prog 63 = some [.nilmap] := by kernel_rfl
@[go_sem] theorem teqk_63 : teqk Try.prog 63 = .map := by kernel_rfl
@[go_sem] theorem tmapB_63 : tmapB Try.prog 63 = true := by kernel_rfl
@[go_sem] theorem tmap_63 : tmap Try.prog 63 = some ([.int, .str, .str], .agg []) := by kernel_rfl
@[go_sem] theorem tkn_66 : tkn Try.prog 66 = true := by kernel_rfl
@[go_sem] theorem tsz_66 : tsz Try.prog 66 = 0 := by kernel_rfl
@[go_sem] theorem tagg_66 : tagg Try.prog 66 = true := by kernel_rfl
@[go_sem] theorem tzero_66 : tzero Try.prog 66 = some [] := by kernel_rfl
@[go_sem] theorem tbdz_66 : aMakeFull.tbdz Try.prog 66 = some [] := by kernel_rfl
@[go_sem] theorem tbd_66 : tbd Try.prog 66 = .str [] [] := by kernel_rfl
@[go_sem] theorem tkn_81 : tkn Try.prog 81 = true := by kernel_rfl
@[go_sem] theorem tsz_81 : tsz Try.prog 81 = 1 := by kernel_rfl
@[go_sem] theorem tagg_81 : tagg Try.prog 81 = false := by kernel_rfl
@[go_sem] theorem tzero_81 : tzero Try.prog 81 = some [.sl .nil []] := by kernel_rfl
@[go_sem] theorem tbdz_81 : aMakeFull.tbdz Try.prog 81 = some [.sl .nil []] := by kernel_rfl
@[go_sem] theorem tix_81 : tix Try.prog 81 = .slc 16 true := by kernel_rfl
@[go_sem] theorem tlen_81 : tlen Try.prog 81 = .slc := by kernel_rfl
@[go_sem] theorem teqk_81 : teqk Try.prog 81 = .slc := by kernel_rfl
@[go_sem] theorem telem_81 : telem Try.prog 81 = some ⟨42, 16, 232⟩ := by kernel_rfl
@[go_sem] theorem tkn_84 : tkn Try.prog 84 = true := by kernel_rfl
@[go_sem] theorem tsz_84 : tsz Try.prog 84 = 1 := by kernel_rfl
@[go_sem] theorem tagg_84 : tagg Try.prog 84 = false := by kernel_rfl
@[go_sem] theorem tzero_84 : tzero Try.prog 84 = some [.sl .nil []] := by kernel_rfl
@[go_sem] theorem tbdz_84 : aMakeFull.tbdz Try.prog 84 = some [.sl .nil []] := by kernel_rfl
@[go_sem] theorem tix_84 : tix Try.prog 84 = .slc 3 true := by kernel_rfl
@[go_sem] theorem tlen_84 : tlen Try.prog 84 = .slc := by kernel_rfl
@[go_sem] theorem teqk_84 : teqk Try.prog 84 = .slc := by kernel_rfl
@[go_sem] theorem telem_84 : telem Try.prog 84 = some ⟨25, 3, 40⟩ := by kernel_rfl
@[go_sem] theorem tkn_106 : tkn Try.prog 106 = true := by kernel_rfl
@[go_sem] theorem tsz_106 : tsz Try.prog 106 = 1 := by kernel_rfl
@[go_sem] theorem tagg_106 : tagg Try.prog 106 = false := by kernel_rfl
@[go_sem] theorem tzero_106 : tzero Try.prog 106 = some [.sl .nil []] := by kernel_rfl
@[go_sem] theorem tbdz_106 : aMakeFull.tbdz Try.prog 106 = some [.sl .nil []] := by kernel_rfl
@[go_sem] theorem tix_106 : tix Try.prog 106 = .slc 3 true := by kernel_rfl
@[go_sem] theorem tlen_106 : tlen Try.prog 106 = .slc := by kernel_rfl
@[go_sem] theorem teqk_106 : teqk Try.prog 106 = .slc := by kernel_rfl
@[go_sem] theorem telem_106 : telem Try.prog 106 = some ⟨110, 3, 24⟩ := by kernel_rfl
@[go_sem] theorem tkn_109 : tkn Try.prog 109 = true := by kernel_rfl
@[go_sem] theorem tsz_109 : tsz Try.prog 109 = 3 := by kernel_rfl
@[go_sem] theorem tagg_109 : tagg Try.prog 109 = true := by kernel_rfl
@[go_sem] theorem tzero_109 : tzero Try.prog 109 = some [.int .i64 0, .int .i64 0, .bool false] := by kernel_rfl
@[go_sem] theorem tbdz_109 : aMakeFull.tbdz Try.prog 109 = some [.int .i64 0, .int .i64 0, .bool false] := by kernel_rfl
@[go_sem] theorem tfld_109_0 : tfld Try.prog 109 0 = some (0, 2, true) := by kernel_rfl
@[go_sem] theorem tfld_109_1 : tfld Try.prog 109 1 = some (2, 1, false) := by kernel_rfl
@[go_sem] theorem tbd_109 : tbd Try.prog 109 = .str [(0, 2), (2, 1)] [.int .i64 0, .int .i64 0, .bool false] := by kernel_rfl
@[go_sem] theorem tleaves_109 : tleaves Try.prog 109 = some [.int, .int, .bool] := by kernel_rfl
@[go_sem] theorem tkn_110 : tkn Try.prog 110 = true := by kernel_rfl
@[go_sem] theorem tsz_110 : tsz Try.prog 110 = 3 := by kernel_rfl
@[go_sem] theorem tagg_110 : tagg Try.prog 110 = true := by kernel_rfl
@[go_sem] theorem tzero_110 : tzero Try.prog 110 = some [.int .i64 0, .int .i64 0, .bool false] := by kernel_rfl
@[go_sem] theorem tbdz_110 : aMakeFull.tbdz Try.prog 110 = some [.int .i64 0, .int .i64 0, .bool false] := by kernel_rfl
@[go_sem] theorem tfld_110_0 : tfld Try.prog 110 0 = some (0, 2, true) := by kernel_rfl
@[go_sem] theorem tfld_110_1 : tfld Try.prog 110 1 = some (2, 1, false) := by kernel_rfl
@[go_sem] theorem tbd_110 : tbd Try.prog 110 = .str [(0, 2), (2, 1)] [.int .i64 0, .int .i64 0, .bool false] := by kernel_rfl
@[go_sem] theorem tleaves_110 : tleaves Try.prog 110 = some [.int, .int, .bool] := by kernel_rfl
@[go_sem] theorem tkn_119 : tkn Try.prog 119 = true := by kernel_rfl
@[go_sem] theorem tsz_119 : tsz Try.prog 119 = 2 := by kernel_rfl
@[go_sem] theorem tagg_119 : tagg Try.prog 119 = true := by kernel_rfl
@[go_sem] theorem tzero_119 : tzero Try.prog 119 = some [.str [], .str []] := by kernel_rfl
@[go_sem] theorem tbdz_119 : aMakeFull.tbdz Try.prog 119 = some [.str [], .str []] := by kernel_rfl
@[go_sem] theorem tfld_119_0 : tfld Try.prog 119 0 = some (0, 1, false) := by kernel_rfl
@[go_sem] theorem tfld_119_1 : tfld Try.prog 119 1 = some (1, 1, false) := by kernel_rfl
@[go_sem] theorem tbd_119 : tbd Try.prog 119 = .str [(0, 1), (1, 1)] [.str [], .str []] := by kernel_rfl
@[go_sem] theorem tleaves_119 : tleaves Try.prog 119 = some [.str, .str] := by kernel_rfl
@[go_sem] theorem tkn_120 : tkn Try.prog 120 = true := by kernel_rfl
@[go_sem] theorem tsz_120 : tsz Try.prog 120 = 2 := by kernel_rfl
@[go_sem] theorem tagg_120 : tagg Try.prog 120 = true := by kernel_rfl
@[go_sem] theorem tzero_120 : tzero Try.prog 120 = some [.str [], .str []] := by kernel_rfl
@[go_sem] theorem tbdz_120 : aMakeFull.tbdz Try.prog 120 = some [.str [], .str []] := by kernel_rfl
@[go_sem] theorem tfld_120_0 : tfld Try.prog 120 0 = some (0, 1, false) := by kernel_rfl
@[go_sem] theorem tfld_120_1 : tfld Try.prog 120 1 = some (1, 1, false) := by kernel_rfl
@[go_sem] theorem tbd_120 : tbd Try.prog 120 = .str [(0, 1), (1, 1)] [.str [], .str []] := by kernel_rfl
@[go_sem] theorem tleaves_120 : tleaves Try.prog 120 = some [.str, .str] := by kernel_rfl
@[go_sem] theorem tkn_128 : tkn Try.prog 128 = true := by kernel_rfl
@[go_sem] theorem tsz_128 : tsz Try.prog 128 = 1 := by kernel_rfl
@[go_sem] theorem tagg_128 : tagg Try.prog 128 = false := by kernel_rfl
@[go_sem] theorem tzero_128 : tzero Try.prog 128 = some [.sl .nil []] := by kernel_rfl
@[go_sem] theorem tbdz_128 : aMakeFull.tbdz Try.prog 128 = some [.sl .nil []] := by kernel_rfl
@[go_sem] theorem tix_128 : tix Try.prog 128 = .slc 2 true := by kernel_rfl
@[go_sem] theorem tlen_128 : tlen Try.prog 128 = .slc := by kernel_rfl
@[go_sem] theorem teqk_128 : teqk Try.prog 128 = .slc := by kernel_rfl
@[go_sem] theorem telem_128 : telem Try.prog 128 = some ⟨35, 2, 16⟩ := by kernel_rfl
@[go_sem] theorem tkn_140 : tkn Try.prog 140 = true := by kernel_rfl
@[go_sem] theorem tsz_140 : tsz Try.prog 140 = 0 := by kernel_rfl
@[go_sem] theorem tagg_140 : tagg Try.prog 140 = true := by kernel_rfl
@[go_sem] theorem tzero_140 : tzero Try.prog 140 = some [] := by kernel_rfl
@[go_sem] theorem tbdz_140 : aMakeFull.tbdz Try.prog 140 = some [] := by kernel_rfl
@[go_sem] theorem tix_140 : tix Try.prog 140 = .arr 0 1 false := by kernel_rfl
@[go_sem] theorem tlen_140 : tlen Try.prog 140 = .arr 0 := by kernel_rfl
@[go_sem] theorem tbd_140 : tbd Try.prog 140 = .arr 1 [] := by kernel_rfl
@[go_sem] theorem tkn_144 : tkn Try.prog 144 = true := by kernel_rfl
@[go_sem] theorem tsz_144 : tsz Try.prog 144 = 1 := by kernel_rfl
@[go_sem] theorem tagg_144 : tagg Try.prog 144 = false := by kernel_rfl
@[go_sem] theorem tzero_144 : tzero Try.prog 144 = some [.int .u32 0] := by kernel_rfl
@[go_sem] theorem tbdz_144 : aMakeFull.tbdz Try.prog 144 = some [.int .u32 0] := by kernel_rfl
@[go_sem] theorem tkn_148 : tkn Try.prog 148 = true := by kernel_rfl
@[go_sem] theorem tsz_148 : tsz Try.prog 148 = 1 := by kernel_rfl
@[go_sem] theorem tagg_148 : tagg Try.prog 148 = false := by kernel_rfl
@[go_sem] theorem tzero_148 : tzero Try.prog 148 = some [.nilp] := by kernel_rfl
@[go_sem] theorem tbdz_148 : aMakeFull.tbdz Try.prog 148 = some [.nilp] := by kernel_rfl
@[go_sem] theorem teqk_148 : teqk Try.prog 148 = .ptr := by kernel_rfl
@[go_sem] theorem tcv_2_2 : tcv Try.prog 2 2 = .int .i64 := by kernel_rfl
@[go_sem] theorem tcv_2_3 : tcv Try.prog 2 3 = .int .i64 := by kernel_rfl
@[go_sem] theorem tcv_2_36 : tcv Try.prog 2 36 = .int .i64 := by kernel_rfl
@[go_sem] theorem tcv_2_5 : tcv Try.prog 2 5 = .int .u8 := by kernel_rfl
@[go_sem] theorem tcv_2_12 : tcv Try.prog 2 12 = .int .u64 := by kernel_rfl
@[go_sem] theorem tcv_2_21 : tcv Try.prog 2 21 = .int .i32 := by kernel_rfl
@[go_sem] theorem tcv_2_144 : tcv Try.prog 2 144 = .int .u32 := by kernel_rfl
@[go_sem] theorem tcv_3_2 : tcv Try.prog 3 2 = .int .i64 := by kernel_rfl
@[go_sem] theorem tcv_3_3 : tcv Try.prog 3 3 = .int .i64 := by kernel_rfl
@[go_sem] theorem tcv_3_36 : tcv Try.prog 3 36 = .int .i64 := by kernel_rfl
@[go_sem] theorem tcv_3_5 : tcv Try.prog 3 5 = .int .u8 := by kernel_rfl
@[go_sem] theorem tcv_3_12 : tcv Try.prog 3 12 = .int .u64 := by kernel_rfl
@[go_sem] theorem tcv_3_21 : tcv Try.prog 3 21 = .int .i32 := by kernel_rfl
@[go_sem] theorem tcv_3_144 : tcv Try.prog 3 144 = .int .u32 := by kernel_rfl
@[go_sem] theorem tcv_36_2 : tcv Try.prog 36 2 = .int .i64 := by kernel_rfl
@[go_sem] theorem tcv_36_3 : tcv Try.prog 36 3 = .int .i64 := by kernel_rfl
@[go_sem] theorem tcv_36_36 : tcv Try.prog 36 36 = .int .i64 := by kernel_rfl
@[go_sem] theorem tcv_36_5 : tcv Try.prog 36 5 = .int .u8 := by kernel_rfl
@[go_sem] theorem tcv_36_12 : tcv Try.prog 36 12 = .int .u64 := by kernel_rfl
@[go_sem] theorem tcv_36_21 : tcv Try.prog 36 21 = .int .i32 := by kernel_rfl
@[go_sem] theorem tcv_36_144 : tcv Try.prog 36 144 = .int .u32 := by kernel_rfl
@[go_sem] theorem tcv_5_2 : tcv Try.prog 5 2 = .int .i64 := by kernel_rfl
@[go_sem] theorem tcv_5_3 : tcv Try.prog 5 3 = .int .i64 := by kernel_rfl
@[go_sem] theorem tcv_5_36 : tcv Try.prog 5 36 = .int .i64 := by kernel_rfl
@[go_sem] theorem tcv_5_5 : tcv Try.prog 5 5 = .int .u8 := by kernel_rfl
@[go_sem] theorem tcv_5_12 : tcv Try.prog 5 12 = .int .u64 := by kernel_rfl
@[go_sem] theorem tcv_5_21 : tcv Try.prog 5 21 = .int .i32 := by kernel_rfl
@[go_sem] theorem tcv_5_144 : tcv Try.prog 5 144 = .int .u32 := by kernel_rfl
@[go_sem] theorem tcv_12_2 : tcv Try.prog 12 2 = .int .i64 := by kernel_rfl
@[go_sem] theorem tcv_12_3 : tcv Try.prog 12 3 = .int .i64 := by kernel_rfl
@[go_sem] theorem tcv_12_36 : tcv Try.prog 12 36 = .int .i64 := by kernel_rfl
@[go_sem] theorem tcv_12_5 : tcv Try.prog 12 5 = .int .u8 := by kernel_rfl
@[go_sem] theorem tcv_12_12 : tcv Try.prog 12 12 = .int .u64 := by kernel_rfl
@[go_sem] theorem tcv_12_21 : tcv Try.prog 12 21 = .int .i32 := by kernel_rfl
@[go_sem] theorem tcv_12_144 : tcv Try.prog 12 144 = .int .u32 := by kernel_rfl
@[go_sem] theorem tcv_21_2 : tcv Try.prog 21 2 = .int .i64 := by kernel_rfl
@[go_sem] theorem tcv_21_3 : tcv Try.prog 21 3 = .int .i64 := by kernel_rfl
@[go_sem] theorem tcv_21_36 : tcv Try.prog 21 36 = .int .i64 := by kernel_rfl
@[go_sem] theorem tcv_21_5 : tcv Try.prog 21 5 = .int .u8 := by kernel_rfl
@[go_sem] theorem tcv_21_12 : tcv Try.prog 21 12 = .int .u64 := by kernel_rfl
@[go_sem] theorem tcv_21_21 : tcv Try.prog 21 21 = .int .i32 := by kernel_rfl
@[go_sem] theorem tcv_21_144 : tcv Try.prog 21 144 = .int .u32 := by kernel_rfl
@[go_sem] theorem tcv_144_2 : tcv Try.prog 144 2 = .int .i64 := by kernel_rfl
@[go_sem] theorem tcv_144_3 : tcv Try.prog 144 3 = .int .i64 := by kernel_rfl
@[go_sem] theorem tcv_144_36 : tcv Try.prog 144 36 = .int .i64 := by kernel_rfl
@[go_sem] theorem tcv_144_5 : tcv Try.prog 144 5 = .int .u8 := by kernel_rfl
@[go_sem] theorem tcv_144_12 : tcv Try.prog 144 12 = .int .u64 := by kernel_rfl
@[go_sem] theorem tcv_144_21 : tcv Try.prog 144 21 = .int .i32 := by kernel_rfl
@[go_sem] theorem tcv_144_144 : tcv Try.prog 144 144 = .int .u32 := by kernel_rfl
@[go_sem] theorem tcv_9_9 : tcv Try.prog 9 9 = .same := by kernel_rfl
end Go.Proofs.Ytnadlkjmdimjkaa

set_option linter.unusedSimpArgs false
set_option linter.unusedVariables false
set_option linter.unusedSimpArgs false
set_option linter.unusedVariables false
namespace Go.Proofs.Ytnadlkjmdimjkaa
open Go.PL
attribute [go_sem] reduceIte Nat.reduceEqDiff reduceCtorEq Nat.reduceLT Nat.reduceAdd Nat.reduceSub Nat.reduceMul Nat.reduceLeDiff Int.reduceLT Int.reduceLE Int.reduceToNat Int.reduceEq Int.reduceAdd Int.reduceSub Int.reduceNeg Int.reduceBNe Int.reduceBEq
attribute [go_sem] true_or or_true List.getElem?_cons_zero List.getElem?_cons_succ List.getElem?_nil decide_true decide_false Bool.not_true Bool.not_false imp_self false_implies true_implies List.all_cons List.all_nil Bool.and_true Bool.false_eq_true Nat.zero_add Nat.add_zero Option.some.injEq true_and and_true List.getD_cons_zero List.getD_cons_succ List.length_cons List.length_nil ne_eq not_false_eq_true implies_true and_self List.take List.drop List.map_cons List.map_nil List.reverse_cons List.reverse_nil List.nil_append PV.bool.injEq List.length_map Int.toNat_natCast Nat.mul_one beq_self_eq_true bne_self_eq_false
theorem w64 {x : Int} (h : -9223372036854775808 ≤ x ∧ x ≤ 9223372036854775807) : IntKind.i64.wrap x = x := IntWalk.i64_in _ (by omega)
theorem maxLen_eq : maxLen = 9223372036854775807 := by decide
theorem w64s {k n : Nat} (h : k < n) (hn : n ≤ maxLen) : IntKind.i64.wrap ((k : Int) + 1) = ((k + 1 : Nat) : Int) := by
  rw [maxLen_eq] at hn
  rw [w64 (by omega)]; rfl
abbrev Str := List UInt8
structure Rf where
  sc : Int
  gr : Str
  nm : Str
  deriving DecidableEq, Inhabited
structure En where
  at' : Rf
  n : Int
  l : List Str
  deriving DecidableEq, Inhabited
structure Rw where
  item : Str
  l : List En
  deriving DecidableEq, Inhabited
structure Dc where
  head : List En
  rows : List Rw
  deriving DecidableEq, Inhabited
def strs (l : List Str) : PV := .sl .no (l.map .str)
def ref (r : Rf) : PV := .agg [.int .i64 r.sc, .str r.gr, .str r.nm]
def ent (e : En) : PV := .agg [.int .i64 e.at'.sc, .str e.at'.gr, .str e.at'.nm, .int .i64 e.n, .sl .no (e.l.map .str)]
def row (r : Rw) : PV := .agg [.str r.item, .sl .no (r.l.map ent)]
theorem ref_fold (a b : Rf) : (a.sc == b.sc && (a.gr == b.gr && a.nm == b.nm)) = decide (a = b) := by
  cases a; cases b
  rw [Bool.eq_iff_iff]
  simp
theorem getD_str {l : List Str} {i : Nat} (h : i < l.length) : (l.map PV.str).getD i .any = .str (l.getD i []) := by
  simp [List.getD_eq_getElem?_getD, h]
theorem getD_mem' {α : Type} {l : List α} {i : Nat} {d : α} (h : i < l.length) : l.getD i d ∈ l := by
  rw [List.getD_eq_getElem?_getD, List.getElem?_eq_getElem h]; exact List.getElem_mem h
/-- lists that are alike, place by place -/
theorem eq_of_getD {α : Type} {a b : List α} {d : α} (hl : a.length = b.length) (h : ∀ j, j < a.length → a.getD j d = b.getD j d) : a = b := by
  apply List.ext_getElem hl
  intro i h1 h2
  have := h i h1
  simpa [List.getD_eq_getElem?_getD, h1, h2] using this
theorem ne_of_getD {α : Type} {a b : List α} {d : α} {j : Nat} (h : a.getD j d ≠ b.getD j d) : a ≠ b := fun e => h (by rw [e])
set_option maxHeartbeats 1000000 in
theorem RSame_pure (a b : List Str) (ha : a.length ≤ maxLen) (hb : b.length ≤ maxLen) : PL.Pure Try.prog 5 [strs a, strs b] (.bool (decide (a = b))) := by
  by_cases hl : a.length = b.length
  · have hl' : ((a.length : Int) != (b.length : Int)) = false := by rw [hl]; exact bne_self_eq_false _
    refine PL.Pure.of_v Try.func5 (by decide) rfl Try.ntmps5 Try.results5 (by simp) rfl ?_
    simp only [go_sem, strs, hl']
    refine vLoopM (ι := { k : Nat // k ≤ a.length ∧ ∀ j, j < k → a.getD j [] = b.getD j [] }) 26 (fun x => [(0, strs a), (1, strs b), (5, .int .i64 (x.1 : Int))]) (fun x => []) (fun x => []) (fun x => a.length - x.1) ⟨0, by omega, fun j hj => by omega⟩
      ⟨rfl, (forall_cons rfl (forall_cons rfl (forall_cons rfl (forall_nil)))), forall_nil, forall_nil⟩ (fun x => ⟨(forall_cons rfl (forall_cons rfl (forall_cons rfl (forall_nil)))), forall_nil⟩) (fun x => ?_)
    obtain ⟨k, hk, hall⟩ := x
    simp only
    by_cases h : (k : Int) < (a.length : Int)
    · have hka : k < a.length := by omega
      have hkb : k < b.length := by omega
      have w1 := w64s hka ha
      have i1 : (0 : Int) ≤ (k : Int) := by omega
      have i2 : (k : Int) < (b.length : Int) := by omega
      by_cases he : a.getD k [] = b.getD k []
      · have he' : (a.getD k [] == b.getD k []) = true := beq_iff_eq.2 he
        simp only [go_sem, strs, h]
        refine vDrawQ (by kernel_rfl) (by kernel_rfl) ?_
        simp only [go_sem, getD_str hka, getD_str hkb, h, i1, i2, he', w1]
        exact ⟨⟨k + 1, by omega, fun j hj => by
          rcases Nat.lt_or_ge j k with h1 | h1
          · exact hall j h1
          · obtain rfl : j = k := by omega
            exact he⟩, by show a.length - (k + 1) < a.length - k; omega, ⟨rfl, (forall_cons rfl (forall_cons rfl (forall_cons rfl (forall_nil)))), forall_nil, forall_nil⟩⟩
      · have he' : (a.getD k [] == b.getD k []) = false := beq_eq_false_iff_ne.2 he
        have hab : ¬ a = b := ne_of_getD he
        simp only [go_sem, strs, h]
        refine vDrawQ (by kernel_rfl) (by kernel_rfl) ?_
        simp only [go_sem, getD_str hka, getD_str hkb, h, i1, i2, he', hab]
    · have hab : decide (a = b) = true := decide_eq_true (eq_of_getD (d := []) hl fun j hj => hall j (by omega))
      simp only [go_sem, strs, h, hab]
  · have hl' : ((a.length : Int) != (b.length : Int)) = true := bne_iff_ne.2 (by omega)
    have hab : ¬ a = b := fun e => hl (by rw [e])
    refine PL.Pure.of_v Try.func5 (by decide) rfl Try.ntmps5 Try.results5 (by simp) rfl ?_
    simp only [go_sem, strs, hl', hab]
end Go.Proofs.Ytnadlkjmdimjkaa
