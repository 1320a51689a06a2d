/- Contracts of functions and laws of this seat, each for every input that it names: lemmas of the proof. -/
import Derived.Test.YtbojhapdidieoaaProg
import Derived.Test.YtbojhapdidieoaaPlF
import Derived.KernelRfl
set_option linter.unusedSimpArgs false
set_option linter.unusedVariables false

namespace Go.Proofs.Ytbojhapdidieoaa
open Go.PL
@[go_sem] theorem tkn_2 : tkn Try.prog 2 = true := by kernel_rfl
@[go_sem] theorem tsz_2 : tsz Try.prog 2 = 1 := by kernel_rfl
@[go_sem] theorem tagg_2 : tagg Try.prog 2 = false := by kernel_rfl
@[go_sem] theorem tzero_2 : tzero Try.prog 2 = some [.int .i64 0] := by kernel_rfl
@[go_sem] theorem tbdz_2 : aMakeFull.tbdz Try.prog 2 = some [.int .i64 0] := by kernel_rfl
@[go_sem] theorem tkn_3 : tkn Try.prog 3 = true := by kernel_rfl
@[go_sem] theorem tsz_3 : tsz Try.prog 3 = 1 := by kernel_rfl
@[go_sem] theorem tagg_3 : tagg Try.prog 3 = false := by kernel_rfl
@[go_sem] theorem tzero_3 : tzero Try.prog 3 = some [.int .i64 0] := by kernel_rfl
@[go_sem] theorem tbdz_3 : aMakeFull.tbdz Try.prog 3 = some [.int .i64 0] := by kernel_rfl
@[go_sem] theorem tkn_4 : tkn Try.prog 4 = true := by kernel_rfl
@[go_sem] theorem tsz_4 : tsz Try.prog 4 = 1 := by kernel_rfl
@[go_sem] theorem tagg_4 : tagg Try.prog 4 = false := by kernel_rfl
@[go_sem] theorem tzero_4 : tzero Try.prog 4 = some [.bool false] := by kernel_rfl
@[go_sem] theorem tbdz_4 : aMakeFull.tbdz Try.prog 4 = some [.bool false] := by kernel_rfl
@[go_sem] theorem teqk_4 : teqk Try.prog 4 = .bool := by kernel_rfl
@[go_sem] theorem tkn_5 : tkn Try.prog 5 = true := by kernel_rfl
@[go_sem] theorem tsz_5 : tsz Try.prog 5 = 1 := by kernel_rfl
@[go_sem] theorem tagg_5 : tagg Try.prog 5 = false := by kernel_rfl
@[go_sem] theorem tzero_5 : tzero Try.prog 5 = some [.int .u8 0] := by kernel_rfl
@[go_sem] theorem tbdz_5 : aMakeFull.tbdz Try.prog 5 = some [.int .u8 0] := by kernel_rfl
@[go_sem] theorem tkn_9 : tkn Try.prog 9 = true := by kernel_rfl
@[go_sem] theorem tsz_9 : tsz Try.prog 9 = 1 := by kernel_rfl
@[go_sem] theorem tagg_9 : tagg Try.prog 9 = false := by kernel_rfl
@[go_sem] theorem tzero_9 : tzero Try.prog 9 = some [.str []] := by kernel_rfl
@[go_sem] theorem tbdz_9 : aMakeFull.tbdz Try.prog 9 = some [.str []] := by kernel_rfl
@[go_sem] theorem tix_9 : tix Try.prog 9 = .str := by kernel_rfl
@[go_sem] theorem tlen_9 : tlen Try.prog 9 = .str := by kernel_rfl
@[go_sem] theorem tkn_12 : tkn Try.prog 12 = true := by kernel_rfl
@[go_sem] theorem tsz_12 : tsz Try.prog 12 = 1 := by kernel_rfl
@[go_sem] theorem tagg_12 : tagg Try.prog 12 = false := by kernel_rfl
@[go_sem] theorem tzero_12 : tzero Try.prog 12 = some [.int .u64 0] := by kernel_rfl
@[go_sem] theorem tbdz_12 : aMakeFull.tbdz Try.prog 12 = some [.int .u64 0] := by kernel_rfl
@[go_sem] theorem tkn_21 : tkn Try.prog 21 = true := by kernel_rfl
@[go_sem] theorem tsz_21 : tsz Try.prog 21 = 1 := by kernel_rfl
@[go_sem] theorem tagg_21 : tagg Try.prog 21 = false := by kernel_rfl
@[go_sem] theorem tzero_21 : tzero Try.prog 21 = some [.int .i32 0] := by kernel_rfl
@[go_sem] theorem tbdz_21 : aMakeFull.tbdz Try.prog 21 = some [.int .i32 0] := by kernel_rfl
@[go_sem] theorem tkn_22 : tkn Try.prog 22 = true := by kernel_rfl
@[go_sem] theorem tsz_22 : tsz Try.prog 22 = 1 := by kernel_rfl
@[go_sem] theorem tagg_22 : tagg Try.prog 22 = false := by kernel_rfl
@[go_sem] theorem tzero_22 : tzero Try.prog 22 = some [.sl .nil []] := by kernel_rfl
@[go_sem] theorem tbdz_22 : aMakeFull.tbdz Try.prog 22 = some [.sl .nil []] := by kernel_rfl
@[go_sem] theorem tix_22 : tix Try.prog 22 = .slc 20 true := by kernel_rfl
@[go_sem] theorem tlen_22 : tlen Try.prog 22 = .slc := by kernel_rfl
@[go_sem] theorem teqk_22 : teqk Try.prog 22 = .slc := by kernel_rfl
@[go_sem] theorem telem_22 : telem Try.prog 22 = some ⟨100, 20, 264⟩ := by kernel_rfl
@[go_sem] theorem tkn_23 : tkn Try.prog 23 = true := by kernel_rfl
@[go_sem] theorem tsz_23 : tsz Try.prog 23 = 2 := by kernel_rfl
@[go_sem] theorem tagg_23 : tagg Try.prog 23 = true := by kernel_rfl
@[go_sem] theorem tzero_23 : tzero Try.prog 23 = some [.int .i64 0, .int .i64 0] := by kernel_rfl
@[go_sem] theorem tbdz_23 : aMakeFull.tbdz Try.prog 23 = some [.int .i64 0, .int .i64 0] := by kernel_rfl
@[go_sem] theorem tfld_23_0 : tfld Try.prog 23 0 = some (0, 1, false) := by kernel_rfl
@[go_sem] theorem tfld_23_1 : tfld Try.prog 23 1 = some (1, 1, false) := by kernel_rfl
@[go_sem] theorem tbd_23 : tbd Try.prog 23 = .str [(0, 1), (1, 1)] [.int .i64 0, .int .i64 0] := by kernel_rfl
@[go_sem] theorem tleaves_23 : tleaves Try.prog 23 = some [.int, .int] := by kernel_rfl
@[go_sem] theorem tkn_24 : tkn Try.prog 24 = true := by kernel_rfl
@[go_sem] theorem tsz_24 : tsz Try.prog 24 = 2 := by kernel_rfl
@[go_sem] theorem tagg_24 : tagg Try.prog 24 = true := by kernel_rfl
@[go_sem] theorem tzero_24 : tzero Try.prog 24 = some [.int .i64 0, .int .i64 0] := by kernel_rfl
@[go_sem] theorem tbdz_24 : aMakeFull.tbdz Try.prog 24 = some [.int .i64 0, .int .i64 0] := by kernel_rfl
@[go_sem] theorem tfld_24_0 : tfld Try.prog 24 0 = some (0, 1, false) := by kernel_rfl
@[go_sem] theorem tfld_24_1 : tfld Try.prog 24 1 = some (1, 1, false) := by kernel_rfl
@[go_sem] theorem tbd_24 : tbd Try.prog 24 = .str [(0, 1), (1, 1)] [.int .i64 0, .int .i64 0] := by kernel_rfl
@[go_sem] theorem tleaves_24 : tleaves Try.prog 24 = some [.int, .int] := by kernel_rfl
@[go_sem] theorem tkn_27 : tkn Try.prog 27 = true := by kernel_rfl
@[go_sem] theorem tsz_27 : tsz Try.prog 27 = 1 := by kernel_rfl
@[go_sem] theorem tagg_27 : tagg Try.prog 27 = false := by kernel_rfl
@[go_sem] theorem tzero_27 : tzero Try.prog 27 = some [.nilp] := by kernel_rfl
@[go_sem] theorem tbdz_27 : aMakeFull.tbdz Try.prog 27 = some [.nilp] := by kernel_rfl
@[go_sem] theorem teqk_27 : teqk Try.prog 27 = .ptr := by kernel_rfl
@[go_sem] theorem tkn_30 : tkn Try.prog 30 = true := by kernel_rfl
@[go_sem] theorem tsz_30 : tsz Try.prog 30 = 1 := by kernel_rfl
@[go_sem] theorem tagg_30 : tagg Try.prog 30 = false := by kernel_rfl
@[go_sem] theorem tzero_30 : tzero Try.prog 30 = some [.sl .nil []] := by kernel_rfl
@[go_sem] theorem tbdz_30 : aMakeFull.tbdz Try.prog 30 = some [.sl .nil []] := by kernel_rfl
@[go_sem] theorem tix_30 : tix Try.prog 30 = .slc 3 true := by kernel_rfl
@[go_sem] theorem tlen_30 : tlen Try.prog 30 = .slc := by kernel_rfl
@[go_sem] theorem teqk_30 : teqk Try.prog 30 = .slc := by kernel_rfl
@[go_sem] theorem telem_30 : telem Try.prog 30 = some ⟨35, 3, 24⟩ := by kernel_rfl
@[go_sem] theorem tkn_31 : tkn Try.prog 31 = true := by kernel_rfl
@[go_sem] theorem tsz_31 : tsz Try.prog 31 = 1 := by kernel_rfl
@[go_sem] theorem tagg_31 : tagg Try.prog 31 = false := by kernel_rfl
@[go_sem] theorem tzero_31 : tzero Try.prog 31 = some [.int .i64 0] := by kernel_rfl
@[go_sem] theorem tbdz_31 : aMakeFull.tbdz Try.prog 31 = some [.int .i64 0] := by kernel_rfl
@[go_sem] theorem tkn_34 : tkn Try.prog 34 = true := by kernel_rfl
@[go_sem] theorem tsz_34 : tsz Try.prog 34 = 3 := by kernel_rfl
@[go_sem] theorem tagg_34 : tagg Try.prog 34 = true := by kernel_rfl
@[go_sem] theorem tzero_34 : tzero Try.prog 34 = some [.int .i64 0, .int .i64 0, .bool false] := by kernel_rfl
@[go_sem] theorem tbdz_34 : aMakeFull.tbdz Try.prog 34 = some [.int .i64 0, .int .i64 0, .bool false] := by kernel_rfl
@[go_sem] theorem tfld_34_0 : tfld Try.prog 34 0 = some (0, 2, true) := by kernel_rfl
@[go_sem] theorem tfld_34_1 : tfld Try.prog 34 1 = some (2, 1, false) := by kernel_rfl
@[go_sem] theorem tbd_34 : tbd Try.prog 34 = .str [(0, 2), (2, 1)] [.int .i64 0, .int .i64 0, .bool false] := by kernel_rfl
@[go_sem] theorem tleaves_34 : tleaves Try.prog 34 = some [.int, .int, .bool] := by kernel_rfl
@[go_sem] theorem tkn_35 : tkn Try.prog 35 = true := by kernel_rfl
@[go_sem] theorem tsz_35 : tsz Try.prog 35 = 3 := by kernel_rfl
@[go_sem] theorem tagg_35 : tagg Try.prog 35 = true := by kernel_rfl
@[go_sem] theorem tzero_35 : tzero Try.prog 35 = some [.int .i64 0, .int .i64 0, .bool false] := by kernel_rfl
@[go_sem] theorem tbdz_35 : aMakeFull.tbdz Try.prog 35 = some [.int .i64 0, .int .i64 0, .bool false] := by kernel_rfl
@[go_sem] theorem tfld_35_0 : tfld Try.prog 35 0 = some (0, 2, true) := by kernel_rfl
@[go_sem] theorem tfld_35_1 : tfld Try.prog 35 1 = some (2, 1, false) := by kernel_rfl
@[go_sem] theorem tbd_35 : tbd Try.prog 35 = .str [(0, 2), (2, 1)] [.int .i64 0, .int .i64 0, .bool false] := by kernel_rfl
@[go_sem] theorem tleaves_35 : tleaves Try.prog 35 = some [.int, .int, .bool] := by kernel_rfl
@[go_sem] theorem tkn_37 : tkn Try.prog 37 = true := by kernel_rfl
@[go_sem] theorem tsz_37 : tsz Try.prog 37 = 1 := by kernel_rfl
@[go_sem] theorem tagg_37 : tagg Try.prog 37 = false := by kernel_rfl
@[go_sem] theorem tzero_37 : tzero Try.prog 37 = some [.sl .nil []] := by kernel_rfl
@[go_sem] theorem tbdz_37 : aMakeFull.tbdz Try.prog 37 = some [.sl .nil []] := by kernel_rfl
@[go_sem] theorem tix_37 : tix Try.prog 37 = .slc 2 true := by kernel_rfl
@[go_sem] theorem tlen_37 : tlen Try.prog 37 = .slc := by kernel_rfl
@[go_sem] theorem teqk_37 : teqk Try.prog 37 = .slc := by kernel_rfl
@[go_sem] theorem telem_37 : telem Try.prog 37 = some ⟨24, 2, 16⟩ := by kernel_rfl
@[go_sem] theorem tkn_42 : tkn Try.prog 42 = true := by kernel_rfl
@[go_sem] theorem tsz_42 : tsz Try.prog 42 = 3 := by kernel_rfl
@[go_sem] theorem tagg_42 : tagg Try.prog 42 = true := by kernel_rfl
@[go_sem] theorem tzero_42 : tzero Try.prog 42 = some [.int .i64 0, .str [], .str []] := by kernel_rfl
@[go_sem] theorem tbdz_42 : aMakeFull.tbdz Try.prog 42 = some [.int .i64 0, .str [], .str []] := by kernel_rfl
@[go_sem] theorem tfld_42_0 : tfld Try.prog 42 0 = some (0, 1, false) := by kernel_rfl
@[go_sem] theorem tfld_42_1 : tfld Try.prog 42 1 = some (1, 1, false) := by kernel_rfl
@[go_sem] theorem tfld_42_2 : tfld Try.prog 42 2 = some (2, 1, false) := by kernel_rfl
@[go_sem] theorem tbd_42 : tbd Try.prog 42 = .str [(0, 1), (1, 1), (2, 1)] [.int .i64 0, .str [], .str []] := by kernel_rfl
@[go_sem] theorem tleaves_42 : tleaves Try.prog 42 = some [.int, .str, .str] := by kernel_rfl
@[go_sem] theorem tkn_43 : tkn Try.prog 43 = true := by kernel_rfl
@[go_sem] theorem tsz_43 : tsz Try.prog 43 = 3 := by kernel_rfl
@[go_sem] theorem tagg_43 : tagg Try.prog 43 = true := by kernel_rfl
@[go_sem] theorem tzero_43 : tzero Try.prog 43 = some [.int .i64 0, .str [], .str []] := by kernel_rfl
@[go_sem] theorem tbdz_43 : aMakeFull.tbdz Try.prog 43 = some [.int .i64 0, .str [], .str []] := by kernel_rfl
@[go_sem] theorem tfld_43_0 : tfld Try.prog 43 0 = some (0, 1, false) := by kernel_rfl
@[go_sem] theorem tfld_43_1 : tfld Try.prog 43 1 = some (1, 1, false) := by kernel_rfl
@[go_sem] theorem tfld_43_2 : tfld Try.prog 43 2 = some (2, 1, false) := by kernel_rfl
@[go_sem] theorem tbd_43 : tbd Try.prog 43 = .str [(0, 1), (1, 1), (2, 1)] [.int .i64 0, .str [], .str []] := by kernel_rfl
@[go_sem] theorem tleaves_43 : tleaves Try.prog 43 = some [.int, .str, .str] := by kernel_rfl
@[go_sem] theorem tkn_44 : tkn Try.prog 44 = true := by kernel_rfl
@[go_sem] theorem tsz_44 : tsz Try.prog 44 = 1 := by kernel_rfl
@[go_sem] theorem tagg_44 : tagg Try.prog 44 = false := by kernel_rfl
@[go_sem] theorem tzero_44 : tzero Try.prog 44 = some [.sl .nil []] := by kernel_rfl
@[go_sem] theorem tbdz_44 : aMakeFull.tbdz Try.prog 44 = some [.sl .nil []] := by kernel_rfl
@[go_sem] theorem tix_44 : tix Try.prog 44 = .slc 1 false := by kernel_rfl
@[go_sem] theorem tlen_44 : tlen Try.prog 44 = .slc := by kernel_rfl
@[go_sem] theorem teqk_44 : teqk Try.prog 44 = .slc := by kernel_rfl
@[go_sem] theorem telem_44 : telem Try.prog 44 = some ⟨9, 1, 16⟩ := by kernel_rfl
@[go_sem] theorem tkn_45 : tkn Try.prog 45 = true := by kernel_rfl
@[go_sem] theorem tsz_45 : tsz Try.prog 45 = 7 := by kernel_rfl
@[go_sem] theorem tagg_45 : tagg Try.prog 45 = true := by kernel_rfl
@[go_sem] theorem tzero_45 : tzero Try.prog 45 = some [.int .i64 0, .str [], .str [], .int .i64 0, .str [], .sl .nil [], .int .i64 0] := by kernel_rfl
@[go_sem] theorem tbdz_45 : aMakeFull.tbdz Try.prog 45 = some [.int .i64 0, .str [], .str [], .int .i64 0, .str [], .sl .nil [], .int .i64 0] := by kernel_rfl
@[go_sem] theorem tfld_45_0 : tfld Try.prog 45 0 = some (0, 3, true) := by kernel_rfl
@[go_sem] theorem tfld_45_1 : tfld Try.prog 45 1 = some (3, 1, false) := by kernel_rfl
@[go_sem] theorem tfld_45_2 : tfld Try.prog 45 2 = some (4, 1, false) := by kernel_rfl
@[go_sem] theorem tfld_45_3 : tfld Try.prog 45 3 = some (5, 1, false) := by kernel_rfl
@[go_sem] theorem tfld_45_4 : tfld Try.prog 45 4 = some (6, 1, false) := by kernel_rfl
@[go_sem] theorem tbd_45 : tbd Try.prog 45 = .str [(0, 3), (3, 1), (4, 1), (5, 1), (6, 1)] [.int .i64 0, .str [], .str [], .int .i64 0, .str [], .sl .nil [], .int .i64 0] := by kernel_rfl
@[go_sem] theorem tkn_46 : tkn Try.prog 46 = true := by kernel_rfl
@[go_sem] theorem tsz_46 : tsz Try.prog 46 = 7 := by kernel_rfl
@[go_sem] theorem tagg_46 : tagg Try.prog 46 = true := by kernel_rfl
@[go_sem] theorem tzero_46 : tzero Try.prog 46 = some [.int .i64 0, .str [], .str [], .int .i64 0, .str [], .sl .nil [], .int .i64 0] := by kernel_rfl
@[go_sem] theorem tbdz_46 : aMakeFull.tbdz Try.prog 46 = some [.int .i64 0, .str [], .str [], .int .i64 0, .str [], .sl .nil [], .int .i64 0] := by kernel_rfl
@[go_sem] theorem tfld_46_0 : tfld Try.prog 46 0 = some (0, 3, true) := by kernel_rfl
@[go_sem] theorem tfld_46_1 : tfld Try.prog 46 1 = some (3, 1, false) := by kernel_rfl
@[go_sem] theorem tfld_46_2 : tfld Try.prog 46 2 = some (4, 1, false) := by kernel_rfl
@[go_sem] theorem tfld_46_3 : tfld Try.prog 46 3 = some (5, 1, false) := by kernel_rfl
@[go_sem] theorem tfld_46_4 : tfld Try.prog 46 4 = some (6, 1, false) := by kernel_rfl
@[go_sem] theorem tbd_46 : tbd Try.prog 46 = .str [(0, 3), (3, 1), (4, 1), (5, 1), (6, 1)] [.int .i64 0, .str [], .str [], .int .i64 0, .str [], .sl .nil [], .int .i64 0] := by kernel_rfl
@[go_sem] theorem tkn_47 : tkn Try.prog 47 = true := by kernel_rfl
@[go_sem] theorem tsz_47 : tsz Try.prog 47 = 1 := by kernel_rfl
@[go_sem] theorem tagg_47 : tagg Try.prog 47 = false := by kernel_rfl
@[go_sem] theorem tzero_47 : tzero Try.prog 47 = some [.sl .nil []] := by kernel_rfl
@[go_sem] theorem tbdz_47 : aMakeFull.tbdz Try.prog 47 = some [.sl .nil []] := by kernel_rfl
@[go_sem] theorem tix_47 : tix Try.prog 47 = .slc 2 true := by kernel_rfl
@[go_sem] theorem tlen_47 : tlen Try.prog 47 = .slc := by kernel_rfl
@[go_sem] theorem teqk_47 : teqk Try.prog 47 = .slc := by kernel_rfl
@[go_sem] theorem telem_47 : telem Try.prog 47 = some ⟨161, 2, 32⟩ := by kernel_rfl
@[go_sem] theorem tkn_48 : tkn Try.prog 48 = true := by kernel_rfl
@[go_sem] theorem tsz_48 : tsz Try.prog 48 = 16 := by kernel_rfl
@[go_sem] theorem tagg_48 : tagg Try.prog 48 = true := by kernel_rfl
@[go_sem] theorem tzero_48 : tzero Try.prog 48 = some [.int .i64 0, .int .i64 0, .str [], .str [], .str [], .str [], .int .i64 0, .int .i64 0, .str [], .str [], .int .i64 0, .str [], .sl .nil [], .int .i64 0, .sl .nil [], .sl .nil []] := by kernel_rfl
@[go_sem] theorem tbdz_48 : aMakeFull.tbdz Try.prog 48 = some [.int .i64 0, .int .i64 0, .str [], .str [], .str [], .str [], .int .i64 0, .int .i64 0, .str [], .str [], .int .i64 0, .str [], .sl .nil [], .int .i64 0, .sl .nil [], .sl .nil []] := by kernel_rfl
@[go_sem] theorem tfld_48_0 : tfld Try.prog 48 0 = some (0, 1, false) := by kernel_rfl
@[go_sem] theorem tfld_48_1 : tfld Try.prog 48 1 = some (1, 3, true) := by kernel_rfl
@[go_sem] theorem tfld_48_2 : tfld Try.prog 48 2 = some (4, 1, false) := by kernel_rfl
@[go_sem] theorem tfld_48_3 : tfld Try.prog 48 3 = some (5, 1, false) := by kernel_rfl
@[go_sem] theorem tfld_48_4 : tfld Try.prog 48 4 = some (6, 1, false) := by kernel_rfl
@[go_sem] theorem tfld_48_5 : tfld Try.prog 48 5 = some (7, 7, true) := by kernel_rfl
@[go_sem] theorem tfld_48_6 : tfld Try.prog 48 6 = some (14, 1, false) := by kernel_rfl
@[go_sem] theorem tfld_48_7 : tfld Try.prog 48 7 = some (15, 1, false) := by kernel_rfl
@[go_sem] theorem tbd_48 : tbd Try.prog 48 = .str [(0, 1), (1, 3), (4, 1), (5, 1), (6, 1), (7, 7), (14, 1), (15, 1)] [.int .i64 0, .int .i64 0, .str [], .str [], .str [], .str [], .int .i64 0, .int .i64 0, .str [], .str [], .int .i64 0, .str [], .sl .nil [], .int .i64 0, .sl .nil [], .sl .nil []] := by kernel_rfl
@[go_sem] theorem tkn_49 : tkn Try.prog 49 = true := by kernel_rfl
@[go_sem] theorem tsz_49 : tsz Try.prog 49 = 16 := by kernel_rfl
@[go_sem] theorem tagg_49 : tagg Try.prog 49 = true := by kernel_rfl
@[go_sem] theorem tzero_49 : tzero Try.prog 49 = some [.int .i64 0, .int .i64 0, .str [], .str [], .str [], .str [], .int .i64 0, .int .i64 0, .str [], .str [], .int .i64 0, .str [], .sl .nil [], .int .i64 0, .sl .nil [], .sl .nil []] := by kernel_rfl
@[go_sem] theorem tbdz_49 : aMakeFull.tbdz Try.prog 49 = some [.int .i64 0, .int .i64 0, .str [], .str [], .str [], .str [], .int .i64 0, .int .i64 0, .str [], .str [], .int .i64 0, .str [], .sl .nil [], .int .i64 0, .sl .nil [], .sl .nil []] := by kernel_rfl
@[go_sem] theorem tfld_49_0 : tfld Try.prog 49 0 = some (0, 1, false) := by kernel_rfl
@[go_sem] theorem tfld_49_1 : tfld Try.prog 49 1 = some (1, 3, true) := by kernel_rfl
@[go_sem] theorem tfld_49_2 : tfld Try.prog 49 2 = some (4, 1, false) := by kernel_rfl
@[go_sem] theorem tfld_49_3 : tfld Try.prog 49 3 = some (5, 1, false) := by kernel_rfl
@[go_sem] theorem tfld_49_4 : tfld Try.prog 49 4 = some (6, 1, false) := by kernel_rfl
@[go_sem] theorem tfld_49_5 : tfld Try.prog 49 5 = some (7, 7, true) := by kernel_rfl
@[go_sem] theorem tfld_49_6 : tfld Try.prog 49 6 = some (14, 1, false) := by kernel_rfl
@[go_sem] theorem tfld_49_7 : tfld Try.prog 49 7 = some (15, 1, false) := by kernel_rfl
@[go_sem] theorem tbd_49 : tbd Try.prog 49 = .str [(0, 1), (1, 3), (4, 1), (5, 1), (6, 1), (7, 7), (14, 1), (15, 1)] [.int .i64 0, .int .i64 0, .str [], .str [], .str [], .str [], .int .i64 0, .int .i64 0, .str [], .str [], .int .i64 0, .str [], .sl .nil [], .int .i64 0, .sl .nil [], .sl .nil []] := by kernel_rfl
@[go_sem] theorem tkn_55 : tkn Try.prog 55 = true := by kernel_rfl
@[go_sem] theorem tsz_55 : tsz Try.prog 55 = 1 := by kernel_rfl
@[go_sem] theorem tagg_55 : tagg Try.prog 55 = false := by kernel_rfl
@[go_sem] theorem tzero_55 : tzero Try.prog 55 = some [.sl .nil []] := by kernel_rfl
@[go_sem] theorem tbdz_55 : aMakeFull.tbdz Try.prog 55 = some [.sl .nil []] := by kernel_rfl
@[go_sem] theorem tix_55 : tix Try.prog 55 = .slc 7 true := by kernel_rfl
@[go_sem] theorem tlen_55 : tlen Try.prog 55 = .slc := by kernel_rfl
@[go_sem] theorem teqk_55 : teqk Try.prog 55 = .slc := by kernel_rfl
@[go_sem] theorem telem_55 : telem Try.prog 55 = some ⟨46, 7, 96⟩ := by kernel_rfl
@[go_sem] theorem tkn_58 : tkn Try.prog 58 = true := by kernel_rfl
@[go_sem] theorem tsz_58 : tsz Try.prog 58 = 1 := by kernel_rfl
@[go_sem] theorem tagg_58 : tagg Try.prog 58 = false := by kernel_rfl
@[go_sem] theorem tzero_58 : tzero Try.prog 58 = some [.sl .nil []] := by kernel_rfl
@[go_sem] theorem tbdz_58 : aMakeFull.tbdz Try.prog 58 = some [.sl .nil []] := by kernel_rfl
@[go_sem] theorem tix_58 : tix Try.prog 58 = .slc 16 true := by kernel_rfl
@[go_sem] theorem tlen_58 : tlen Try.prog 58 = .slc := by kernel_rfl
@[go_sem] theorem teqk_58 : teqk Try.prog 58 = .slc := by kernel_rfl
@[go_sem] theorem telem_58 : telem Try.prog 58 = some ⟨49, 16, 232⟩ := by kernel_rfl
@[go_sem] theorem tkn_68 : tkn Try.prog 68 = true := by kernel_rfl
@[go_sem] theorem tsz_68 : tsz Try.prog 68 = 15 := by kernel_rfl
@[go_sem] theorem tagg_68 : tagg Try.prog 68 = true := by kernel_rfl
@[go_sem] theorem tzero_68 : tzero Try.prog 68 = some [.int .i64 0, .int .i64 0, .int .i64 0, .int .i64 0, .int .i64 0, .str [], .int .i64 0, .str [], .int .i64 0, .str [], .str [], .int .i64 0, .bool false, .str [], .sl .nil []] := by kernel_rfl
@[go_sem] theorem tbdz_68 : aMakeFull.tbdz Try.prog 68 = some [.int .i64 0, .int .i64 0, .int .i64 0, .int .i64 0, .int .i64 0, .str [], .int .i64 0, .str [], .int .i64 0, .str [], .str [], .int .i64 0, .bool false, .str [], .sl .nil []] := by kernel_rfl
@[go_sem] theorem tfld_68_0 : tfld Try.prog 68 0 = some (0, 2, true) := by kernel_rfl
@[go_sem] theorem tfld_68_1 : tfld Try.prog 68 1 = some (2, 2, true) := by kernel_rfl
@[go_sem] theorem tfld_68_2 : tfld Try.prog 68 2 = some (4, 1, false) := by kernel_rfl
@[go_sem] theorem tfld_68_3 : tfld Try.prog 68 3 = some (5, 1, false) := by kernel_rfl
@[go_sem] theorem tfld_68_4 : tfld Try.prog 68 4 = some (6, 1, false) := by kernel_rfl
@[go_sem] theorem tfld_68_5 : tfld Try.prog 68 5 = some (7, 1, false) := by kernel_rfl
@[go_sem] theorem tfld_68_6 : tfld Try.prog 68 6 = some (8, 3, true) := by kernel_rfl
@[go_sem] theorem tfld_68_7 : tfld Try.prog 68 7 = some (11, 1, false) := by kernel_rfl
@[go_sem] theorem tfld_68_8 : tfld Try.prog 68 8 = some (12, 1, false) := by kernel_rfl
@[go_sem] theorem tfld_68_9 : tfld Try.prog 68 9 = some (13, 1, false) := by kernel_rfl
@[go_sem] theorem tfld_68_10 : tfld Try.prog 68 10 = some (14, 1, false) := by kernel_rfl
@[go_sem] theorem tbd_68 : tbd Try.prog 68 = .str [(0, 2), (2, 2), (4, 1), (5, 1), (6, 1), (7, 1), (8, 3), (11, 1), (12, 1), (13, 1), (14, 1)] [.int .i64 0, .int .i64 0, .int .i64 0, .int .i64 0, .int .i64 0, .str [], .int .i64 0, .str [], .int .i64 0, .str [], .str [], .int .i64 0, .bool false, .str [], .sl .nil []] := by kernel_rfl
@[go_sem] theorem tkn_69 : tkn Try.prog 69 = true := by kernel_rfl
@[go_sem] theorem tsz_69 : tsz Try.prog 69 = 15 := by kernel_rfl
@[go_sem] theorem tagg_69 : tagg Try.prog 69 = true := by kernel_rfl
@[go_sem] theorem tzero_69 : tzero Try.prog 69 = some [.int .i64 0, .int .i64 0, .int .i64 0, .int .i64 0, .int .i64 0, .str [], .int .i64 0, .str [], .int .i64 0, .str [], .str [], .int .i64 0, .bool false, .str [], .sl .nil []] := by kernel_rfl
@[go_sem] theorem tbdz_69 : aMakeFull.tbdz Try.prog 69 = some [.int .i64 0, .int .i64 0, .int .i64 0, .int .i64 0, .int .i64 0, .str [], .int .i64 0, .str [], .int .i64 0, .str [], .str [], .int .i64 0, .bool false, .str [], .sl .nil []] := by kernel_rfl
@[go_sem] theorem tfld_69_0 : tfld Try.prog 69 0 = some (0, 2, true) := by kernel_rfl
@[go_sem] theorem tfld_69_1 : tfld Try.prog 69 1 = some (2, 2, true) := by kernel_rfl
@[go_sem] theorem tfld_69_2 : tfld Try.prog 69 2 = some (4, 1, false) := by kernel_rfl
@[go_sem] theorem tfld_69_3 : tfld Try.prog 69 3 = some (5, 1, false) := by kernel_rfl
@[go_sem] theorem tfld_69_4 : tfld Try.prog 69 4 = some (6, 1, false) := by kernel_rfl
@[go_sem] theorem tfld_69_5 : tfld Try.prog 69 5 = some (7, 1, false) := by kernel_rfl
@[go_sem] theorem tfld_69_6 : tfld Try.prog 69 6 = some (8, 3, true) := by kernel_rfl
@[go_sem] theorem tfld_69_7 : tfld Try.prog 69 7 = some (11, 1, false) := by kernel_rfl
@[go_sem] theorem tfld_69_8 : tfld Try.prog 69 8 = some (12, 1, false) := by kernel_rfl
@[go_sem] theorem tfld_69_9 : tfld Try.prog 69 9 = some (13, 1, false) := by kernel_rfl
@[go_sem] theorem tfld_69_10 : tfld Try.prog 69 10 = some (14, 1, false) := by kernel_rfl
@[go_sem] theorem tbd_69 : tbd Try.prog 69 = .str [(0, 2), (2, 2), (4, 1), (5, 1), (6, 1), (7, 1), (8, 3), (11, 1), (12, 1), (13, 1), (14, 1)] [.int .i64 0, .int .i64 0, .int .i64 0, .int .i64 0, .int .i64 0, .str [], .int .i64 0, .str [], .int .i64 0, .str [], .str [], .int .i64 0, .bool false, .str [], .sl .nil []] := by kernel_rfl
@[go_sem] theorem tkn_88 : tkn Try.prog 88 = true := by kernel_rfl
@[go_sem] theorem tsz_88 : tsz Try.prog 88 = 1 := by kernel_rfl
@[go_sem] theorem tagg_88 : tagg Try.prog 88 = false := by kernel_rfl
@[go_sem] theorem tzero_88 : tzero Try.prog 88 = some [.sl .nil []] := by kernel_rfl
@[go_sem] theorem tbdz_88 : aMakeFull.tbdz Try.prog 88 = some [.sl .nil []] := by kernel_rfl
@[go_sem] theorem tix_88 : tix Try.prog 88 = .slc 5 true := by kernel_rfl
@[go_sem] theorem tlen_88 : tlen Try.prog 88 = .slc := by kernel_rfl
@[go_sem] theorem teqk_88 : teqk Try.prog 88 = .slc := by kernel_rfl
@[go_sem] theorem telem_88 : telem Try.prog 88 = some ⟨138, 5, 72⟩ := by kernel_rfl
@[go_sem] theorem tkn_89 : tkn Try.prog 89 = true := by kernel_rfl
@[go_sem] theorem tsz_89 : tsz Try.prog 89 = 1 := by kernel_rfl
@[go_sem] theorem tagg_89 : tagg Try.prog 89 = false := by kernel_rfl
@[go_sem] theorem tzero_89 : tzero Try.prog 89 = some [.sl .nil []] := by kernel_rfl
@[go_sem] theorem tbdz_89 : aMakeFull.tbdz Try.prog 89 = some [.sl .nil []] := by kernel_rfl
@[go_sem] theorem tix_89 : tix Try.prog 89 = .slc 2 true := by kernel_rfl
@[go_sem] theorem tlen_89 : tlen Try.prog 89 = .slc := by kernel_rfl
@[go_sem] theorem teqk_89 : teqk Try.prog 89 = .slc := by kernel_rfl
@[go_sem] theorem telem_89 : telem Try.prog 89 = some ⟨140, 2, 40⟩ := by kernel_rfl
@[go_sem] theorem tkn_90 : tkn Try.prog 90 = true := by kernel_rfl
@[go_sem] theorem tsz_90 : tsz Try.prog 90 = 2 := by kernel_rfl
@[go_sem] theorem tagg_90 : tagg Try.prog 90 = true := by kernel_rfl
@[go_sem] theorem tzero_90 : tzero Try.prog 90 = some [.sl .nil [], .sl .nil []] := by kernel_rfl
@[go_sem] theorem tbdz_90 : aMakeFull.tbdz Try.prog 90 = some [.sl .nil [], .sl .nil []] := by kernel_rfl
@[go_sem] theorem tfld_90_0 : tfld Try.prog 90 0 = some (0, 1, false) := by kernel_rfl
@[go_sem] theorem tfld_90_1 : tfld Try.prog 90 1 = some (1, 1, false) := by kernel_rfl
@[go_sem] theorem tbd_90 : tbd Try.prog 90 = .str [(0, 1), (1, 1)] [.sl .nil [], .sl .nil []] := by kernel_rfl
@[go_sem] theorem tkn_91 : tkn Try.prog 91 = true := by kernel_rfl
@[go_sem] theorem tsz_91 : tsz Try.prog 91 = 2 := by kernel_rfl
@[go_sem] theorem tagg_91 : tagg Try.prog 91 = true := by kernel_rfl
@[go_sem] theorem tzero_91 : tzero Try.prog 91 = some [.sl .nil [], .sl .nil []] := by kernel_rfl
@[go_sem] theorem tbdz_91 : aMakeFull.tbdz Try.prog 91 = some [.sl .nil [], .sl .nil []] := by kernel_rfl
@[go_sem] theorem tfld_91_0 : tfld Try.prog 91 0 = some (0, 1, false) := by kernel_rfl
@[go_sem] theorem tfld_91_1 : tfld Try.prog 91 1 = some (1, 1, false) := by kernel_rfl
@[go_sem] theorem tbd_91 : tbd Try.prog 91 = .str [(0, 1), (1, 1)] [.sl .nil [], .sl .nil []] := by kernel_rfl
@[go_sem] theorem tkn_99 : tkn Try.prog 99 = true := by kernel_rfl
@[go_sem] theorem tsz_99 : tsz Try.prog 99 = 20 := by kernel_rfl
@[go_sem] theorem tagg_99 : tagg Try.prog 99 = true := by kernel_rfl
@[go_sem] theorem tzero_99 : tzero Try.prog 99 = some [.int .i64 0, .int .i64 0, .int .i64 0, .int .i64 0, .int .i64 0, .int .i64 0, .str [], .str [], .str [], .str [], .int .i64 0, .int .i64 0, .str [], .str [], .int .i64 0, .str [], .sl .nil [], .int .i64 0, .sl .nil [], .sl .nil []] := by kernel_rfl
@[go_sem] theorem tbdz_99 : aMakeFull.tbdz Try.prog 99 = some [.int .i64 0, .int .i64 0, .int .i64 0, .int .i64 0, .int .i64 0, .int .i64 0, .str [], .str [], .str [], .str [], .int .i64 0, .int .i64 0, .str [], .str [], .int .i64 0, .str [], .sl .nil [], .int .i64 0, .sl .nil [], .sl .nil []] := by kernel_rfl
@[go_sem] theorem tfld_99_0 : tfld Try.prog 99 0 = some (0, 2, true) := by kernel_rfl
@[go_sem] theorem tfld_99_1 : tfld Try.prog 99 1 = some (2, 2, true) := by kernel_rfl
@[go_sem] theorem tfld_99_2 : tfld Try.prog 99 2 = some (4, 16, true) := by kernel_rfl
@[go_sem] theorem tbd_99 : tbd Try.prog 99 = .str [(0, 2), (2, 2), (4, 16)] [.int .i64 0, .int .i64 0, .int .i64 0, .int .i64 0, .int .i64 0, .int .i64 0, .str [], .str [], .str [], .str [], .int .i64 0, .int .i64 0, .str [], .str [], .int .i64 0, .str [], .sl .nil [], .int .i64 0, .sl .nil [], .sl .nil []] := by kernel_rfl
@[go_sem] theorem tkn_100 : tkn Try.prog 100 = true := by kernel_rfl
@[go_sem] theorem tsz_100 : tsz Try.prog 100 = 20 := by kernel_rfl
@[go_sem] theorem tagg_100 : tagg Try.prog 100 = true := by kernel_rfl
@[go_sem] theorem tzero_100 : tzero Try.prog 100 = some [.int .i64 0, .int .i64 0, .int .i64 0, .int .i64 0, .int .i64 0, .int .i64 0, .str [], .str [], .str [], .str [], .int .i64 0, .int .i64 0, .str [], .str [], .int .i64 0, .str [], .sl .nil [], .int .i64 0, .sl .nil [], .sl .nil []] := by kernel_rfl
@[go_sem] theorem tbdz_100 : aMakeFull.tbdz Try.prog 100 = some [.int .i64 0, .int .i64 0, .int .i64 0, .int .i64 0, .int .i64 0, .int .i64 0, .str [], .str [], .str [], .str [], .int .i64 0, .int .i64 0, .str [], .str [], .int .i64 0, .str [], .sl .nil [], .int .i64 0, .sl .nil [], .sl .nil []] := by kernel_rfl
@[go_sem] theorem tfld_100_0 : tfld Try.prog 100 0 = some (0, 2, true) := by kernel_rfl
@[go_sem] theorem tfld_100_1 : tfld Try.prog 100 1 = some (2, 2, true) := by kernel_rfl
@[go_sem] theorem tfld_100_2 : tfld Try.prog 100 2 = some (4, 16, true) := by kernel_rfl
@[go_sem] theorem tbd_100 : tbd Try.prog 100 = .str [(0, 2), (2, 2), (4, 16)] [.int .i64 0, .int .i64 0, .int .i64 0, .int .i64 0, .int .i64 0, .int .i64 0, .str [], .str [], .str [], .str [], .int .i64 0, .int .i64 0, .str [], .str [], .int .i64 0, .str [], .sl .nil [], .int .i64 0, .sl .nil [], .sl .nil []] := by kernel_rfl
@[go_sem] theorem tkn_111 : tkn Try.prog 111 = true := by kernel_rfl
@[go_sem] theorem tsz_111 : tsz Try.prog 111 = 23 := by kernel_rfl
@[go_sem] theorem tagg_111 : tagg Try.prog 111 = true := by kernel_rfl
@[go_sem] theorem tzero_111 : tzero Try.prog 111 = some [.int .i64 0, .int .i64 0, .int .i64 0, .int .i64 0, .int .i64 0, .int .i64 0, .str [], .str [], .str [], .str [], .int .i64 0, .int .i64 0, .str [], .str [], .int .i64 0, .str [], .sl .nil [], .int .i64 0, .sl .nil [], .sl .nil [], .int .i64 0, .sl .nil [], .int .i64 0] := by kernel_rfl
@[go_sem] theorem tbdz_111 : aMakeFull.tbdz Try.prog 111 = some [.int .i64 0, .int .i64 0, .int .i64 0, .int .i64 0, .int .i64 0, .int .i64 0, .str [], .str [], .str [], .str [], .int .i64 0, .int .i64 0, .str [], .str [], .int .i64 0, .str [], .sl .nil [], .int .i64 0, .sl .nil [], .sl .nil [], .int .i64 0, .sl .nil [], .int .i64 0] := by kernel_rfl
@[go_sem] theorem tfld_111_0 : tfld Try.prog 111 0 = some (0, 20, true) := by kernel_rfl
@[go_sem] theorem tfld_111_1 : tfld Try.prog 111 1 = some (20, 1, false) := by kernel_rfl
@[go_sem] theorem tfld_111_2 : tfld Try.prog 111 2 = some (21, 1, false) := by kernel_rfl
@[go_sem] theorem tfld_111_3 : tfld Try.prog 111 3 = some (22, 1, false) := by kernel_rfl
@[go_sem] theorem tbd_111 : tbd Try.prog 111 = .str [(0, 20), (20, 1), (21, 1), (22, 1)] [.int .i64 0, .int .i64 0, .int .i64 0, .int .i64 0, .int .i64 0, .int .i64 0, .str [], .str [], .str [], .str [], .int .i64 0, .int .i64 0, .str [], .str [], .int .i64 0, .str [], .sl .nil [], .int .i64 0, .sl .nil [], .sl .nil [], .int .i64 0, .sl .nil [], .int .i64 0] := by kernel_rfl
@[go_sem] theorem tkn_112 : tkn Try.prog 112 = true := by kernel_rfl
@[go_sem] theorem tsz_112 : tsz Try.prog 112 = 23 := by kernel_rfl
@[go_sem] theorem tagg_112 : tagg Try.prog 112 = true := by kernel_rfl
@[go_sem] theorem tzero_112 : tzero Try.prog 112 = some [.int .i64 0, .int .i64 0, .int .i64 0, .int .i64 0, .int .i64 0, .int .i64 0, .str [], .str [], .str [], .str [], .int .i64 0, .int .i64 0, .str [], .str [], .int .i64 0, .str [], .sl .nil [], .int .i64 0, .sl .nil [], .sl .nil [], .int .i64 0, .sl .nil [], .int .i64 0] := by kernel_rfl
@[go_sem] theorem tbdz_112 : aMakeFull.tbdz Try.prog 112 = some [.int .i64 0, .int .i64 0, .int .i64 0, .int .i64 0, .int .i64 0, .int .i64 0, .str [], .str [], .str [], .str [], .int .i64 0, .int .i64 0, .str [], .str [], .int .i64 0, .str [], .sl .nil [], .int .i64 0, .sl .nil [], .sl .nil [], .int .i64 0, .sl .nil [], .int .i64 0] := by kernel_rfl
@[go_sem] theorem tfld_112_0 : tfld Try.prog 112 0 = some (0, 20, true) := by kernel_rfl
@[go_sem] theorem tfld_112_1 : tfld Try.prog 112 1 = some (20, 1, false) := by kernel_rfl
@[go_sem] theorem tfld_112_2 : tfld Try.prog 112 2 = some (21, 1, false) := by kernel_rfl
@[go_sem] theorem tfld_112_3 : tfld Try.prog 112 3 = some (22, 1, false) := by kernel_rfl
@[go_sem] theorem tbd_112 : tbd Try.prog 112 = .str [(0, 20), (20, 1), (21, 1), (22, 1)] [.int .i64 0, .int .i64 0, .int .i64 0, .int .i64 0, .int .i64 0, .int .i64 0, .str [], .str [], .str [], .str [], .int .i64 0, .int .i64 0, .str [], .str [], .int .i64 0, .str [], .sl .nil [], .int .i64 0, .sl .nil [], .sl .nil [], .int .i64 0, .sl .nil [], .int .i64 0] := by kernel_rfl
@[go_sem] theorem tkn_123 : tkn Try.prog 123 = true := by kernel_rfl
@[go_sem] theorem tsz_123 : tsz Try.prog 123 = 1 := by kernel_rfl
@[go_sem] theorem tagg_123 : tagg Try.prog 123 = false := by kernel_rfl
@[go_sem] theorem tzero_123 : tzero Try.prog 123 = some [.sl .nil []] := by kernel_rfl
@[go_sem] theorem tbdz_123 : aMakeFull.tbdz Try.prog 123 = some [.sl .nil []] := by kernel_rfl
@[go_sem] theorem tix_123 : tix Try.prog 123 = .slc 3 true := by kernel_rfl
@[go_sem] theorem tlen_123 : tlen Try.prog 123 = .slc := by kernel_rfl
@[go_sem] theorem teqk_123 : teqk Try.prog 123 = .slc := by kernel_rfl
@[go_sem] theorem telem_123 : telem Try.prog 123 = some ⟨43, 3, 40⟩ := by kernel_rfl
@[go_sem] theorem tkn_137 : tkn Try.prog 137 = true := by kernel_rfl
@[go_sem] theorem tsz_137 : tsz Try.prog 137 = 5 := by kernel_rfl
@[go_sem] theorem tagg_137 : tagg Try.prog 137 = true := by kernel_rfl
@[go_sem] theorem tzero_137 : tzero Try.prog 137 = some [.int .i64 0, .str [], .str [], .int .i64 0, .sl .nil []] := by kernel_rfl
@[go_sem] theorem tbdz_137 : aMakeFull.tbdz Try.prog 137 = some [.int .i64 0, .str [], .str [], .int .i64 0, .sl .nil []] := by kernel_rfl
@[go_sem] theorem tfld_137_0 : tfld Try.prog 137 0 = some (0, 3, true) := by kernel_rfl
@[go_sem] theorem tfld_137_1 : tfld Try.prog 137 1 = some (3, 1, false) := by kernel_rfl
@[go_sem] theorem tfld_137_2 : tfld Try.prog 137 2 = some (4, 1, false) := by kernel_rfl
@[go_sem] theorem tbd_137 : tbd Try.prog 137 = .str [(0, 3), (3, 1), (4, 1)] [.int .i64 0, .str [], .str [], .int .i64 0, .sl .nil []] := by kernel_rfl
@[go_sem] theorem tkn_138 : tkn Try.prog 138 = true := by kernel_rfl
@[go_sem] theorem tsz_138 : tsz Try.prog 138 = 5 := by kernel_rfl
@[go_sem] theorem tagg_138 : tagg Try.prog 138 = true := by kernel_rfl
@[go_sem] theorem tzero_138 : tzero Try.prog 138 = some [.int .i64 0, .str [], .str [], .int .i64 0, .sl .nil []] := by kernel_rfl
@[go_sem] theorem tbdz_138 : aMakeFull.tbdz Try.prog 138 = some [.int .i64 0, .str [], .str [], .int .i64 0, .sl .nil []] := by kernel_rfl
@[go_sem] theorem tfld_138_0 : tfld Try.prog 138 0 = some (0, 3, true) := by kernel_rfl
@[go_sem] theorem tfld_138_1 : tfld Try.prog 138 1 = some (3, 1, false) := by kernel_rfl
@[go_sem] theorem tfld_138_2 : tfld Try.prog 138 2 = some (4, 1, false) := by kernel_rfl
@[go_sem] theorem tbd_138 : tbd Try.prog 138 = .str [(0, 3), (3, 1), (4, 1)] [.int .i64 0, .str [], .str [], .int .i64 0, .sl .nil []] := by kernel_rfl
@[go_sem] theorem tkn_139 : tkn Try.prog 139 = true := by kernel_rfl
@[go_sem] theorem tsz_139 : tsz Try.prog 139 = 2 := by kernel_rfl
@[go_sem] theorem tagg_139 : tagg Try.prog 139 = true := by kernel_rfl
@[go_sem] theorem tzero_139 : tzero Try.prog 139 = some [.str [], .sl .nil []] := by kernel_rfl
@[go_sem] theorem tbdz_139 : aMakeFull.tbdz Try.prog 139 = some [.str [], .sl .nil []] := by kernel_rfl
@[go_sem] theorem tfld_139_0 : tfld Try.prog 139 0 = some (0, 1, false) := by kernel_rfl
@[go_sem] theorem tfld_139_1 : tfld Try.prog 139 1 = some (1, 1, false) := by kernel_rfl
@[go_sem] theorem tbd_139 : tbd Try.prog 139 = .str [(0, 1), (1, 1)] [.str [], .sl .nil []] := by kernel_rfl
@[go_sem] theorem tkn_140 : tkn Try.prog 140 = true := by kernel_rfl
@[go_sem] theorem tsz_140 : tsz Try.prog 140 = 2 := by kernel_rfl
@[go_sem] theorem tagg_140 : tagg Try.prog 140 = true := by kernel_rfl
@[go_sem] theorem tzero_140 : tzero Try.prog 140 = some [.str [], .sl .nil []] := by kernel_rfl
@[go_sem] theorem tbdz_140 : aMakeFull.tbdz Try.prog 140 = some [.str [], .sl .nil []] := by kernel_rfl
@[go_sem] theorem tfld_140_0 : tfld Try.prog 140 0 = some (0, 1, false) := by kernel_rfl
@[go_sem] theorem tfld_140_1 : tfld Try.prog 140 1 = some (1, 1, false) := by kernel_rfl
@[go_sem] theorem tbd_140 : tbd Try.prog 140 = .str [(0, 1), (1, 1)] [.str [], .sl .nil []] := by kernel_rfl
@[go_sem] theorem tkn_149 : tkn Try.prog 149 = true := by kernel_rfl
@[go_sem] theorem tsz_149 : tsz Try.prog 149 = 1 := by kernel_rfl
@[go_sem] theorem tagg_149 : tagg Try.prog 149 = false := by kernel_rfl
@[go_sem] theorem tzero_149 : tzero Try.prog 149 = some [.nilmap] := by kernel_rfl
@[go_sem] theorem tbdz_149 : aMakeFull.tbdz Try.prog 149 = some [.nilmap] := by kernel_rfl
@[go_sem] theorem teqk_149 : teqk Try.prog 149 = .map := by kernel_rfl
@[go_sem] theorem tmapB_149 : tmapB Try.prog 149 = true := by kernel_rfl
@[go_sem] theorem tmap_149 : tmap Try.prog 149 = some ([.int, .int], .agg [.int .i64 0, .int .i64 0, .int .i64 0, .int .i64 0, .int .i64 0, .int .i64 0, .str [], .str [], .str [], .str [], .int .i64 0, .int .i64 0, .str [], .str [], .int .i64 0, .str [], .sl .nil [], .int .i64 0, .sl .nil [], .sl .nil [], .int .i64 0, .sl .nil [], .int .i64 0]) := by kernel_rfl
@[go_sem] theorem tkn_150 : tkn Try.prog 150 = true := by kernel_rfl
@[go_sem] theorem tsz_150 : tsz Try.prog 150 = 1 := by kernel_rfl
@[go_sem] theorem tagg_150 : tagg Try.prog 150 = true := by kernel_rfl
@[go_sem] theorem tzero_150 : tzero Try.prog 150 = some [.nilmap] := by kernel_rfl
@[go_sem] theorem tbdz_150 : aMakeFull.tbdz Try.prog 150 = some [.nilmap] := by kernel_rfl
@[go_sem] theorem tfld_150_0 : tfld Try.prog 150 0 = some (0, 1, false) := by kernel_rfl
@[go_sem] theorem tbd_150 : tbd Try.prog 150 = .str [(0, 1)] [.nilmap] := by kernel_rfl
@[go_sem] theorem tkn_151 : tkn Try.prog 151 = true := by kernel_rfl
@[go_sem] theorem tsz_151 : tsz Try.prog 151 = 1 := by kernel_rfl
@[go_sem] theorem tagg_151 : tagg Try.prog 151 = true := by kernel_rfl
@[go_sem] theorem tzero_151 : tzero Try.prog 151 = some [.nilmap] := by kernel_rfl
@[go_sem] theorem tbdz_151 : aMakeFull.tbdz Try.prog 151 = some [.nilmap] := by kernel_rfl
@[go_sem] theorem tfld_151_0 : tfld Try.prog 151 0 = some (0, 1, false) := by kernel_rfl
@[go_sem] theorem tbd_151 : tbd Try.prog 151 = .str [(0, 1)] [.nilmap] := by kernel_rfl
@[go_sem] theorem tkn_160 : tkn Try.prog 160 = true := by kernel_rfl
@[go_sem] theorem tsz_160 : tsz Try.prog 160 = 2 := by kernel_rfl
@[go_sem] theorem tagg_160 : tagg Try.prog 160 = true := by kernel_rfl
@[go_sem] theorem tzero_160 : tzero Try.prog 160 = some [.str [], .str []] := by kernel_rfl
@[go_sem] theorem tbdz_160 : aMakeFull.tbdz Try.prog 160 = some [.str [], .str []] := by kernel_rfl
@[go_sem] theorem tfld_160_0 : tfld Try.prog 160 0 = some (0, 1, false) := by kernel_rfl
@[go_sem] theorem tfld_160_1 : tfld Try.prog 160 1 = some (1, 1, false) := by kernel_rfl
@[go_sem] theorem tbd_160 : tbd Try.prog 160 = .str [(0, 1), (1, 1)] [.str [], .str []] := by kernel_rfl
@[go_sem] theorem tleaves_160 : tleaves Try.prog 160 = some [.str, .str] := by kernel_rfl
@[go_sem] theorem tkn_161 : tkn Try.prog 161 = true := by kernel_rfl
@[go_sem] theorem tsz_161 : tsz Try.prog 161 = 2 := by kernel_rfl
@[go_sem] theorem tagg_161 : tagg Try.prog 161 = true := by kernel_rfl
@[go_sem] theorem tzero_161 : tzero Try.prog 161 = some [.str [], .str []] := by kernel_rfl
@[go_sem] theorem tbdz_161 : aMakeFull.tbdz Try.prog 161 = some [.str [], .str []] := by kernel_rfl
@[go_sem] theorem tfld_161_0 : tfld Try.prog 161 0 = some (0, 1, false) := by kernel_rfl
@[go_sem] theorem tfld_161_1 : tfld Try.prog 161 1 = some (1, 1, false) := by kernel_rfl
@[go_sem] theorem tbd_161 : tbd Try.prog 161 = .str [(0, 1), (1, 1)] [.str [], .str []] := by kernel_rfl
@[go_sem] theorem tleaves_161 : tleaves Try.prog 161 = some [.str, .str] := by kernel_rfl
@[go_sem] theorem tkn_174 : tkn Try.prog 174 = true := by kernel_rfl
@[go_sem] theorem tsz_174 : tsz Try.prog 174 = 1 := by kernel_rfl
@[go_sem] theorem tagg_174 : tagg Try.prog 174 = false := by kernel_rfl
@[go_sem] theorem tkn_190 : tkn Try.prog 190 = true := by kernel_rfl
@[go_sem] theorem tsz_190 : tsz Try.prog 190 = 1 := by kernel_rfl
@[go_sem] theorem tagg_190 : tagg Try.prog 190 = false := by kernel_rfl
@[go_sem] theorem tzero_190 : tzero Try.prog 190 = some [.flt .f64 0] := by kernel_rfl
@[go_sem] theorem tbdz_190 : aMakeFull.tbdz Try.prog 190 = some [.flt .f64 0] := by kernel_rfl
@[go_sem] theorem tkn_203 : tkn Try.prog 203 = true := by kernel_rfl
@[go_sem] theorem tsz_203 : tsz Try.prog 203 = 2 := by kernel_rfl
@[go_sem] theorem tagg_203 : tagg Try.prog 203 = true := by kernel_rfl
@[go_sem] theorem tzero_203 : tzero Try.prog 203 = some [.flt .f64 0, .flt .f64 0] := by kernel_rfl
@[go_sem] theorem tbdz_203 : aMakeFull.tbdz Try.prog 203 = some [.flt .f64 0, .flt .f64 0] := by kernel_rfl
@[go_sem] theorem tix_203 : tix Try.prog 203 = .arr 2 1 false := by kernel_rfl
@[go_sem] theorem tlen_203 : tlen Try.prog 203 = .arr 2 := by kernel_rfl
@[go_sem] theorem tbd_203 : tbd Try.prog 203 = .arr 1 [.flt .f64 0, .flt .f64 0] := by kernel_rfl
@[go_sem] theorem tkn_207 : tkn Try.prog 207 = true := by kernel_rfl
@[go_sem] theorem tsz_207 : tsz Try.prog 207 = 1 := by kernel_rfl
@[go_sem] theorem tagg_207 : tagg Try.prog 207 = false := by kernel_rfl
@[go_sem] theorem tzero_207 : tzero Try.prog 207 = some [.int .u64 0] := by kernel_rfl
@[go_sem] theorem tbdz_207 : aMakeFull.tbdz Try.prog 207 = some [.int .u64 0] := by kernel_rfl
@[go_sem] theorem tkn_209 : tkn Try.prog 209 = true := by kernel_rfl
@[go_sem] theorem tsz_209 : tsz Try.prog 209 = 1 := by kernel_rfl
@[go_sem] theorem tagg_209 : tagg Try.prog 209 = false := by kernel_rfl
@[go_sem] theorem tzero_209 : tzero Try.prog 209 = some [.int .u64 0] := by kernel_rfl
@[go_sem] theorem tbdz_209 : aMakeFull.tbdz Try.prog 209 = some [.int .u64 0] := by kernel_rfl
@[go_sem] theorem tkn_214 : tkn Try.prog 214 = true := by kernel_rfl
@[go_sem] theorem tsz_214 : tsz Try.prog 214 = 0 := by kernel_rfl
@[go_sem] theorem tagg_214 : tagg Try.prog 214 = true := by kernel_rfl
@[go_sem] theorem tzero_214 : tzero Try.prog 214 = some [] := by kernel_rfl
@[go_sem] theorem tbdz_214 : aMakeFull.tbdz Try.prog 214 = some [] := by kernel_rfl
@[go_sem] theorem tix_214 : tix Try.prog 214 = .arr 0 1 false := by kernel_rfl
@[go_sem] theorem tlen_214 : tlen Try.prog 214 = .arr 0 := by kernel_rfl
@[go_sem] theorem tbd_214 : tbd Try.prog 214 = .arr 1 [] := by kernel_rfl
@[go_sem] theorem tkn_218 : tkn Try.prog 218 = true := by kernel_rfl
@[go_sem] theorem tsz_218 : tsz Try.prog 218 = 1 := by kernel_rfl
@[go_sem] theorem tagg_218 : tagg Try.prog 218 = false := by kernel_rfl
@[go_sem] theorem tzero_218 : tzero Try.prog 218 = some [.int .u32 0] := by kernel_rfl
@[go_sem] theorem tbdz_218 : aMakeFull.tbdz Try.prog 218 = some [.int .u32 0] := by kernel_rfl
@[go_sem] theorem tkn_222 : tkn Try.prog 222 = true := by kernel_rfl
@[go_sem] theorem tsz_222 : tsz Try.prog 222 = 1 := by kernel_rfl
@[go_sem] theorem tagg_222 : tagg Try.prog 222 = false := by kernel_rfl
@[go_sem] theorem tzero_222 : tzero Try.prog 222 = some [.nilp] := by kernel_rfl
@[go_sem] theorem tbdz_222 : aMakeFull.tbdz Try.prog 222 = some [.nilp] := by kernel_rfl
@[go_sem] theorem teqk_222 : teqk Try.prog 222 = .ptr := by kernel_rfl
@[go_sem] theorem tcv_2_2 : tcv Try.prog 2 2 = .int .i64 := by kernel_rfl
@[go_sem] theorem tcv_2_3 : tcv Try.prog 2 3 = .int .i64 := by kernel_rfl
@[go_sem] theorem tcv_2_31 : tcv Try.prog 2 31 = .int .i64 := by kernel_rfl
@[go_sem] theorem tcv_2_5 : tcv Try.prog 2 5 = .int .u8 := by kernel_rfl
@[go_sem] theorem tcv_2_12 : tcv Try.prog 2 12 = .int .u64 := by kernel_rfl
@[go_sem] theorem tcv_2_207 : tcv Try.prog 2 207 = .int .u64 := by kernel_rfl
@[go_sem] theorem tcv_2_209 : tcv Try.prog 2 209 = .int .u64 := by kernel_rfl
@[go_sem] theorem tcv_2_21 : tcv Try.prog 2 21 = .int .i32 := by kernel_rfl
@[go_sem] theorem tcv_2_218 : tcv Try.prog 2 218 = .int .u32 := by kernel_rfl
@[go_sem] theorem tcv_3_2 : tcv Try.prog 3 2 = .int .i64 := by kernel_rfl
@[go_sem] theorem tcv_3_3 : tcv Try.prog 3 3 = .int .i64 := by kernel_rfl
@[go_sem] theorem tcv_3_31 : tcv Try.prog 3 31 = .int .i64 := by kernel_rfl
@[go_sem] theorem tcv_3_5 : tcv Try.prog 3 5 = .int .u8 := by kernel_rfl
@[go_sem] theorem tcv_3_12 : tcv Try.prog 3 12 = .int .u64 := by kernel_rfl
@[go_sem] theorem tcv_3_207 : tcv Try.prog 3 207 = .int .u64 := by kernel_rfl
@[go_sem] theorem tcv_3_209 : tcv Try.prog 3 209 = .int .u64 := by kernel_rfl
@[go_sem] theorem tcv_3_21 : tcv Try.prog 3 21 = .int .i32 := by kernel_rfl
@[go_sem] theorem tcv_3_218 : tcv Try.prog 3 218 = .int .u32 := by kernel_rfl
@[go_sem] theorem tcv_31_2 : tcv Try.prog 31 2 = .int .i64 := by kernel_rfl
@[go_sem] theorem tcv_31_3 : tcv Try.prog 31 3 = .int .i64 := by kernel_rfl
@[go_sem] theorem tcv_31_31 : tcv Try.prog 31 31 = .int .i64 := by kernel_rfl
@[go_sem] theorem tcv_31_5 : tcv Try.prog 31 5 = .int .u8 := by kernel_rfl
@[go_sem] theorem tcv_31_12 : tcv Try.prog 31 12 = .int .u64 := by kernel_rfl
@[go_sem] theorem tcv_31_207 : tcv Try.prog 31 207 = .int .u64 := by kernel_rfl
@[go_sem] theorem tcv_31_209 : tcv Try.prog 31 209 = .int .u64 := by kernel_rfl
@[go_sem] theorem tcv_31_21 : tcv Try.prog 31 21 = .int .i32 := by kernel_rfl
@[go_sem] theorem tcv_31_218 : tcv Try.prog 31 218 = .int .u32 := by kernel_rfl
@[go_sem] theorem tcv_5_2 : tcv Try.prog 5 2 = .int .i64 := by kernel_rfl
@[go_sem] theorem tcv_5_3 : tcv Try.prog 5 3 = .int .i64 := by kernel_rfl
@[go_sem] theorem tcv_5_31 : tcv Try.prog 5 31 = .int .i64 := by kernel_rfl
@[go_sem] theorem tcv_5_5 : tcv Try.prog 5 5 = .int .u8 := by kernel_rfl
@[go_sem] theorem tcv_5_12 : tcv Try.prog 5 12 = .int .u64 := by kernel_rfl
@[go_sem] theorem tcv_5_207 : tcv Try.prog 5 207 = .int .u64 := by kernel_rfl
@[go_sem] theorem tcv_5_209 : tcv Try.prog 5 209 = .int .u64 := by kernel_rfl
@[go_sem] theorem tcv_5_21 : tcv Try.prog 5 21 = .int .i32 := by kernel_rfl
@[go_sem] theorem tcv_5_218 : tcv Try.prog 5 218 = .int .u32 := by kernel_rfl
@[go_sem] theorem tcv_12_2 : tcv Try.prog 12 2 = .int .i64 := by kernel_rfl
@[go_sem] theorem tcv_12_3 : tcv Try.prog 12 3 = .int .i64 := by kernel_rfl
@[go_sem] theorem tcv_12_31 : tcv Try.prog 12 31 = .int .i64 := by kernel_rfl
@[go_sem] theorem tcv_12_5 : tcv Try.prog 12 5 = .int .u8 := by kernel_rfl
@[go_sem] theorem tcv_12_12 : tcv Try.prog 12 12 = .int .u64 := by kernel_rfl
@[go_sem] theorem tcv_12_207 : tcv Try.prog 12 207 = .int .u64 := by kernel_rfl
@[go_sem] theorem tcv_12_209 : tcv Try.prog 12 209 = .int .u64 := by kernel_rfl
@[go_sem] theorem tcv_12_21 : tcv Try.prog 12 21 = .int .i32 := by kernel_rfl
@[go_sem] theorem tcv_12_218 : tcv Try.prog 12 218 = .int .u32 := by kernel_rfl
@[go_sem] theorem tcv_207_2 : tcv Try.prog 207 2 = .int .i64 := by kernel_rfl
@[go_sem] theorem tcv_207_3 : tcv Try.prog 207 3 = .int .i64 := by kernel_rfl
@[go_sem] theorem tcv_207_31 : tcv Try.prog 207 31 = .int .i64 := by kernel_rfl
@[go_sem] theorem tcv_207_5 : tcv Try.prog 207 5 = .int .u8 := by kernel_rfl
@[go_sem] theorem tcv_207_12 : tcv Try.prog 207 12 = .int .u64 := by kernel_rfl
@[go_sem] theorem tcv_207_207 : tcv Try.prog 207 207 = .int .u64 := by kernel_rfl
@[go_sem] theorem tcv_207_209 : tcv Try.prog 207 209 = .int .u64 := by kernel_rfl
@[go_sem] theorem tcv_207_21 : tcv Try.prog 207 21 = .int .i32 := by kernel_rfl
@[go_sem] theorem tcv_207_218 : tcv Try.prog 207 218 = .int .u32 := by kernel_rfl
@[go_sem] theorem tcv_209_2 : tcv Try.prog 209 2 = .int .i64 := by kernel_rfl
@[go_sem] theorem tcv_209_3 : tcv Try.prog 209 3 = .int .i64 := by kernel_rfl
@[go_sem] theorem tcv_209_31 : tcv Try.prog 209 31 = .int .i64 := by kernel_rfl
@[go_sem] theorem tcv_209_5 : tcv Try.prog 209 5 = .int .u8 := by kernel_rfl
@[go_sem] theorem tcv_209_12 : tcv Try.prog 209 12 = .int .u64 := by kernel_rfl
@[go_sem] theorem tcv_209_207 : tcv Try.prog 209 207 = .int .u64 := by kernel_rfl
@[go_sem] theorem tcv_209_209 : tcv Try.prog 209 209 = .int .u64 := by kernel_rfl
@[go_sem] theorem tcv_209_21 : tcv Try.prog 209 21 = .int .i32 := by kernel_rfl
@[go_sem] theorem tcv_209_218 : tcv Try.prog 209 218 = .int .u32 := by kernel_rfl
@[go_sem] theorem tcv_21_2 : tcv Try.prog 21 2 = .int .i64 := by kernel_rfl
@[go_sem] theorem tcv_21_3 : tcv Try.prog 21 3 = .int .i64 := by kernel_rfl
@[go_sem] theorem tcv_21_31 : tcv Try.prog 21 31 = .int .i64 := by kernel_rfl
@[go_sem] theorem tcv_21_5 : tcv Try.prog 21 5 = .int .u8 := by kernel_rfl
@[go_sem] theorem tcv_21_12 : tcv Try.prog 21 12 = .int .u64 := by kernel_rfl
@[go_sem] theorem tcv_21_207 : tcv Try.prog 21 207 = .int .u64 := by kernel_rfl
@[go_sem] theorem tcv_21_209 : tcv Try.prog 21 209 = .int .u64 := by kernel_rfl
@[go_sem] theorem tcv_21_21 : tcv Try.prog 21 21 = .int .i32 := by kernel_rfl
@[go_sem] theorem tcv_21_218 : tcv Try.prog 21 218 = .int .u32 := by kernel_rfl
@[go_sem] theorem tcv_218_2 : tcv Try.prog 218 2 = .int .i64 := by kernel_rfl
@[go_sem] theorem tcv_218_3 : tcv Try.prog 218 3 = .int .i64 := by kernel_rfl
@[go_sem] theorem tcv_218_31 : tcv Try.prog 218 31 = .int .i64 := by kernel_rfl
@[go_sem] theorem tcv_218_5 : tcv Try.prog 218 5 = .int .u8 := by kernel_rfl
@[go_sem] theorem tcv_218_12 : tcv Try.prog 218 12 = .int .u64 := by kernel_rfl
@[go_sem] theorem tcv_218_207 : tcv Try.prog 218 207 = .int .u64 := by kernel_rfl
@[go_sem] theorem tcv_218_209 : tcv Try.prog 218 209 = .int .u64 := by kernel_rfl
@[go_sem] theorem tcv_218_21 : tcv Try.prog 218 21 = .int .i32 := by kernel_rfl
@[go_sem] theorem tcv_218_218 : tcv Try.prog 218 218 = .int .u32 := by kernel_rfl
@[go_sem] theorem tcv_9_9 : tcv Try.prog 9 9 = .same := by kernel_rfl
end Go.Proofs.Ytbojhapdidieoaa
