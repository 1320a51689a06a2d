/- Facts on the table of types of this seat, printed by program: one rule a fact. -/
import Derived.Test.YtcinpbgpbehndaaPlE
import Derived.KernelRfl
import Derived.Test.YtcinpbgpbehndaaProg
set_option linter.unusedSimpArgs false
set_option linter.unusedVariables false
namespace Go.Proofs.Ytcinpbgpbehndaa
open Go.PL
@[go_sem] theorem tkn_2 : tkn Try.prog 2 = true := by kernel_rfl
@[go_sem] theorem tsz_2 : tsz Try.prog 2 = 1 := by kernel_rfl
@[go_sem] theorem tagg_2 : tagg Try.prog 2 = false := by kernel_rfl
@[go_sem] theorem tzero_2 : tzero Try.prog 2 = some [.int .i64 0] := by kernel_rfl
@[go_sem] theorem tbdz_2 : aMakeFull.tbdz Try.prog 2 = some [.int .i64 0] := by kernel_rfl
@[go_sem] theorem tkn_3 : tkn Try.prog 3 = true := by kernel_rfl
@[go_sem] theorem tsz_3 : tsz Try.prog 3 = 1 := by kernel_rfl
@[go_sem] theorem tagg_3 : tagg Try.prog 3 = false := by kernel_rfl
@[go_sem] theorem tzero_3 : tzero Try.prog 3 = some [.int .i64 0] := by kernel_rfl
@[go_sem] theorem tbdz_3 : aMakeFull.tbdz Try.prog 3 = some [.int .i64 0] := by kernel_rfl
@[go_sem] theorem tkn_4 : tkn Try.prog 4 = true := by kernel_rfl
@[go_sem] theorem tsz_4 : tsz Try.prog 4 = 1 := by kernel_rfl
@[go_sem] theorem tagg_4 : tagg Try.prog 4 = false := by kernel_rfl
@[go_sem] theorem tzero_4 : tzero Try.prog 4 = some [.bool false] := by kernel_rfl
@[go_sem] theorem tbdz_4 : aMakeFull.tbdz Try.prog 4 = some [.bool false] := by kernel_rfl
@[go_sem] theorem teqk_4 : teqk Try.prog 4 = .bool := by kernel_rfl
@[go_sem] theorem tkn_5 : tkn Try.prog 5 = true := by kernel_rfl
@[go_sem] theorem tsz_5 : tsz Try.prog 5 = 1 := by kernel_rfl
@[go_sem] theorem tagg_5 : tagg Try.prog 5 = false := by kernel_rfl
@[go_sem] theorem tzero_5 : tzero Try.prog 5 = some [.int .u8 0] := by kernel_rfl
@[go_sem] theorem tbdz_5 : aMakeFull.tbdz Try.prog 5 = some [.int .u8 0] := by kernel_rfl
@[go_sem] theorem tkn_9 : tkn Try.prog 9 = true := by kernel_rfl
@[go_sem] theorem tsz_9 : tsz Try.prog 9 = 1 := by kernel_rfl
@[go_sem] theorem tagg_9 : tagg Try.prog 9 = false := by kernel_rfl
@[go_sem] theorem tzero_9 : tzero Try.prog 9 = some [.str []] := by kernel_rfl
@[go_sem] theorem tbdz_9 : aMakeFull.tbdz Try.prog 9 = some [.str []] := by kernel_rfl
@[go_sem] theorem tix_9 : tix Try.prog 9 = .str := by kernel_rfl
@[go_sem] theorem tlen_9 : tlen Try.prog 9 = .str := by kernel_rfl
@[go_sem] theorem tkn_12 : tkn Try.prog 12 = true := by kernel_rfl
@[go_sem] theorem tsz_12 : tsz Try.prog 12 = 1 := by kernel_rfl
@[go_sem] theorem tagg_12 : tagg Try.prog 12 = false := by kernel_rfl
@[go_sem] theorem tzero_12 : tzero Try.prog 12 = some [.int .u64 0] := by kernel_rfl
@[go_sem] theorem tbdz_12 : aMakeFull.tbdz Try.prog 12 = some [.int .u64 0] := by kernel_rfl
@[go_sem] theorem tkn_21 : tkn Try.prog 21 = true := by kernel_rfl
@[go_sem] theorem tsz_21 : tsz Try.prog 21 = 1 := by kernel_rfl
@[go_sem] theorem tagg_21 : tagg Try.prog 21 = false := by kernel_rfl
@[go_sem] theorem tzero_21 : tzero Try.prog 21 = some [.int .i32 0] := by kernel_rfl
@[go_sem] theorem tbdz_21 : aMakeFull.tbdz Try.prog 21 = some [.int .i32 0] := by kernel_rfl
@[go_sem] theorem tkn_22 : tkn Try.prog 22 = true := by kernel_rfl
@[go_sem] theorem tsz_22 : tsz Try.prog 22 = 1 := by kernel_rfl
@[go_sem] theorem tagg_22 : tagg Try.prog 22 = false := by kernel_rfl
@[go_sem] theorem tzero_22 : tzero Try.prog 22 = some [.sl .nil []] := by kernel_rfl
@[go_sem] theorem tbdz_22 : aMakeFull.tbdz Try.prog 22 = some [.sl .nil []] := by kernel_rfl
@[go_sem] theorem tix_22 : tix Try.prog 22 = .slc 7 true := by kernel_rfl
@[go_sem] theorem tlen_22 : tlen Try.prog 22 = .slc := by kernel_rfl
@[go_sem] theorem teqk_22 : teqk Try.prog 22 = .slc := by kernel_rfl
@[go_sem] theorem telem_22 : telem Try.prog 22 = some ⟨69, 7, 96⟩ := by kernel_rfl
@[go_sem] theorem tkn_23 : tkn Try.prog 23 = true := by kernel_rfl
@[go_sem] theorem tsz_23 : tsz Try.prog 23 = 1 := by kernel_rfl
@[go_sem] theorem tagg_23 : tagg Try.prog 23 = false := by kernel_rfl
@[go_sem] theorem tzero_23 : tzero Try.prog 23 = some [.sl .nil []] := by kernel_rfl
@[go_sem] theorem tbdz_23 : aMakeFull.tbdz Try.prog 23 = some [.sl .nil []] := by kernel_rfl
@[go_sem] theorem tix_23 : tix Try.prog 23 = .slc 5 true := by kernel_rfl
@[go_sem] theorem tlen_23 : tlen Try.prog 23 = .slc := by kernel_rfl
@[go_sem] theorem teqk_23 : teqk Try.prog 23 = .slc := by kernel_rfl
@[go_sem] theorem telem_23 : telem Try.prog 23 = some ⟨39, 5, 72⟩ := by kernel_rfl
@[go_sem] theorem tkn_24 : tkn Try.prog 24 = true := by kernel_rfl
@[go_sem] theorem tsz_24 : tsz Try.prog 24 = 1 := by kernel_rfl
@[go_sem] theorem tagg_24 : tagg Try.prog 24 = false := by kernel_rfl
@[go_sem] theorem tzero_24 : tzero Try.prog 24 = some [.sl .nil []] := by kernel_rfl
@[go_sem] theorem tbdz_24 : aMakeFull.tbdz Try.prog 24 = some [.sl .nil []] := by kernel_rfl
@[go_sem] theorem tix_24 : tix Try.prog 24 = .slc 2 true := by kernel_rfl
@[go_sem] theorem tlen_24 : tlen Try.prog 24 = .slc := by kernel_rfl
@[go_sem] theorem teqk_24 : teqk Try.prog 24 = .slc := by kernel_rfl
@[go_sem] theorem telem_24 : telem Try.prog 24 = some ⟨57, 2, 40⟩ := by kernel_rfl
@[go_sem] theorem tkn_25 : tkn Try.prog 25 = true := by kernel_rfl
@[go_sem] theorem tsz_25 : tsz Try.prog 25 = 2 := by kernel_rfl
@[go_sem] theorem tagg_25 : tagg Try.prog 25 = true := by kernel_rfl
@[go_sem] theorem tzero_25 : tzero Try.prog 25 = some [.sl .nil [], .sl .nil []] := by kernel_rfl
@[go_sem] theorem tbdz_25 : aMakeFull.tbdz Try.prog 25 = some [.sl .nil [], .sl .nil []] := by kernel_rfl
@[go_sem] theorem tfld_25_0 : tfld Try.prog 25 0 = some (0, 1, false) := by kernel_rfl
@[go_sem] theorem tfld_25_1 : tfld Try.prog 25 1 = some (1, 1, false) := by kernel_rfl
@[go_sem] theorem tbd_25 : tbd Try.prog 25 = .str [(0, 1), (1, 1)] [.sl .nil [], .sl .nil []] := by kernel_rfl
@[go_sem] theorem tkn_26 : tkn Try.prog 26 = true := by kernel_rfl
@[go_sem] theorem tsz_26 : tsz Try.prog 26 = 2 := by kernel_rfl
@[go_sem] theorem tagg_26 : tagg Try.prog 26 = true := by kernel_rfl
@[go_sem] theorem tzero_26 : tzero Try.prog 26 = some [.sl .nil [], .sl .nil []] := by kernel_rfl
@[go_sem] theorem tbdz_26 : aMakeFull.tbdz Try.prog 26 = some [.sl .nil [], .sl .nil []] := by kernel_rfl
@[go_sem] theorem tfld_26_0 : tfld Try.prog 26 0 = some (0, 1, false) := by kernel_rfl
@[go_sem] theorem tfld_26_1 : tfld Try.prog 26 1 = some (1, 1, false) := by kernel_rfl
@[go_sem] theorem tbd_26 : tbd Try.prog 26 = .str [(0, 1), (1, 1)] [.sl .nil [], .sl .nil []] := by kernel_rfl
@[go_sem] theorem tkn_32 : tkn Try.prog 32 = true := by kernel_rfl
@[go_sem] theorem tsz_32 : tsz Try.prog 32 = 1 := by kernel_rfl
@[go_sem] theorem tagg_32 : tagg Try.prog 32 = false := by kernel_rfl
@[go_sem] theorem tzero_32 : tzero Try.prog 32 = some [.sl .nil []] := by kernel_rfl
@[go_sem] theorem tbdz_32 : aMakeFull.tbdz Try.prog 32 = some [.sl .nil []] := by kernel_rfl
@[go_sem] theorem tix_32 : tix Try.prog 32 = .slc 1 false := by kernel_rfl
@[go_sem] theorem tlen_32 : tlen Try.prog 32 = .slc := by kernel_rfl
@[go_sem] theorem teqk_32 : teqk Try.prog 32 = .slc := by kernel_rfl
@[go_sem] theorem telem_32 : telem Try.prog 32 = some ⟨9, 1, 16⟩ := by kernel_rfl
@[go_sem] theorem tkn_36 : tkn Try.prog 36 = true := by kernel_rfl
@[go_sem] theorem tsz_36 : tsz Try.prog 36 = 3 := by kernel_rfl
@[go_sem] theorem tagg_36 : tagg Try.prog 36 = true := by kernel_rfl
@[go_sem] theorem tzero_36 : tzero Try.prog 36 = some [.int .i64 0, .str [], .str []] := by kernel_rfl
@[go_sem] theorem tbdz_36 : aMakeFull.tbdz Try.prog 36 = some [.int .i64 0, .str [], .str []] := by kernel_rfl
@[go_sem] theorem tfld_36_0 : tfld Try.prog 36 0 = some (0, 1, false) := by kernel_rfl
@[go_sem] theorem tfld_36_1 : tfld Try.prog 36 1 = some (1, 1, false) := by kernel_rfl
@[go_sem] theorem tfld_36_2 : tfld Try.prog 36 2 = some (2, 1, false) := by kernel_rfl
@[go_sem] theorem tbd_36 : tbd Try.prog 36 = .str [(0, 1), (1, 1), (2, 1)] [.int .i64 0, .str [], .str []] := by kernel_rfl
@[go_sem] theorem tleaves_36 : tleaves Try.prog 36 = some [.int, .str, .str] := by kernel_rfl
@[go_sem] theorem tkn_37 : tkn Try.prog 37 = true := by kernel_rfl
@[go_sem] theorem tsz_37 : tsz Try.prog 37 = 3 := by kernel_rfl
@[go_sem] theorem tagg_37 : tagg Try.prog 37 = true := by kernel_rfl
@[go_sem] theorem tzero_37 : tzero Try.prog 37 = some [.int .i64 0, .str [], .str []] := by kernel_rfl
@[go_sem] theorem tbdz_37 : aMakeFull.tbdz Try.prog 37 = some [.int .i64 0, .str [], .str []] := by kernel_rfl
@[go_sem] theorem tfld_37_0 : tfld Try.prog 37 0 = some (0, 1, false) := by kernel_rfl
@[go_sem] theorem tfld_37_1 : tfld Try.prog 37 1 = some (1, 1, false) := by kernel_rfl
@[go_sem] theorem tfld_37_2 : tfld Try.prog 37 2 = some (2, 1, false) := by kernel_rfl
@[go_sem] theorem tbd_37 : tbd Try.prog 37 = .str [(0, 1), (1, 1), (2, 1)] [.int .i64 0, .str [], .str []] := by kernel_rfl
@[go_sem] theorem tleaves_37 : tleaves Try.prog 37 = some [.int, .str, .str] := by kernel_rfl
@[go_sem] theorem tkn_38 : tkn Try.prog 38 = true := by kernel_rfl
@[go_sem] theorem tsz_38 : tsz Try.prog 38 = 5 := by kernel_rfl
@[go_sem] theorem tagg_38 : tagg Try.prog 38 = true := by kernel_rfl
@[go_sem] theorem tzero_38 : tzero Try.prog 38 = some [.int .i64 0, .str [], .str [], .int .i64 0, .sl .nil []] := by kernel_rfl
@[go_sem] theorem tbdz_38 : aMakeFull.tbdz Try.prog 38 = some [.int .i64 0, .str [], .str [], .int .i64 0, .sl .nil []] := by kernel_rfl
@[go_sem] theorem tfld_38_0 : tfld Try.prog 38 0 = some (0, 3, true) := by kernel_rfl
@[go_sem] theorem tfld_38_1 : tfld Try.prog 38 1 = some (3, 1, false) := by kernel_rfl
@[go_sem] theorem tfld_38_2 : tfld Try.prog 38 2 = some (4, 1, false) := by kernel_rfl
@[go_sem] theorem tbd_38 : tbd Try.prog 38 = .str [(0, 3), (3, 1), (4, 1)] [.int .i64 0, .str [], .str [], .int .i64 0, .sl .nil []] := by kernel_rfl
@[go_sem] theorem tkn_39 : tkn Try.prog 39 = true := by kernel_rfl
@[go_sem] theorem tsz_39 : tsz Try.prog 39 = 5 := by kernel_rfl
@[go_sem] theorem tagg_39 : tagg Try.prog 39 = true := by kernel_rfl
@[go_sem] theorem tzero_39 : tzero Try.prog 39 = some [.int .i64 0, .str [], .str [], .int .i64 0, .sl .nil []] := by kernel_rfl
@[go_sem] theorem tbdz_39 : aMakeFull.tbdz Try.prog 39 = some [.int .i64 0, .str [], .str [], .int .i64 0, .sl .nil []] := by kernel_rfl
@[go_sem] theorem tfld_39_0 : tfld Try.prog 39 0 = some (0, 3, true) := by kernel_rfl
@[go_sem] theorem tfld_39_1 : tfld Try.prog 39 1 = some (3, 1, false) := by kernel_rfl
@[go_sem] theorem tfld_39_2 : tfld Try.prog 39 2 = some (4, 1, false) := by kernel_rfl
@[go_sem] theorem tbd_39 : tbd Try.prog 39 = .str [(0, 3), (3, 1), (4, 1)] [.int .i64 0, .str [], .str [], .int .i64 0, .sl .nil []] := by kernel_rfl
@[go_sem] theorem tkn_40 : tkn Try.prog 40 = true := by kernel_rfl
@[go_sem] theorem tsz_40 : tsz Try.prog 40 = 1 := by kernel_rfl
@[go_sem] theorem tagg_40 : tagg Try.prog 40 = false := by kernel_rfl
@[go_sem] theorem tzero_40 : tzero Try.prog 40 = some [.int .i64 0] := by kernel_rfl
@[go_sem] theorem tbdz_40 : aMakeFull.tbdz Try.prog 40 = some [.int .i64 0] := by kernel_rfl
@[go_sem] theorem tkn_45 : tkn Try.prog 45 = true := by kernel_rfl
@[go_sem] theorem tsz_45 : tsz Try.prog 45 = 1 := by kernel_rfl
@[go_sem] theorem tagg_45 : tagg Try.prog 45 = false := by kernel_rfl
@[go_sem] theorem tzero_45 : tzero Try.prog 45 = some [.sl .nil []] := by kernel_rfl
@[go_sem] theorem tbdz_45 : aMakeFull.tbdz Try.prog 45 = some [.sl .nil []] := by kernel_rfl
@[go_sem] theorem tix_45 : tix Try.prog 45 = .slc 13 true := by kernel_rfl
@[go_sem] theorem tlen_45 : tlen Try.prog 45 = .slc := by kernel_rfl
@[go_sem] theorem teqk_45 : teqk Try.prog 45 = .slc := by kernel_rfl
@[go_sem] theorem telem_45 : telem Try.prog 45 = some ⟨47, 13, 192⟩ := by kernel_rfl
@[go_sem] theorem tkn_46 : tkn Try.prog 46 = true := by kernel_rfl
@[go_sem] theorem tsz_46 : tsz Try.prog 46 = 13 := by kernel_rfl
@[go_sem] theorem tagg_46 : tagg Try.prog 46 = true := by kernel_rfl
@[go_sem] theorem tzero_46 : tzero Try.prog 46 = some [.int .i64 0, .str [], .int .i64 0, .str [], .str [], .int .i64 0, .sl .nil [], .int .i64 0, .str [], .str [], .int .i64 0, .sl .nil [], .sl .nil []] := by kernel_rfl
@[go_sem] theorem tbdz_46 : aMakeFull.tbdz Try.prog 46 = some [.int .i64 0, .str [], .int .i64 0, .str [], .str [], .int .i64 0, .sl .nil [], .int .i64 0, .str [], .str [], .int .i64 0, .sl .nil [], .sl .nil []] := by kernel_rfl
@[go_sem] theorem tfld_46_0 : tfld Try.prog 46 0 = some (0, 1, false) := by kernel_rfl
@[go_sem] theorem tfld_46_1 : tfld Try.prog 46 1 = some (1, 1, false) := by kernel_rfl
@[go_sem] theorem tfld_46_2 : tfld Try.prog 46 2 = some (2, 5, true) := by kernel_rfl
@[go_sem] theorem tfld_46_3 : tfld Try.prog 46 3 = some (7, 5, true) := by kernel_rfl
@[go_sem] theorem tfld_46_4 : tfld Try.prog 46 4 = some (12, 1, false) := by kernel_rfl
@[go_sem] theorem tbd_46 : tbd Try.prog 46 = .str [(0, 1), (1, 1), (2, 5), (7, 5), (12, 1)] [.int .i64 0, .str [], .int .i64 0, .str [], .str [], .int .i64 0, .sl .nil [], .int .i64 0, .str [], .str [], .int .i64 0, .sl .nil [], .sl .nil []] := by kernel_rfl
@[go_sem] theorem tkn_47 : tkn Try.prog 47 = true := by kernel_rfl
@[go_sem] theorem tsz_47 : tsz Try.prog 47 = 13 := by kernel_rfl
@[go_sem] theorem tagg_47 : tagg Try.prog 47 = true := by kernel_rfl
@[go_sem] theorem tzero_47 : tzero Try.prog 47 = some [.int .i64 0, .str [], .int .i64 0, .str [], .str [], .int .i64 0, .sl .nil [], .int .i64 0, .str [], .str [], .int .i64 0, .sl .nil [], .sl .nil []] := by kernel_rfl
@[go_sem] theorem tbdz_47 : aMakeFull.tbdz Try.prog 47 = some [.int .i64 0, .str [], .int .i64 0, .str [], .str [], .int .i64 0, .sl .nil [], .int .i64 0, .str [], .str [], .int .i64 0, .sl .nil [], .sl .nil []] := by kernel_rfl
@[go_sem] theorem tfld_47_0 : tfld Try.prog 47 0 = some (0, 1, false) := by kernel_rfl
@[go_sem] theorem tfld_47_1 : tfld Try.prog 47 1 = some (1, 1, false) := by kernel_rfl
@[go_sem] theorem tfld_47_2 : tfld Try.prog 47 2 = some (2, 5, true) := by kernel_rfl
@[go_sem] theorem tfld_47_3 : tfld Try.prog 47 3 = some (7, 5, true) := by kernel_rfl
@[go_sem] theorem tfld_47_4 : tfld Try.prog 47 4 = some (12, 1, false) := by kernel_rfl
@[go_sem] theorem tbd_47 : tbd Try.prog 47 = .str [(0, 1), (1, 1), (2, 5), (7, 5), (12, 1)] [.int .i64 0, .str [], .int .i64 0, .str [], .str [], .int .i64 0, .sl .nil [], .int .i64 0, .str [], .str [], .int .i64 0, .sl .nil [], .sl .nil []] := by kernel_rfl
@[go_sem] theorem tkn_56 : tkn Try.prog 56 = true := by kernel_rfl
@[go_sem] theorem tsz_56 : tsz Try.prog 56 = 2 := by kernel_rfl
@[go_sem] theorem tagg_56 : tagg Try.prog 56 = true := by kernel_rfl
@[go_sem] theorem tzero_56 : tzero Try.prog 56 = some [.str [], .sl .nil []] := by kernel_rfl
@[go_sem] theorem tbdz_56 : aMakeFull.tbdz Try.prog 56 = some [.str [], .sl .nil []] := by kernel_rfl
@[go_sem] theorem tfld_56_0 : tfld Try.prog 56 0 = some (0, 1, false) := by kernel_rfl
@[go_sem] theorem tfld_56_1 : tfld Try.prog 56 1 = some (1, 1, false) := by kernel_rfl
@[go_sem] theorem tbd_56 : tbd Try.prog 56 = .str [(0, 1), (1, 1)] [.str [], .sl .nil []] := by kernel_rfl
@[go_sem] theorem tkn_57 : tkn Try.prog 57 = true := by kernel_rfl
@[go_sem] theorem tsz_57 : tsz Try.prog 57 = 2 := by kernel_rfl
@[go_sem] theorem tagg_57 : tagg Try.prog 57 = true := by kernel_rfl
@[go_sem] theorem tzero_57 : tzero Try.prog 57 = some [.str [], .sl .nil []] := by kernel_rfl
@[go_sem] theorem tbdz_57 : aMakeFull.tbdz Try.prog 57 = some [.str [], .sl .nil []] := by kernel_rfl
@[go_sem] theorem tfld_57_0 : tfld Try.prog 57 0 = some (0, 1, false) := by kernel_rfl
@[go_sem] theorem tfld_57_1 : tfld Try.prog 57 1 = some (1, 1, false) := by kernel_rfl
@[go_sem] theorem tbd_57 : tbd Try.prog 57 = .str [(0, 1), (1, 1)] [.str [], .sl .nil []] := by kernel_rfl
@[go_sem] theorem tkn_68 : tkn Try.prog 68 = true := by kernel_rfl
@[go_sem] theorem tsz_68 : tsz Try.prog 68 = 7 := by kernel_rfl
@[go_sem] theorem tagg_68 : tagg Try.prog 68 = true := by kernel_rfl
@[go_sem] theorem tzero_68 : tzero Try.prog 68 = some [.int .i64 0, .str [], .str [], .int .i64 0, .str [], .sl .nil [], .int .i64 0] := by kernel_rfl
@[go_sem] theorem tbdz_68 : aMakeFull.tbdz Try.prog 68 = some [.int .i64 0, .str [], .str [], .int .i64 0, .str [], .sl .nil [], .int .i64 0] := by kernel_rfl
@[go_sem] theorem tfld_68_0 : tfld Try.prog 68 0 = some (0, 3, true) := by kernel_rfl
@[go_sem] theorem tfld_68_1 : tfld Try.prog 68 1 = some (3, 1, false) := by kernel_rfl
@[go_sem] theorem tfld_68_2 : tfld Try.prog 68 2 = some (4, 1, false) := by kernel_rfl
@[go_sem] theorem tfld_68_3 : tfld Try.prog 68 3 = some (5, 1, false) := by kernel_rfl
@[go_sem] theorem tfld_68_4 : tfld Try.prog 68 4 = some (6, 1, false) := by kernel_rfl
@[go_sem] theorem tbd_68 : tbd Try.prog 68 = .str [(0, 3), (3, 1), (4, 1), (5, 1), (6, 1)] [.int .i64 0, .str [], .str [], .int .i64 0, .str [], .sl .nil [], .int .i64 0] := by kernel_rfl
@[go_sem] theorem tkn_69 : tkn Try.prog 69 = true := by kernel_rfl
@[go_sem] theorem tsz_69 : tsz Try.prog 69 = 7 := by kernel_rfl
@[go_sem] theorem tagg_69 : tagg Try.prog 69 = true := by kernel_rfl
@[go_sem] theorem tzero_69 : tzero Try.prog 69 = some [.int .i64 0, .str [], .str [], .int .i64 0, .str [], .sl .nil [], .int .i64 0] := by kernel_rfl
@[go_sem] theorem tbdz_69 : aMakeFull.tbdz Try.prog 69 = some [.int .i64 0, .str [], .str [], .int .i64 0, .str [], .sl .nil [], .int .i64 0] := by kernel_rfl
@[go_sem] theorem tfld_69_0 : tfld Try.prog 69 0 = some (0, 3, true) := by kernel_rfl
@[go_sem] theorem tfld_69_1 : tfld Try.prog 69 1 = some (3, 1, false) := by kernel_rfl
@[go_sem] theorem tfld_69_2 : tfld Try.prog 69 2 = some (4, 1, false) := by kernel_rfl
@[go_sem] theorem tfld_69_3 : tfld Try.prog 69 3 = some (5, 1, false) := by kernel_rfl
@[go_sem] theorem tfld_69_4 : tfld Try.prog 69 4 = some (6, 1, false) := by kernel_rfl
@[go_sem] theorem tbd_69 : tbd Try.prog 69 = .str [(0, 3), (3, 1), (4, 1), (5, 1), (6, 1)] [.int .i64 0, .str [], .str [], .int .i64 0, .str [], .sl .nil [], .int .i64 0] := by kernel_rfl
@[go_sem] theorem tkn_102 : tkn Try.prog 102 = true := by kernel_rfl
@[go_sem] theorem tsz_102 : tsz Try.prog 102 = 1 := by kernel_rfl
@[go_sem] theorem tagg_102 : tagg Try.prog 102 = false := by kernel_rfl
@[go_sem] theorem tzero_102 : tzero Try.prog 102 = some [.nilp] := by kernel_rfl
@[go_sem] theorem tbdz_102 : aMakeFull.tbdz Try.prog 102 = some [.nilp] := by kernel_rfl
@[go_sem] theorem teqk_102 : teqk Try.prog 102 = .ptr := by kernel_rfl
@[go_sem] theorem tkn_128 : tkn Try.prog 128 = true := by kernel_rfl
@[go_sem] theorem tsz_128 : tsz Try.prog 128 = 20 := by kernel_rfl
@[go_sem] theorem tagg_128 : tagg Try.prog 128 = true := by kernel_rfl
@[go_sem] theorem tzero_128 : tzero Try.prog 128 = some [.int .u8 0, .int .u8 0, .int .u8 0, .int .u8 0, .int .u8 0, .int .u8 0, .int .u8 0, .int .u8 0, .int .u8 0, .int .u8 0, .int .u8 0, .int .u8 0, .int .u8 0, .int .u8 0, .int .u8 0, .int .u8 0, .int .u8 0, .int .u8 0, .int .u8 0, .int .u8 0] := by kernel_rfl
@[go_sem] theorem tbdz_128 : aMakeFull.tbdz Try.prog 128 = some [.int .u8 0, .int .u8 0, .int .u8 0, .int .u8 0, .int .u8 0, .int .u8 0, .int .u8 0, .int .u8 0, .int .u8 0, .int .u8 0, .int .u8 0, .int .u8 0, .int .u8 0, .int .u8 0, .int .u8 0, .int .u8 0, .int .u8 0, .int .u8 0, .int .u8 0, .int .u8 0] := by kernel_rfl
@[go_sem] theorem tix_128 : tix Try.prog 128 = .arr 20 1 false := by kernel_rfl
@[go_sem] theorem tlen_128 : tlen Try.prog 128 = .arr 20 := by kernel_rfl
@[go_sem] theorem tbd_128 : tbd Try.prog 128 = .arr 1 [.int .u8 0, .int .u8 0, .int .u8 0, .int .u8 0, .int .u8 0, .int .u8 0, .int .u8 0, .int .u8 0, .int .u8 0, .int .u8 0, .int .u8 0, .int .u8 0, .int .u8 0, .int .u8 0, .int .u8 0, .int .u8 0, .int .u8 0, .int .u8 0, .int .u8 0, .int .u8 0] := by kernel_rfl
@[go_sem] theorem tleaves_128 : tleaves Try.prog 128 = some [.int, .int, .int, .int, .int, .int, .int, .int, .int, .int, .int, .int, .int, .int, .int, .int, .int, .int, .int, .int] := by kernel_rfl
@[go_sem] theorem tkn_129 : tkn Try.prog 129 = true := by kernel_rfl
@[go_sem] theorem tsz_129 : tsz Try.prog 129 = 1 := by kernel_rfl
@[go_sem] theorem tagg_129 : tagg Try.prog 129 = false := by kernel_rfl
@[go_sem] theorem tzero_129 : tzero Try.prog 129 = some [.int .u64 0] := by kernel_rfl
@[go_sem] theorem tbdz_129 : aMakeFull.tbdz Try.prog 129 = some [.int .u64 0] := by kernel_rfl
@[go_sem] theorem tkn_130 : tkn Try.prog 130 = true := by kernel_rfl
@[go_sem] theorem tsz_130 : tsz Try.prog 130 = 1 := by kernel_rfl
@[go_sem] theorem tagg_130 : tagg Try.prog 130 = false := by kernel_rfl
@[go_sem] theorem tzero_130 : tzero Try.prog 130 = some [.sl .nil []] := by kernel_rfl
@[go_sem] theorem tbdz_130 : aMakeFull.tbdz Try.prog 130 = some [.sl .nil []] := by kernel_rfl
@[go_sem] theorem tix_130 : tix Try.prog 130 = .slc 1 false := by kernel_rfl
@[go_sem] theorem tlen_130 : tlen Try.prog 130 = .slc := by kernel_rfl
@[go_sem] theorem teqk_130 : teqk Try.prog 130 = .slc := by kernel_rfl
@[go_sem] theorem telem_130 : telem Try.prog 130 = some ⟨5, 1, 1⟩ := by kernel_rfl
@[go_sem] theorem tkn_132 : tkn Try.prog 132 = true := by kernel_rfl
@[go_sem] theorem tsz_132 : tsz Try.prog 132 = 1 := by kernel_rfl
@[go_sem] theorem tagg_132 : tagg Try.prog 132 = false := by kernel_rfl
@[go_sem] theorem tzero_132 : tzero Try.prog 132 = some [.int .u64 0] := by kernel_rfl
@[go_sem] theorem tbdz_132 : aMakeFull.tbdz Try.prog 132 = some [.int .u64 0] := by kernel_rfl
@[go_sem] theorem tkn_133 : tkn Try.prog 133 = true := by kernel_rfl
@[go_sem] theorem tsz_133 : tsz Try.prog 133 = 1 := by kernel_rfl
@[go_sem] theorem tagg_133 : tagg Try.prog 133 = false := by kernel_rfl
@[go_sem] theorem tzero_133 : tzero Try.prog 133 = some [.nilp] := by kernel_rfl
@[go_sem] theorem tbdz_133 : aMakeFull.tbdz Try.prog 133 = some [.nilp] := by kernel_rfl
@[go_sem] theorem teqk_133 : teqk Try.prog 133 = .ptr := by kernel_rfl
@[go_sem] theorem tkn_134 : tkn Try.prog 134 = true := by kernel_rfl
@[go_sem] theorem tsz_134 : tsz Try.prog 134 = 2 := by kernel_rfl
@[go_sem] theorem tagg_134 : tagg Try.prog 134 = true := by kernel_rfl
@[go_sem] theorem tzero_134 : tzero Try.prog 134 = some [.nilp, .sl .nil []] := by kernel_rfl
@[go_sem] theorem tbdz_134 : aMakeFull.tbdz Try.prog 134 = some [.nilp, .sl .nil []] := by kernel_rfl
@[go_sem] theorem tfld_134_0 : tfld Try.prog 134 0 = some (0, 1, false) := by kernel_rfl
@[go_sem] theorem tfld_134_1 : tfld Try.prog 134 1 = some (1, 1, false) := by kernel_rfl
@[go_sem] theorem tbd_134 : tbd Try.prog 134 = .str [(0, 1), (1, 1)] [.nilp, .sl .nil []] := by kernel_rfl
@[go_sem] theorem tkn_135 : tkn Try.prog 135 = true := by kernel_rfl
@[go_sem] theorem tsz_135 : tsz Try.prog 135 = 2 := by kernel_rfl
@[go_sem] theorem tagg_135 : tagg Try.prog 135 = true := by kernel_rfl
@[go_sem] theorem tzero_135 : tzero Try.prog 135 = some [.nilp, .sl .nil []] := by kernel_rfl
@[go_sem] theorem tbdz_135 : aMakeFull.tbdz Try.prog 135 = some [.nilp, .sl .nil []] := by kernel_rfl
@[go_sem] theorem tfld_135_0 : tfld Try.prog 135 0 = some (0, 1, false) := by kernel_rfl
@[go_sem] theorem tfld_135_1 : tfld Try.prog 135 1 = some (1, 1, false) := by kernel_rfl
@[go_sem] theorem tbd_135 : tbd Try.prog 135 = .str [(0, 1), (1, 1)] [.nilp, .sl .nil []] := by kernel_rfl
@[go_sem] theorem tkn_144 : tkn Try.prog 144 = true := by kernel_rfl
@[go_sem] theorem tsz_144 : tsz Try.prog 144 = 1 := by kernel_rfl
@[go_sem] theorem tagg_144 : tagg Try.prog 144 = false := by kernel_rfl
@[go_sem] theorem tzero_144 : tzero Try.prog 144 = some [.nilp] := by kernel_rfl
@[go_sem] theorem tbdz_144 : aMakeFull.tbdz Try.prog 144 = some [.nilp] := by kernel_rfl
@[go_sem] theorem teqk_144 : teqk Try.prog 144 = .ptr := by kernel_rfl
@[go_sem] theorem tkn_152 : tkn Try.prog 152 = true := by kernel_rfl
@[go_sem] theorem tsz_152 : tsz Try.prog 152 = 0 := by kernel_rfl
@[go_sem] theorem tagg_152 : tagg Try.prog 152 = true := by kernel_rfl
@[go_sem] theorem tzero_152 : tzero Try.prog 152 = some [] := by kernel_rfl
@[go_sem] theorem tbdz_152 : aMakeFull.tbdz Try.prog 152 = some [] := by kernel_rfl
@[go_sem] theorem tix_152 : tix Try.prog 152 = .arr 0 1 false := by kernel_rfl
@[go_sem] theorem tlen_152 : tlen Try.prog 152 = .arr 0 := by kernel_rfl
@[go_sem] theorem tbd_152 : tbd Try.prog 152 = .arr 1 [] := by kernel_rfl
@[go_sem] theorem tkn_156 : tkn Try.prog 156 = true := by kernel_rfl
@[go_sem] theorem tsz_156 : tsz Try.prog 156 = 1 := by kernel_rfl
@[go_sem] theorem tagg_156 : tagg Try.prog 156 = false := by kernel_rfl
@[go_sem] theorem tzero_156 : tzero Try.prog 156 = some [.int .u32 0] := by kernel_rfl
@[go_sem] theorem tbdz_156 : aMakeFull.tbdz Try.prog 156 = some [.int .u32 0] := by kernel_rfl
@[go_sem] theorem tcv_2_2 : tcv Try.prog 2 2 = .int .i64 := by kernel_rfl
@[go_sem] theorem tcv_2_3 : tcv Try.prog 2 3 = .int .i64 := by kernel_rfl
@[go_sem] theorem tcv_2_40 : tcv Try.prog 2 40 = .int .i64 := by kernel_rfl
@[go_sem] theorem tcv_2_5 : tcv Try.prog 2 5 = .int .u8 := by kernel_rfl
@[go_sem] theorem tcv_2_12 : tcv Try.prog 2 12 = .int .u64 := by kernel_rfl
@[go_sem] theorem tcv_2_129 : tcv Try.prog 2 129 = .int .u64 := by kernel_rfl
@[go_sem] theorem tcv_2_132 : tcv Try.prog 2 132 = .int .u64 := by kernel_rfl
@[go_sem] theorem tcv_2_21 : tcv Try.prog 2 21 = .int .i32 := by kernel_rfl
@[go_sem] theorem tcv_2_156 : tcv Try.prog 2 156 = .int .u32 := by kernel_rfl
@[go_sem] theorem tcv_3_2 : tcv Try.prog 3 2 = .int .i64 := by kernel_rfl
@[go_sem] theorem tcv_3_3 : tcv Try.prog 3 3 = .int .i64 := by kernel_rfl
@[go_sem] theorem tcv_3_40 : tcv Try.prog 3 40 = .int .i64 := by kernel_rfl
@[go_sem] theorem tcv_3_5 : tcv Try.prog 3 5 = .int .u8 := by kernel_rfl
@[go_sem] theorem tcv_3_12 : tcv Try.prog 3 12 = .int .u64 := by kernel_rfl
@[go_sem] theorem tcv_3_129 : tcv Try.prog 3 129 = .int .u64 := by kernel_rfl
@[go_sem] theorem tcv_3_132 : tcv Try.prog 3 132 = .int .u64 := by kernel_rfl
@[go_sem] theorem tcv_3_21 : tcv Try.prog 3 21 = .int .i32 := by kernel_rfl
@[go_sem] theorem tcv_3_156 : tcv Try.prog 3 156 = .int .u32 := by kernel_rfl
@[go_sem] theorem tcv_40_2 : tcv Try.prog 40 2 = .int .i64 := by kernel_rfl
@[go_sem] theorem tcv_40_3 : tcv Try.prog 40 3 = .int .i64 := by kernel_rfl
@[go_sem] theorem tcv_40_40 : tcv Try.prog 40 40 = .int .i64 := by kernel_rfl
@[go_sem] theorem tcv_40_5 : tcv Try.prog 40 5 = .int .u8 := by kernel_rfl
@[go_sem] theorem tcv_40_12 : tcv Try.prog 40 12 = .int .u64 := by kernel_rfl
@[go_sem] theorem tcv_40_129 : tcv Try.prog 40 129 = .int .u64 := by kernel_rfl
@[go_sem] theorem tcv_40_132 : tcv Try.prog 40 132 = .int .u64 := by kernel_rfl
@[go_sem] theorem tcv_40_21 : tcv Try.prog 40 21 = .int .i32 := by kernel_rfl
@[go_sem] theorem tcv_40_156 : tcv Try.prog 40 156 = .int .u32 := by kernel_rfl
@[go_sem] theorem tcv_5_2 : tcv Try.prog 5 2 = .int .i64 := by kernel_rfl
@[go_sem] theorem tcv_5_3 : tcv Try.prog 5 3 = .int .i64 := by kernel_rfl
@[go_sem] theorem tcv_5_40 : tcv Try.prog 5 40 = .int .i64 := by kernel_rfl
@[go_sem] theorem tcv_5_5 : tcv Try.prog 5 5 = .int .u8 := by kernel_rfl
@[go_sem] theorem tcv_5_12 : tcv Try.prog 5 12 = .int .u64 := by kernel_rfl
@[go_sem] theorem tcv_5_129 : tcv Try.prog 5 129 = .int .u64 := by kernel_rfl
@[go_sem] theorem tcv_5_132 : tcv Try.prog 5 132 = .int .u64 := by kernel_rfl
@[go_sem] theorem tcv_5_21 : tcv Try.prog 5 21 = .int .i32 := by kernel_rfl
@[go_sem] theorem tcv_5_156 : tcv Try.prog 5 156 = .int .u32 := by kernel_rfl
@[go_sem] theorem tcv_12_2 : tcv Try.prog 12 2 = .int .i64 := by kernel_rfl
@[go_sem] theorem tcv_12_3 : tcv Try.prog 12 3 = .int .i64 := by kernel_rfl
@[go_sem] theorem tcv_12_40 : tcv Try.prog 12 40 = .int .i64 := by kernel_rfl
@[go_sem] theorem tcv_12_5 : tcv Try.prog 12 5 = .int .u8 := by kernel_rfl
@[go_sem] theorem tcv_12_12 : tcv Try.prog 12 12 = .int .u64 := by kernel_rfl
@[go_sem] theorem tcv_12_129 : tcv Try.prog 12 129 = .int .u64 := by kernel_rfl
@[go_sem] theorem tcv_12_132 : tcv Try.prog 12 132 = .int .u64 := by kernel_rfl
@[go_sem] theorem tcv_12_21 : tcv Try.prog 12 21 = .int .i32 := by kernel_rfl
@[go_sem] theorem tcv_12_156 : tcv Try.prog 12 156 = .int .u32 := by kernel_rfl
@[go_sem] theorem tcv_129_2 : tcv Try.prog 129 2 = .int .i64 := by kernel_rfl
@[go_sem] theorem tcv_129_3 : tcv Try.prog 129 3 = .int .i64 := by kernel_rfl
@[go_sem] theorem tcv_129_40 : tcv Try.prog 129 40 = .int .i64 := by kernel_rfl
@[go_sem] theorem tcv_129_5 : tcv Try.prog 129 5 = .int .u8 := by kernel_rfl
@[go_sem] theorem tcv_129_12 : tcv Try.prog 129 12 = .int .u64 := by kernel_rfl
@[go_sem] theorem tcv_129_129 : tcv Try.prog 129 129 = .int .u64 := by kernel_rfl
@[go_sem] theorem tcv_129_132 : tcv Try.prog 129 132 = .int .u64 := by kernel_rfl
@[go_sem] theorem tcv_129_21 : tcv Try.prog 129 21 = .int .i32 := by kernel_rfl
@[go_sem] theorem tcv_129_156 : tcv Try.prog 129 156 = .int .u32 := by kernel_rfl
@[go_sem] theorem tcv_132_2 : tcv Try.prog 132 2 = .int .i64 := by kernel_rfl
@[go_sem] theorem tcv_132_3 : tcv Try.prog 132 3 = .int .i64 := by kernel_rfl
@[go_sem] theorem tcv_132_40 : tcv Try.prog 132 40 = .int .i64 := by kernel_rfl
@[go_sem] theorem tcv_132_5 : tcv Try.prog 132 5 = .int .u8 := by kernel_rfl
@[go_sem] theorem tcv_132_12 : tcv Try.prog 132 12 = .int .u64 := by kernel_rfl
@[go_sem] theorem tcv_132_129 : tcv Try.prog 132 129 = .int .u64 := by kernel_rfl
@[go_sem] theorem tcv_132_132 : tcv Try.prog 132 132 = .int .u64 := by kernel_rfl
@[go_sem] theorem tcv_132_21 : tcv Try.prog 132 21 = .int .i32 := by kernel_rfl
@[go_sem] theorem tcv_132_156 : tcv Try.prog 132 156 = .int .u32 := by kernel_rfl
@[go_sem] theorem tcv_21_2 : tcv Try.prog 21 2 = .int .i64 := by kernel_rfl
@[go_sem] theorem tcv_21_3 : tcv Try.prog 21 3 = .int .i64 := by kernel_rfl
@[go_sem] theorem tcv_21_40 : tcv Try.prog 21 40 = .int .i64 := by kernel_rfl
@[go_sem] theorem tcv_21_5 : tcv Try.prog 21 5 = .int .u8 := by kernel_rfl
@[go_sem] theorem tcv_21_12 : tcv Try.prog 21 12 = .int .u64 := by kernel_rfl
@[go_sem] theorem tcv_21_129 : tcv Try.prog 21 129 = .int .u64 := by kernel_rfl
@[go_sem] theorem tcv_21_132 : tcv Try.prog 21 132 = .int .u64 := by kernel_rfl
@[go_sem] theorem tcv_21_21 : tcv Try.prog 21 21 = .int .i32 := by kernel_rfl
@[go_sem] theorem tcv_21_156 : tcv Try.prog 21 156 = .int .u32 := by kernel_rfl
@[go_sem] theorem tcv_156_2 : tcv Try.prog 156 2 = .int .i64 := by kernel_rfl
@[go_sem] theorem tcv_156_3 : tcv Try.prog 156 3 = .int .i64 := by kernel_rfl
@[go_sem] theorem tcv_156_40 : tcv Try.prog 156 40 = .int .i64 := by kernel_rfl
@[go_sem] theorem tcv_156_5 : tcv Try.prog 156 5 = .int .u8 := by kernel_rfl
@[go_sem] theorem tcv_156_12 : tcv Try.prog 156 12 = .int .u64 := by kernel_rfl
@[go_sem] theorem tcv_156_129 : tcv Try.prog 156 129 = .int .u64 := by kernel_rfl
@[go_sem] theorem tcv_156_132 : tcv Try.prog 156 132 = .int .u64 := by kernel_rfl
@[go_sem] theorem tcv_156_21 : tcv Try.prog 156 21 = .int .i32 := by kernel_rfl
@[go_sem] theorem tcv_156_156 : tcv Try.prog 156 156 = .int .u32 := by kernel_rfl
@[go_sem] theorem tcv_130_9 : tcv Try.prog 130 9 = .bytes := by kernel_rfl
@[go_sem] theorem tcv_9_9 : tcv Try.prog 9 9 = .same := by kernel_rfl
@[go_sem] theorem tcv_130_10 : tcv Try.prog 130 10 = .bytes := by kernel_rfl
@[go_sem] theorem tcv_130_11 : tcv Try.prog 130 11 = .bytes := by kernel_rfl
end Go.Proofs.Ytcinpbgpbehndaa
