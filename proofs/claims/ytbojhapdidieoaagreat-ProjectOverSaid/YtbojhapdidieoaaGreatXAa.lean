/- Contracts of functions and laws of this seat, each for every input that it names: lemmas of the proof. -/
import Derived.Test.YtbojhapdidieoaaGreatProg
import Derived.Test.YtbojhapdidieoaaGreatPlF
import Derived.KernelRfl
set_option linter.unusedSimpArgs false
set_option linter.unusedVariables false

namespace Go.Proofs.YtbojhapdidieoaaGreat
open Go.PL
@[go_sem] theorem tkn_2 : tkn Tryz.prog 2 = true := by kernel_rfl
@[go_sem] theorem tsz_2 : tsz Tryz.prog 2 = 1 := by kernel_rfl
@[go_sem] theorem tagg_2 : tagg Tryz.prog 2 = false := by kernel_rfl
@[go_sem] theorem tzero_2 : tzero Tryz.prog 2 = some [.int .i64 0] := by kernel_rfl
@[go_sem] theorem tbdz_2 : aMakeFull.tbdz Tryz.prog 2 = some [.int .i64 0] := by kernel_rfl
@[go_sem] theorem tkn_3 : tkn Tryz.prog 3 = true := by kernel_rfl
@[go_sem] theorem tsz_3 : tsz Tryz.prog 3 = 1 := by kernel_rfl
@[go_sem] theorem tagg_3 : tagg Tryz.prog 3 = false := by kernel_rfl
@[go_sem] theorem tzero_3 : tzero Tryz.prog 3 = some [.int .i64 0] := by kernel_rfl
@[go_sem] theorem tbdz_3 : aMakeFull.tbdz Tryz.prog 3 = some [.int .i64 0] := by kernel_rfl
@[go_sem] theorem tkn_4 : tkn Tryz.prog 4 = true := by kernel_rfl
@[go_sem] theorem tsz_4 : tsz Tryz.prog 4 = 1 := by kernel_rfl
@[go_sem] theorem tagg_4 : tagg Tryz.prog 4 = false := by kernel_rfl
@[go_sem] theorem tzero_4 : tzero Tryz.prog 4 = some [.bool false] := by kernel_rfl
@[go_sem] theorem tbdz_4 : aMakeFull.tbdz Tryz.prog 4 = some [.bool false] := by kernel_rfl
@[go_sem] theorem teqk_4 : teqk Tryz.prog 4 = .bool := by kernel_rfl
@[go_sem] theorem tkn_5 : tkn Tryz.prog 5 = true := by kernel_rfl
@[go_sem] theorem tsz_5 : tsz Tryz.prog 5 = 1 := by kernel_rfl
@[go_sem] theorem tagg_5 : tagg Tryz.prog 5 = false := by kernel_rfl
@[go_sem] theorem tzero_5 : tzero Tryz.prog 5 = some [.int .u8 0] := by kernel_rfl
@[go_sem] theorem tbdz_5 : aMakeFull.tbdz Tryz.prog 5 = some [.int .u8 0] := by kernel_rfl
@[go_sem] theorem tkn_9 : tkn Tryz.prog 9 = true := by kernel_rfl
@[go_sem] theorem tsz_9 : tsz Tryz.prog 9 = 1 := by kernel_rfl
@[go_sem] theorem tagg_9 : tagg Tryz.prog 9 = false := by kernel_rfl
@[go_sem] theorem tzero_9 : tzero Tryz.prog 9 = some [.str []] := by kernel_rfl
@[go_sem] theorem tbdz_9 : aMakeFull.tbdz Tryz.prog 9 = some [.str []] := by kernel_rfl
@[go_sem] theorem tix_9 : tix Tryz.prog 9 = .str := by kernel_rfl
@[go_sem] theorem tlen_9 : tlen Tryz.prog 9 = .str := by kernel_rfl
@[go_sem] theorem tkn_12 : tkn Tryz.prog 12 = true := by kernel_rfl
@[go_sem] theorem tsz_12 : tsz Tryz.prog 12 = 1 := by kernel_rfl
@[go_sem] theorem tagg_12 : tagg Tryz.prog 12 = false := by kernel_rfl
@[go_sem] theorem tzero_12 : tzero Tryz.prog 12 = some [.int .u64 0] := by kernel_rfl
@[go_sem] theorem tbdz_12 : aMakeFull.tbdz Tryz.prog 12 = some [.int .u64 0] := by kernel_rfl
@[go_sem] theorem tkn_21 : tkn Tryz.prog 21 = true := by kernel_rfl
@[go_sem] theorem tsz_21 : tsz Tryz.prog 21 = 1 := by kernel_rfl
@[go_sem] theorem tagg_21 : tagg Tryz.prog 21 = false := by kernel_rfl
@[go_sem] theorem tzero_21 : tzero Tryz.prog 21 = some [.int .i32 0] := by kernel_rfl
@[go_sem] theorem tbdz_21 : aMakeFull.tbdz Tryz.prog 21 = some [.int .i32 0] := by kernel_rfl
@[go_sem] theorem tkn_22 : tkn Tryz.prog 22 = true := by kernel_rfl
@[go_sem] theorem tsz_22 : tsz Tryz.prog 22 = 1 := by kernel_rfl
@[go_sem] theorem tagg_22 : tagg Tryz.prog 22 = false := by kernel_rfl
@[go_sem] theorem tzero_22 : tzero Tryz.prog 22 = some [.sl .nil []] := by kernel_rfl
@[go_sem] theorem tbdz_22 : aMakeFull.tbdz Tryz.prog 22 = some [.sl .nil []] := by kernel_rfl
@[go_sem] theorem tix_22 : tix Tryz.prog 22 = .slc 20 true := by kernel_rfl
@[go_sem] theorem tlen_22 : tlen Tryz.prog 22 = .slc := by kernel_rfl
@[go_sem] theorem teqk_22 : teqk Tryz.prog 22 = .slc := by kernel_rfl
@[go_sem] theorem telem_22 : telem Tryz.prog 22 = some ⟨91, 20, 264⟩ := by kernel_rfl
@[go_sem] theorem tkn_23 : tkn Tryz.prog 23 = true := by kernel_rfl
@[go_sem] theorem tsz_23 : tsz Tryz.prog 23 = 2 := by kernel_rfl
@[go_sem] theorem tagg_23 : tagg Tryz.prog 23 = true := by kernel_rfl
@[go_sem] theorem tzero_23 : tzero Tryz.prog 23 = some [.int .i64 0, .int .i64 0] := by kernel_rfl
@[go_sem] theorem tbdz_23 : aMakeFull.tbdz Tryz.prog 23 = some [.int .i64 0, .int .i64 0] := by kernel_rfl
@[go_sem] theorem tfld_23_0 : tfld Tryz.prog 23 0 = some (0, 1, false) := by kernel_rfl
@[go_sem] theorem tfld_23_1 : tfld Tryz.prog 23 1 = some (1, 1, false) := by kernel_rfl
@[go_sem] theorem tbd_23 : tbd Tryz.prog 23 = .str [(0, 1), (1, 1)] [.int .i64 0, .int .i64 0] := by kernel_rfl
@[go_sem] theorem tleaves_23 : tleaves Tryz.prog 23 = some [.int, .int] := by kernel_rfl
@[go_sem] theorem tkn_24 : tkn Tryz.prog 24 = true := by kernel_rfl
@[go_sem] theorem tsz_24 : tsz Tryz.prog 24 = 2 := by kernel_rfl
@[go_sem] theorem tagg_24 : tagg Tryz.prog 24 = true := by kernel_rfl
@[go_sem] theorem tzero_24 : tzero Tryz.prog 24 = some [.int .i64 0, .int .i64 0] := by kernel_rfl
@[go_sem] theorem tbdz_24 : aMakeFull.tbdz Tryz.prog 24 = some [.int .i64 0, .int .i64 0] := by kernel_rfl
@[go_sem] theorem tfld_24_0 : tfld Tryz.prog 24 0 = some (0, 1, false) := by kernel_rfl
@[go_sem] theorem tfld_24_1 : tfld Tryz.prog 24 1 = some (1, 1, false) := by kernel_rfl
@[go_sem] theorem tbd_24 : tbd Tryz.prog 24 = .str [(0, 1), (1, 1)] [.int .i64 0, .int .i64 0] := by kernel_rfl
@[go_sem] theorem tleaves_24 : tleaves Tryz.prog 24 = some [.int, .int] := by kernel_rfl
@[go_sem] theorem tkn_27 : tkn Tryz.prog 27 = true := by kernel_rfl
@[go_sem] theorem tsz_27 : tsz Tryz.prog 27 = 1 := by kernel_rfl
@[go_sem] theorem tagg_27 : tagg Tryz.prog 27 = false := by kernel_rfl
@[go_sem] theorem tzero_27 : tzero Tryz.prog 27 = some [.nilp] := by kernel_rfl
@[go_sem] theorem tbdz_27 : aMakeFull.tbdz Tryz.prog 27 = some [.nilp] := by kernel_rfl
@[go_sem] theorem teqk_27 : teqk Tryz.prog 27 = .ptr := by kernel_rfl
@[go_sem] theorem tkn_30 : tkn Tryz.prog 30 = true := by kernel_rfl
@[go_sem] theorem tsz_30 : tsz Tryz.prog 30 = 1 := by kernel_rfl
@[go_sem] theorem tagg_30 : tagg Tryz.prog 30 = false := by kernel_rfl
@[go_sem] theorem tzero_30 : tzero Tryz.prog 30 = some [.sl .nil []] := by kernel_rfl
@[go_sem] theorem tbdz_30 : aMakeFull.tbdz Tryz.prog 30 = some [.sl .nil []] := by kernel_rfl
@[go_sem] theorem tix_30 : tix Tryz.prog 30 = .slc 2 true := by kernel_rfl
@[go_sem] theorem tlen_30 : tlen Tryz.prog 30 = .slc := by kernel_rfl
@[go_sem] theorem teqk_30 : teqk Tryz.prog 30 = .slc := by kernel_rfl
@[go_sem] theorem telem_30 : telem Tryz.prog 30 = some ⟨24, 2, 16⟩ := by kernel_rfl
@[go_sem] theorem tkn_31 : tkn Tryz.prog 31 = true := by kernel_rfl
@[go_sem] theorem tsz_31 : tsz Tryz.prog 31 = 1 := by kernel_rfl
@[go_sem] theorem tagg_31 : tagg Tryz.prog 31 = false := by kernel_rfl
@[go_sem] theorem tzero_31 : tzero Tryz.prog 31 = some [.int .i64 0] := by kernel_rfl
@[go_sem] theorem tbdz_31 : aMakeFull.tbdz Tryz.prog 31 = some [.int .i64 0] := by kernel_rfl
@[go_sem] theorem tkn_39 : tkn Tryz.prog 39 = true := by kernel_rfl
@[go_sem] theorem tsz_39 : tsz Tryz.prog 39 = 1 := by kernel_rfl
@[go_sem] theorem tagg_39 : tagg Tryz.prog 39 = false := by kernel_rfl
@[go_sem] theorem tzero_39 : tzero Tryz.prog 39 = some [.sl .nil []] := by kernel_rfl
@[go_sem] theorem tbdz_39 : aMakeFull.tbdz Tryz.prog 39 = some [.sl .nil []] := by kernel_rfl
@[go_sem] theorem tix_39 : tix Tryz.prog 39 = .slc 3 true := by kernel_rfl
@[go_sem] theorem tlen_39 : tlen Tryz.prog 39 = .slc := by kernel_rfl
@[go_sem] theorem teqk_39 : teqk Tryz.prog 39 = .slc := by kernel_rfl
@[go_sem] theorem telem_39 : telem Tryz.prog 39 = some ⟨93, 3, 24⟩ := by kernel_rfl
@[go_sem] theorem tkn_45 : tkn Tryz.prog 45 = true := by kernel_rfl
@[go_sem] theorem tsz_45 : tsz Tryz.prog 45 = 1 := by kernel_rfl
@[go_sem] theorem tagg_45 : tagg Tryz.prog 45 = false := by kernel_rfl
@[go_sem] theorem tzero_45 : tzero Tryz.prog 45 = some [.sl .nil []] := by kernel_rfl
@[go_sem] theorem tbdz_45 : aMakeFull.tbdz Tryz.prog 45 = some [.sl .nil []] := by kernel_rfl
@[go_sem] theorem tix_45 : tix Tryz.prog 45 = .slc 16 true := by kernel_rfl
@[go_sem] theorem tlen_45 : tlen Tryz.prog 45 = .slc := by kernel_rfl
@[go_sem] theorem teqk_45 : teqk Tryz.prog 45 = .slc := by kernel_rfl
@[go_sem] theorem telem_45 : telem Tryz.prog 45 = some ⟨60, 16, 232⟩ := by kernel_rfl
@[go_sem] theorem tkn_52 : tkn Tryz.prog 52 = true := by kernel_rfl
@[go_sem] theorem tsz_52 : tsz Tryz.prog 52 = 1 := by kernel_rfl
@[go_sem] theorem tagg_52 : tagg Tryz.prog 52 = false := by kernel_rfl
@[go_sem] theorem tzero_52 : tzero Tryz.prog 52 = some [.sl .nil []] := by kernel_rfl
@[go_sem] theorem tbdz_52 : aMakeFull.tbdz Tryz.prog 52 = some [.sl .nil []] := by kernel_rfl
@[go_sem] theorem tix_52 : tix Tryz.prog 52 = .slc 7 true := by kernel_rfl
@[go_sem] theorem tlen_52 : tlen Tryz.prog 52 = .slc := by kernel_rfl
@[go_sem] theorem teqk_52 : teqk Tryz.prog 52 = .slc := by kernel_rfl
@[go_sem] theorem telem_52 : telem Tryz.prog 52 = some ⟨57, 7, 96⟩ := by kernel_rfl
@[go_sem] theorem tkn_53 : tkn Tryz.prog 53 = true := by kernel_rfl
@[go_sem] theorem tsz_53 : tsz Tryz.prog 53 = 3 := by kernel_rfl
@[go_sem] theorem tagg_53 : tagg Tryz.prog 53 = true := by kernel_rfl
@[go_sem] theorem tzero_53 : tzero Tryz.prog 53 = some [.int .i64 0, .str [], .str []] := by kernel_rfl
@[go_sem] theorem tbdz_53 : aMakeFull.tbdz Tryz.prog 53 = some [.int .i64 0, .str [], .str []] := by kernel_rfl
@[go_sem] theorem tfld_53_0 : tfld Tryz.prog 53 0 = some (0, 1, false) := by kernel_rfl
@[go_sem] theorem tfld_53_1 : tfld Tryz.prog 53 1 = some (1, 1, false) := by kernel_rfl
@[go_sem] theorem tfld_53_2 : tfld Tryz.prog 53 2 = some (2, 1, false) := by kernel_rfl
@[go_sem] theorem tbd_53 : tbd Tryz.prog 53 = .str [(0, 1), (1, 1), (2, 1)] [.int .i64 0, .str [], .str []] := by kernel_rfl
@[go_sem] theorem tleaves_53 : tleaves Tryz.prog 53 = some [.int, .str, .str] := by kernel_rfl
@[go_sem] theorem tkn_54 : tkn Tryz.prog 54 = true := by kernel_rfl
@[go_sem] theorem tsz_54 : tsz Tryz.prog 54 = 3 := by kernel_rfl
@[go_sem] theorem tagg_54 : tagg Tryz.prog 54 = true := by kernel_rfl
@[go_sem] theorem tzero_54 : tzero Tryz.prog 54 = some [.int .i64 0, .str [], .str []] := by kernel_rfl
@[go_sem] theorem tbdz_54 : aMakeFull.tbdz Tryz.prog 54 = some [.int .i64 0, .str [], .str []] := by kernel_rfl
@[go_sem] theorem tfld_54_0 : tfld Tryz.prog 54 0 = some (0, 1, false) := by kernel_rfl
@[go_sem] theorem tfld_54_1 : tfld Tryz.prog 54 1 = some (1, 1, false) := by kernel_rfl
@[go_sem] theorem tfld_54_2 : tfld Tryz.prog 54 2 = some (2, 1, false) := by kernel_rfl
@[go_sem] theorem tbd_54 : tbd Tryz.prog 54 = .str [(0, 1), (1, 1), (2, 1)] [.int .i64 0, .str [], .str []] := by kernel_rfl
@[go_sem] theorem tleaves_54 : tleaves Tryz.prog 54 = some [.int, .str, .str] := by kernel_rfl
@[go_sem] theorem tkn_55 : tkn Tryz.prog 55 = true := by kernel_rfl
@[go_sem] theorem tsz_55 : tsz Tryz.prog 55 = 1 := by kernel_rfl
@[go_sem] theorem tagg_55 : tagg Tryz.prog 55 = false := by kernel_rfl
@[go_sem] theorem tzero_55 : tzero Tryz.prog 55 = some [.sl .nil []] := by kernel_rfl
@[go_sem] theorem tbdz_55 : aMakeFull.tbdz Tryz.prog 55 = some [.sl .nil []] := by kernel_rfl
@[go_sem] theorem tix_55 : tix Tryz.prog 55 = .slc 1 false := by kernel_rfl
@[go_sem] theorem tlen_55 : tlen Tryz.prog 55 = .slc := by kernel_rfl
@[go_sem] theorem teqk_55 : teqk Tryz.prog 55 = .slc := by kernel_rfl
@[go_sem] theorem telem_55 : telem Tryz.prog 55 = some ⟨9, 1, 16⟩ := by kernel_rfl
@[go_sem] theorem tkn_56 : tkn Tryz.prog 56 = true := by kernel_rfl
@[go_sem] theorem tsz_56 : tsz Tryz.prog 56 = 7 := by kernel_rfl
@[go_sem] theorem tagg_56 : tagg Tryz.prog 56 = true := by kernel_rfl
@[go_sem] theorem tzero_56 : tzero Tryz.prog 56 = some [.int .i64 0, .str [], .str [], .int .i64 0, .str [], .sl .nil [], .int .i64 0] := by kernel_rfl
@[go_sem] theorem tbdz_56 : aMakeFull.tbdz Tryz.prog 56 = some [.int .i64 0, .str [], .str [], .int .i64 0, .str [], .sl .nil [], .int .i64 0] := by kernel_rfl
@[go_sem] theorem tfld_56_0 : tfld Tryz.prog 56 0 = some (0, 3, true) := by kernel_rfl
@[go_sem] theorem tfld_56_1 : tfld Tryz.prog 56 1 = some (3, 1, false) := by kernel_rfl
@[go_sem] theorem tfld_56_2 : tfld Tryz.prog 56 2 = some (4, 1, false) := by kernel_rfl
@[go_sem] theorem tfld_56_3 : tfld Tryz.prog 56 3 = some (5, 1, false) := by kernel_rfl
@[go_sem] theorem tfld_56_4 : tfld Tryz.prog 56 4 = some (6, 1, false) := by kernel_rfl
@[go_sem] theorem tbd_56 : tbd Tryz.prog 56 = .str [(0, 3), (3, 1), (4, 1), (5, 1), (6, 1)] [.int .i64 0, .str [], .str [], .int .i64 0, .str [], .sl .nil [], .int .i64 0] := by kernel_rfl
@[go_sem] theorem tkn_57 : tkn Tryz.prog 57 = true := by kernel_rfl
@[go_sem] theorem tsz_57 : tsz Tryz.prog 57 = 7 := by kernel_rfl
@[go_sem] theorem tagg_57 : tagg Tryz.prog 57 = true := by kernel_rfl
@[go_sem] theorem tzero_57 : tzero Tryz.prog 57 = some [.int .i64 0, .str [], .str [], .int .i64 0, .str [], .sl .nil [], .int .i64 0] := by kernel_rfl
@[go_sem] theorem tbdz_57 : aMakeFull.tbdz Tryz.prog 57 = some [.int .i64 0, .str [], .str [], .int .i64 0, .str [], .sl .nil [], .int .i64 0] := by kernel_rfl
@[go_sem] theorem tfld_57_0 : tfld Tryz.prog 57 0 = some (0, 3, true) := by kernel_rfl
@[go_sem] theorem tfld_57_1 : tfld Tryz.prog 57 1 = some (3, 1, false) := by kernel_rfl
@[go_sem] theorem tfld_57_2 : tfld Tryz.prog 57 2 = some (4, 1, false) := by kernel_rfl
@[go_sem] theorem tfld_57_3 : tfld Tryz.prog 57 3 = some (5, 1, false) := by kernel_rfl
@[go_sem] theorem tfld_57_4 : tfld Tryz.prog 57 4 = some (6, 1, false) := by kernel_rfl
@[go_sem] theorem tbd_57 : tbd Tryz.prog 57 = .str [(0, 3), (3, 1), (4, 1), (5, 1), (6, 1)] [.int .i64 0, .str [], .str [], .int .i64 0, .str [], .sl .nil [], .int .i64 0] := by kernel_rfl
@[go_sem] theorem tkn_58 : tkn Tryz.prog 58 = true := by kernel_rfl
@[go_sem] theorem tsz_58 : tsz Tryz.prog 58 = 1 := by kernel_rfl
@[go_sem] theorem tagg_58 : tagg Tryz.prog 58 = false := by kernel_rfl
@[go_sem] theorem tzero_58 : tzero Tryz.prog 58 = some [.sl .nil []] := by kernel_rfl
@[go_sem] theorem tbdz_58 : aMakeFull.tbdz Tryz.prog 58 = some [.sl .nil []] := by kernel_rfl
@[go_sem] theorem tix_58 : tix Tryz.prog 58 = .slc 2 true := by kernel_rfl
@[go_sem] theorem tlen_58 : tlen Tryz.prog 58 = .slc := by kernel_rfl
@[go_sem] theorem teqk_58 : teqk Tryz.prog 58 = .slc := by kernel_rfl
@[go_sem] theorem telem_58 : telem Tryz.prog 58 = some ⟨160, 2, 32⟩ := by kernel_rfl
@[go_sem] theorem tkn_59 : tkn Tryz.prog 59 = true := by kernel_rfl
@[go_sem] theorem tsz_59 : tsz Tryz.prog 59 = 16 := by kernel_rfl
@[go_sem] theorem tagg_59 : tagg Tryz.prog 59 = true := by kernel_rfl
@[go_sem] theorem tzero_59 : tzero Tryz.prog 59 = some [.int .i64 0, .int .i64 0, .str [], .str [], .str [], .str [], .int .i64 0, .int .i64 0, .str [], .str [], .int .i64 0, .str [], .sl .nil [], .int .i64 0, .sl .nil [], .sl .nil []] := by kernel_rfl
@[go_sem] theorem tbdz_59 : aMakeFull.tbdz Tryz.prog 59 = some [.int .i64 0, .int .i64 0, .str [], .str [], .str [], .str [], .int .i64 0, .int .i64 0, .str [], .str [], .int .i64 0, .str [], .sl .nil [], .int .i64 0, .sl .nil [], .sl .nil []] := by kernel_rfl
@[go_sem] theorem tfld_59_0 : tfld Tryz.prog 59 0 = some (0, 1, false) := by kernel_rfl
@[go_sem] theorem tfld_59_1 : tfld Tryz.prog 59 1 = some (1, 3, true) := by kernel_rfl
@[go_sem] theorem tfld_59_2 : tfld Tryz.prog 59 2 = some (4, 1, false) := by kernel_rfl
@[go_sem] theorem tfld_59_3 : tfld Tryz.prog 59 3 = some (5, 1, false) := by kernel_rfl
@[go_sem] theorem tfld_59_4 : tfld Tryz.prog 59 4 = some (6, 1, false) := by kernel_rfl
@[go_sem] theorem tfld_59_5 : tfld Tryz.prog 59 5 = some (7, 7, true) := by kernel_rfl
@[go_sem] theorem tfld_59_6 : tfld Tryz.prog 59 6 = some (14, 1, false) := by kernel_rfl
@[go_sem] theorem tfld_59_7 : tfld Tryz.prog 59 7 = some (15, 1, false) := by kernel_rfl
@[go_sem] theorem tbd_59 : tbd Tryz.prog 59 = .str [(0, 1), (1, 3), (4, 1), (5, 1), (6, 1), (7, 7), (14, 1), (15, 1)] [.int .i64 0, .int .i64 0, .str [], .str [], .str [], .str [], .int .i64 0, .int .i64 0, .str [], .str [], .int .i64 0, .str [], .sl .nil [], .int .i64 0, .sl .nil [], .sl .nil []] := by kernel_rfl
@[go_sem] theorem tkn_60 : tkn Tryz.prog 60 = true := by kernel_rfl
@[go_sem] theorem tsz_60 : tsz Tryz.prog 60 = 16 := by kernel_rfl
@[go_sem] theorem tagg_60 : tagg Tryz.prog 60 = true := by kernel_rfl
@[go_sem] theorem tzero_60 : tzero Tryz.prog 60 = some [.int .i64 0, .int .i64 0, .str [], .str [], .str [], .str [], .int .i64 0, .int .i64 0, .str [], .str [], .int .i64 0, .str [], .sl .nil [], .int .i64 0, .sl .nil [], .sl .nil []] := by kernel_rfl
@[go_sem] theorem tbdz_60 : aMakeFull.tbdz Tryz.prog 60 = some [.int .i64 0, .int .i64 0, .str [], .str [], .str [], .str [], .int .i64 0, .int .i64 0, .str [], .str [], .int .i64 0, .str [], .sl .nil [], .int .i64 0, .sl .nil [], .sl .nil []] := by kernel_rfl
@[go_sem] theorem tfld_60_0 : tfld Tryz.prog 60 0 = some (0, 1, false) := by kernel_rfl
@[go_sem] theorem tfld_60_1 : tfld Tryz.prog 60 1 = some (1, 3, true) := by kernel_rfl
@[go_sem] theorem tfld_60_2 : tfld Tryz.prog 60 2 = some (4, 1, false) := by kernel_rfl
@[go_sem] theorem tfld_60_3 : tfld Tryz.prog 60 3 = some (5, 1, false) := by kernel_rfl
@[go_sem] theorem tfld_60_4 : tfld Tryz.prog 60 4 = some (6, 1, false) := by kernel_rfl
@[go_sem] theorem tfld_60_5 : tfld Tryz.prog 60 5 = some (7, 7, true) := by kernel_rfl
@[go_sem] theorem tfld_60_6 : tfld Tryz.prog 60 6 = some (14, 1, false) := by kernel_rfl
@[go_sem] theorem tfld_60_7 : tfld Tryz.prog 60 7 = some (15, 1, false) := by kernel_rfl
@[go_sem] theorem tbd_60 : tbd Tryz.prog 60 = .str [(0, 1), (1, 3), (4, 1), (5, 1), (6, 1), (7, 7), (14, 1), (15, 1)] [.int .i64 0, .int .i64 0, .str [], .str [], .str [], .str [], .int .i64 0, .int .i64 0, .str [], .str [], .int .i64 0, .str [], .sl .nil [], .int .i64 0, .sl .nil [], .sl .nil []] := by kernel_rfl
@[go_sem] theorem tkn_61 : tkn Tryz.prog 61 = true := by kernel_rfl
@[go_sem] theorem tsz_61 : tsz Tryz.prog 61 = 1 := by kernel_rfl
@[go_sem] theorem tagg_61 : tagg Tryz.prog 61 = false := by kernel_rfl
@[go_sem] theorem tzero_61 : tzero Tryz.prog 61 = some [.sl .nil []] := by kernel_rfl
@[go_sem] theorem tbdz_61 : aMakeFull.tbdz Tryz.prog 61 = some [.sl .nil []] := by kernel_rfl
@[go_sem] theorem tix_61 : tix Tryz.prog 61 = .slc 5 true := by kernel_rfl
@[go_sem] theorem tlen_61 : tlen Tryz.prog 61 = .slc := by kernel_rfl
@[go_sem] theorem teqk_61 : teqk Tryz.prog 61 = .slc := by kernel_rfl
@[go_sem] theorem telem_61 : telem Tryz.prog 61 = some ⟨110, 5, 72⟩ := by kernel_rfl
@[go_sem] theorem tkn_62 : tkn Tryz.prog 62 = true := by kernel_rfl
@[go_sem] theorem tsz_62 : tsz Tryz.prog 62 = 1 := by kernel_rfl
@[go_sem] theorem tagg_62 : tagg Tryz.prog 62 = false := by kernel_rfl
@[go_sem] theorem tzero_62 : tzero Tryz.prog 62 = some [.sl .nil []] := by kernel_rfl
@[go_sem] theorem tbdz_62 : aMakeFull.tbdz Tryz.prog 62 = some [.sl .nil []] := by kernel_rfl
@[go_sem] theorem tix_62 : tix Tryz.prog 62 = .slc 2 true := by kernel_rfl
@[go_sem] theorem tlen_62 : tlen Tryz.prog 62 = .slc := by kernel_rfl
@[go_sem] theorem teqk_62 : teqk Tryz.prog 62 = .slc := by kernel_rfl
@[go_sem] theorem telem_62 : telem Tryz.prog 62 = some ⟨112, 2, 40⟩ := by kernel_rfl
@[go_sem] theorem tkn_63 : tkn Tryz.prog 63 = true := by kernel_rfl
@[go_sem] theorem tsz_63 : tsz Tryz.prog 63 = 2 := by kernel_rfl
@[go_sem] theorem tagg_63 : tagg Tryz.prog 63 = true := by kernel_rfl
@[go_sem] theorem tzero_63 : tzero Tryz.prog 63 = some [.sl .nil [], .sl .nil []] := by kernel_rfl
@[go_sem] theorem tbdz_63 : aMakeFull.tbdz Tryz.prog 63 = some [.sl .nil [], .sl .nil []] := by kernel_rfl
@[go_sem] theorem tfld_63_0 : tfld Tryz.prog 63 0 = some (0, 1, false) := by kernel_rfl
@[go_sem] theorem tfld_63_1 : tfld Tryz.prog 63 1 = some (1, 1, false) := by kernel_rfl
@[go_sem] theorem tbd_63 : tbd Tryz.prog 63 = .str [(0, 1), (1, 1)] [.sl .nil [], .sl .nil []] := by kernel_rfl
@[go_sem] theorem tkn_64 : tkn Tryz.prog 64 = true := by kernel_rfl
@[go_sem] theorem tsz_64 : tsz Tryz.prog 64 = 2 := by kernel_rfl
@[go_sem] theorem tagg_64 : tagg Tryz.prog 64 = true := by kernel_rfl
@[go_sem] theorem tzero_64 : tzero Tryz.prog 64 = some [.sl .nil [], .sl .nil []] := by kernel_rfl
@[go_sem] theorem tbdz_64 : aMakeFull.tbdz Tryz.prog 64 = some [.sl .nil [], .sl .nil []] := by kernel_rfl
@[go_sem] theorem tfld_64_0 : tfld Tryz.prog 64 0 = some (0, 1, false) := by kernel_rfl
@[go_sem] theorem tfld_64_1 : tfld Tryz.prog 64 1 = some (1, 1, false) := by kernel_rfl
@[go_sem] theorem tbd_64 : tbd Tryz.prog 64 = .str [(0, 1), (1, 1)] [.sl .nil [], .sl .nil []] := by kernel_rfl
@[go_sem] theorem tkn_90 : tkn Tryz.prog 90 = true := by kernel_rfl
@[go_sem] theorem tsz_90 : tsz Tryz.prog 90 = 20 := by kernel_rfl
@[go_sem] theorem tagg_90 : tagg Tryz.prog 90 = true := by kernel_rfl
@[go_sem] theorem tzero_90 : tzero Tryz.prog 90 = some [.int .i64 0, .int .i64 0, .int .i64 0, .int .i64 0, .int .i64 0, .int .i64 0, .str [], .str [], .str [], .str [], .int .i64 0, .int .i64 0, .str [], .str [], .int .i64 0, .str [], .sl .nil [], .int .i64 0, .sl .nil [], .sl .nil []] := by kernel_rfl
@[go_sem] theorem tbdz_90 : aMakeFull.tbdz Tryz.prog 90 = some [.int .i64 0, .int .i64 0, .int .i64 0, .int .i64 0, .int .i64 0, .int .i64 0, .str [], .str [], .str [], .str [], .int .i64 0, .int .i64 0, .str [], .str [], .int .i64 0, .str [], .sl .nil [], .int .i64 0, .sl .nil [], .sl .nil []] := by kernel_rfl
@[go_sem] theorem tfld_90_0 : tfld Tryz.prog 90 0 = some (0, 2, true) := by kernel_rfl
@[go_sem] theorem tfld_90_1 : tfld Tryz.prog 90 1 = some (2, 2, true) := by kernel_rfl
@[go_sem] theorem tfld_90_2 : tfld Tryz.prog 90 2 = some (4, 16, true) := by kernel_rfl
@[go_sem] theorem tbd_90 : tbd Tryz.prog 90 = .str [(0, 2), (2, 2), (4, 16)] [.int .i64 0, .int .i64 0, .int .i64 0, .int .i64 0, .int .i64 0, .int .i64 0, .str [], .str [], .str [], .str [], .int .i64 0, .int .i64 0, .str [], .str [], .int .i64 0, .str [], .sl .nil [], .int .i64 0, .sl .nil [], .sl .nil []] := by kernel_rfl
@[go_sem] theorem tkn_91 : tkn Tryz.prog 91 = true := by kernel_rfl
@[go_sem] theorem tsz_91 : tsz Tryz.prog 91 = 20 := by kernel_rfl
@[go_sem] theorem tagg_91 : tagg Tryz.prog 91 = true := by kernel_rfl
@[go_sem] theorem tzero_91 : tzero Tryz.prog 91 = some [.int .i64 0, .int .i64 0, .int .i64 0, .int .i64 0, .int .i64 0, .int .i64 0, .str [], .str [], .str [], .str [], .int .i64 0, .int .i64 0, .str [], .str [], .int .i64 0, .str [], .sl .nil [], .int .i64 0, .sl .nil [], .sl .nil []] := by kernel_rfl
@[go_sem] theorem tbdz_91 : aMakeFull.tbdz Tryz.prog 91 = some [.int .i64 0, .int .i64 0, .int .i64 0, .int .i64 0, .int .i64 0, .int .i64 0, .str [], .str [], .str [], .str [], .int .i64 0, .int .i64 0, .str [], .str [], .int .i64 0, .str [], .sl .nil [], .int .i64 0, .sl .nil [], .sl .nil []] := by kernel_rfl
@[go_sem] theorem tfld_91_0 : tfld Tryz.prog 91 0 = some (0, 2, true) := by kernel_rfl
@[go_sem] theorem tfld_91_1 : tfld Tryz.prog 91 1 = some (2, 2, true) := by kernel_rfl
@[go_sem] theorem tfld_91_2 : tfld Tryz.prog 91 2 = some (4, 16, true) := by kernel_rfl
@[go_sem] theorem tbd_91 : tbd Tryz.prog 91 = .str [(0, 2), (2, 2), (4, 16)] [.int .i64 0, .int .i64 0, .int .i64 0, .int .i64 0, .int .i64 0, .int .i64 0, .str [], .str [], .str [], .str [], .int .i64 0, .int .i64 0, .str [], .str [], .int .i64 0, .str [], .sl .nil [], .int .i64 0, .sl .nil [], .sl .nil []] := by kernel_rfl
@[go_sem] theorem tkn_92 : tkn Tryz.prog 92 = true := by kernel_rfl
@[go_sem] theorem tsz_92 : tsz Tryz.prog 92 = 3 := by kernel_rfl
@[go_sem] theorem tagg_92 : tagg Tryz.prog 92 = true := by kernel_rfl
@[go_sem] theorem tzero_92 : tzero Tryz.prog 92 = some [.int .i64 0, .int .i64 0, .bool false] := by kernel_rfl
@[go_sem] theorem tbdz_92 : aMakeFull.tbdz Tryz.prog 92 = some [.int .i64 0, .int .i64 0, .bool false] := by kernel_rfl
@[go_sem] theorem tfld_92_0 : tfld Tryz.prog 92 0 = some (0, 2, true) := by kernel_rfl
@[go_sem] theorem tfld_92_1 : tfld Tryz.prog 92 1 = some (2, 1, false) := by kernel_rfl
@[go_sem] theorem tbd_92 : tbd Tryz.prog 92 = .str [(0, 2), (2, 1)] [.int .i64 0, .int .i64 0, .bool false] := by kernel_rfl
@[go_sem] theorem tleaves_92 : tleaves Tryz.prog 92 = some [.int, .int, .bool] := by kernel_rfl
@[go_sem] theorem tkn_93 : tkn Tryz.prog 93 = true := by kernel_rfl
@[go_sem] theorem tsz_93 : tsz Tryz.prog 93 = 3 := by kernel_rfl
@[go_sem] theorem tagg_93 : tagg Tryz.prog 93 = true := by kernel_rfl
@[go_sem] theorem tzero_93 : tzero Tryz.prog 93 = some [.int .i64 0, .int .i64 0, .bool false] := by kernel_rfl
@[go_sem] theorem tbdz_93 : aMakeFull.tbdz Tryz.prog 93 = some [.int .i64 0, .int .i64 0, .bool false] := by kernel_rfl
@[go_sem] theorem tfld_93_0 : tfld Tryz.prog 93 0 = some (0, 2, true) := by kernel_rfl
@[go_sem] theorem tfld_93_1 : tfld Tryz.prog 93 1 = some (2, 1, false) := by kernel_rfl
@[go_sem] theorem tbd_93 : tbd Tryz.prog 93 = .str [(0, 2), (2, 1)] [.int .i64 0, .int .i64 0, .bool false] := by kernel_rfl
@[go_sem] theorem tleaves_93 : tleaves Tryz.prog 93 = some [.int, .int, .bool] := by kernel_rfl
@[go_sem] theorem tkn_109 : tkn Tryz.prog 109 = true := by kernel_rfl
@[go_sem] theorem tsz_109 : tsz Tryz.prog 109 = 5 := by kernel_rfl
@[go_sem] theorem tagg_109 : tagg Tryz.prog 109 = true := by kernel_rfl
@[go_sem] theorem tzero_109 : tzero Tryz.prog 109 = some [.int .i64 0, .str [], .str [], .int .i64 0, .sl .nil []] := by kernel_rfl
@[go_sem] theorem tbdz_109 : aMakeFull.tbdz Tryz.prog 109 = some [.int .i64 0, .str [], .str [], .int .i64 0, .sl .nil []] := by kernel_rfl
@[go_sem] theorem tfld_109_0 : tfld Tryz.prog 109 0 = some (0, 3, true) := by kernel_rfl
@[go_sem] theorem tfld_109_1 : tfld Tryz.prog 109 1 = some (3, 1, false) := by kernel_rfl
@[go_sem] theorem tfld_109_2 : tfld Tryz.prog 109 2 = some (4, 1, false) := by kernel_rfl
@[go_sem] theorem tbd_109 : tbd Tryz.prog 109 = .str [(0, 3), (3, 1), (4, 1)] [.int .i64 0, .str [], .str [], .int .i64 0, .sl .nil []] := by kernel_rfl
@[go_sem] theorem tkn_110 : tkn Tryz.prog 110 = true := by kernel_rfl
@[go_sem] theorem tsz_110 : tsz Tryz.prog 110 = 5 := by kernel_rfl
@[go_sem] theorem tagg_110 : tagg Tryz.prog 110 = true := by kernel_rfl
@[go_sem] theorem tzero_110 : tzero Tryz.prog 110 = some [.int .i64 0, .str [], .str [], .int .i64 0, .sl .nil []] := by kernel_rfl
@[go_sem] theorem tbdz_110 : aMakeFull.tbdz Tryz.prog 110 = some [.int .i64 0, .str [], .str [], .int .i64 0, .sl .nil []] := by kernel_rfl
@[go_sem] theorem tfld_110_0 : tfld Tryz.prog 110 0 = some (0, 3, true) := by kernel_rfl
@[go_sem] theorem tfld_110_1 : tfld Tryz.prog 110 1 = some (3, 1, false) := by kernel_rfl
@[go_sem] theorem tfld_110_2 : tfld Tryz.prog 110 2 = some (4, 1, false) := by kernel_rfl
@[go_sem] theorem tbd_110 : tbd Tryz.prog 110 = .str [(0, 3), (3, 1), (4, 1)] [.int .i64 0, .str [], .str [], .int .i64 0, .sl .nil []] := by kernel_rfl
@[go_sem] theorem tkn_111 : tkn Tryz.prog 111 = true := by kernel_rfl
@[go_sem] theorem tsz_111 : tsz Tryz.prog 111 = 2 := by kernel_rfl
@[go_sem] theorem tagg_111 : tagg Tryz.prog 111 = true := by kernel_rfl
@[go_sem] theorem tzero_111 : tzero Tryz.prog 111 = some [.str [], .sl .nil []] := by kernel_rfl
@[go_sem] theorem tbdz_111 : aMakeFull.tbdz Tryz.prog 111 = some [.str [], .sl .nil []] := by kernel_rfl
@[go_sem] theorem tfld_111_0 : tfld Tryz.prog 111 0 = some (0, 1, false) := by kernel_rfl
@[go_sem] theorem tfld_111_1 : tfld Tryz.prog 111 1 = some (1, 1, false) := by kernel_rfl
@[go_sem] theorem tbd_111 : tbd Tryz.prog 111 = .str [(0, 1), (1, 1)] [.str [], .sl .nil []] := by kernel_rfl
@[go_sem] theorem tkn_112 : tkn Tryz.prog 112 = true := by kernel_rfl
@[go_sem] theorem tsz_112 : tsz Tryz.prog 112 = 2 := by kernel_rfl
@[go_sem] theorem tagg_112 : tagg Tryz.prog 112 = true := by kernel_rfl
@[go_sem] theorem tzero_112 : tzero Tryz.prog 112 = some [.str [], .sl .nil []] := by kernel_rfl
@[go_sem] theorem tbdz_112 : aMakeFull.tbdz Tryz.prog 112 = some [.str [], .sl .nil []] := by kernel_rfl
@[go_sem] theorem tfld_112_0 : tfld Tryz.prog 112 0 = some (0, 1, false) := by kernel_rfl
@[go_sem] theorem tfld_112_1 : tfld Tryz.prog 112 1 = some (1, 1, false) := by kernel_rfl
@[go_sem] theorem tbd_112 : tbd Tryz.prog 112 = .str [(0, 1), (1, 1)] [.str [], .sl .nil []] := by kernel_rfl
@[go_sem] theorem tkn_128 : tkn Tryz.prog 128 = true := by kernel_rfl
@[go_sem] theorem tsz_128 : tsz Tryz.prog 128 = 1 := by kernel_rfl
@[go_sem] theorem tagg_128 : tagg Tryz.prog 128 = false := by kernel_rfl
@[go_sem] theorem tzero_128 : tzero Tryz.prog 128 = some [.sl .nil []] := by kernel_rfl
@[go_sem] theorem tbdz_128 : aMakeFull.tbdz Tryz.prog 128 = some [.sl .nil []] := by kernel_rfl
@[go_sem] theorem tix_128 : tix Tryz.prog 128 = .slc 3 true := by kernel_rfl
@[go_sem] theorem tlen_128 : tlen Tryz.prog 128 = .slc := by kernel_rfl
@[go_sem] theorem teqk_128 : teqk Tryz.prog 128 = .slc := by kernel_rfl
@[go_sem] theorem telem_128 : telem Tryz.prog 128 = some ⟨54, 3, 40⟩ := by kernel_rfl
@[go_sem] theorem tkn_140 : tkn Tryz.prog 140 = true := by kernel_rfl
@[go_sem] theorem tsz_140 : tsz Tryz.prog 140 = 23 := by kernel_rfl
@[go_sem] theorem tagg_140 : tagg Tryz.prog 140 = true := by kernel_rfl
@[go_sem] theorem tzero_140 : tzero Tryz.prog 140 = some [.int .i64 0, .int .i64 0, .int .i64 0, .int .i64 0, .int .i64 0, .int .i64 0, .str [], .str [], .str [], .str [], .int .i64 0, .int .i64 0, .str [], .str [], .int .i64 0, .str [], .sl .nil [], .int .i64 0, .sl .nil [], .sl .nil [], .int .i64 0, .sl .nil [], .int .i64 0] := by kernel_rfl
@[go_sem] theorem tbdz_140 : aMakeFull.tbdz Tryz.prog 140 = some [.int .i64 0, .int .i64 0, .int .i64 0, .int .i64 0, .int .i64 0, .int .i64 0, .str [], .str [], .str [], .str [], .int .i64 0, .int .i64 0, .str [], .str [], .int .i64 0, .str [], .sl .nil [], .int .i64 0, .sl .nil [], .sl .nil [], .int .i64 0, .sl .nil [], .int .i64 0] := by kernel_rfl
@[go_sem] theorem tfld_140_0 : tfld Tryz.prog 140 0 = some (0, 20, true) := by kernel_rfl
@[go_sem] theorem tfld_140_1 : tfld Tryz.prog 140 1 = some (20, 1, false) := by kernel_rfl
@[go_sem] theorem tfld_140_2 : tfld Tryz.prog 140 2 = some (21, 1, false) := by kernel_rfl
@[go_sem] theorem tfld_140_3 : tfld Tryz.prog 140 3 = some (22, 1, false) := by kernel_rfl
@[go_sem] theorem tbd_140 : tbd Tryz.prog 140 = .str [(0, 20), (20, 1), (21, 1), (22, 1)] [.int .i64 0, .int .i64 0, .int .i64 0, .int .i64 0, .int .i64 0, .int .i64 0, .str [], .str [], .str [], .str [], .int .i64 0, .int .i64 0, .str [], .str [], .int .i64 0, .str [], .sl .nil [], .int .i64 0, .sl .nil [], .sl .nil [], .int .i64 0, .sl .nil [], .int .i64 0] := by kernel_rfl
@[go_sem] theorem tkn_141 : tkn Tryz.prog 141 = true := by kernel_rfl
@[go_sem] theorem tsz_141 : tsz Tryz.prog 141 = 23 := by kernel_rfl
@[go_sem] theorem tagg_141 : tagg Tryz.prog 141 = true := by kernel_rfl
@[go_sem] theorem tzero_141 : tzero Tryz.prog 141 = some [.int .i64 0, .int .i64 0, .int .i64 0, .int .i64 0, .int .i64 0, .int .i64 0, .str [], .str [], .str [], .str [], .int .i64 0, .int .i64 0, .str [], .str [], .int .i64 0, .str [], .sl .nil [], .int .i64 0, .sl .nil [], .sl .nil [], .int .i64 0, .sl .nil [], .int .i64 0] := by kernel_rfl
@[go_sem] theorem tbdz_141 : aMakeFull.tbdz Tryz.prog 141 = some [.int .i64 0, .int .i64 0, .int .i64 0, .int .i64 0, .int .i64 0, .int .i64 0, .str [], .str [], .str [], .str [], .int .i64 0, .int .i64 0, .str [], .str [], .int .i64 0, .str [], .sl .nil [], .int .i64 0, .sl .nil [], .sl .nil [], .int .i64 0, .sl .nil [], .int .i64 0] := by kernel_rfl
@[go_sem] theorem tfld_141_0 : tfld Tryz.prog 141 0 = some (0, 20, true) := by kernel_rfl
@[go_sem] theorem tfld_141_1 : tfld Tryz.prog 141 1 = some (20, 1, false) := by kernel_rfl
@[go_sem] theorem tfld_141_2 : tfld Tryz.prog 141 2 = some (21, 1, false) := by kernel_rfl
@[go_sem] theorem tfld_141_3 : tfld Tryz.prog 141 3 = some (22, 1, false) := by kernel_rfl
@[go_sem] theorem tbd_141 : tbd Tryz.prog 141 = .str [(0, 20), (20, 1), (21, 1), (22, 1)] [.int .i64 0, .int .i64 0, .int .i64 0, .int .i64 0, .int .i64 0, .int .i64 0, .str [], .str [], .str [], .str [], .int .i64 0, .int .i64 0, .str [], .str [], .int .i64 0, .str [], .sl .nil [], .int .i64 0, .sl .nil [], .sl .nil [], .int .i64 0, .sl .nil [], .int .i64 0] := by kernel_rfl
@[go_sem] theorem tkn_143 : tkn Tryz.prog 143 = true := by kernel_rfl
@[go_sem] theorem tsz_143 : tsz Tryz.prog 143 = 1 := by kernel_rfl
@[go_sem] theorem tagg_143 : tagg Tryz.prog 143 = false := by kernel_rfl
@[go_sem] theorem tzero_143 : tzero Tryz.prog 143 = some [.nilmap] := by kernel_rfl
@[go_sem] theorem tbdz_143 : aMakeFull.tbdz Tryz.prog 143 = some [.nilmap] := by kernel_rfl
@[go_sem] theorem teqk_143 : teqk Tryz.prog 143 = .map := by kernel_rfl
@[go_sem] theorem tmapB_143 : tmapB Tryz.prog 143 = true := by kernel_rfl
@[go_sem] theorem tmap_143 : tmap Tryz.prog 143 = some ([.int, .int], .agg [.int .i64 0, .int .i64 0, .int .i64 0, .int .i64 0, .int .i64 0, .int .i64 0, .str [], .str [], .str [], .str [], .int .i64 0, .int .i64 0, .str [], .str [], .int .i64 0, .str [], .sl .nil [], .int .i64 0, .sl .nil [], .sl .nil [], .int .i64 0, .sl .nil [], .int .i64 0]) := by kernel_rfl
@[go_sem] theorem tkn_144 : tkn Tryz.prog 144 = true := by kernel_rfl
@[go_sem] theorem tsz_144 : tsz Tryz.prog 144 = 1 := by kernel_rfl
@[go_sem] theorem tagg_144 : tagg Tryz.prog 144 = true := by kernel_rfl
@[go_sem] theorem tzero_144 : tzero Tryz.prog 144 = some [.nilmap] := by kernel_rfl
@[go_sem] theorem tbdz_144 : aMakeFull.tbdz Tryz.prog 144 = some [.nilmap] := by kernel_rfl
@[go_sem] theorem tfld_144_0 : tfld Tryz.prog 144 0 = some (0, 1, false) := by kernel_rfl
@[go_sem] theorem tbd_144 : tbd Tryz.prog 144 = .str [(0, 1)] [.nilmap] := by kernel_rfl
@[go_sem] theorem tkn_145 : tkn Tryz.prog 145 = true := by kernel_rfl
@[go_sem] theorem tsz_145 : tsz Tryz.prog 145 = 1 := by kernel_rfl
@[go_sem] theorem tagg_145 : tagg Tryz.prog 145 = true := by kernel_rfl
@[go_sem] theorem tzero_145 : tzero Tryz.prog 145 = some [.nilmap] := by kernel_rfl
@[go_sem] theorem tbdz_145 : aMakeFull.tbdz Tryz.prog 145 = some [.nilmap] := by kernel_rfl
@[go_sem] theorem tfld_145_0 : tfld Tryz.prog 145 0 = some (0, 1, false) := by kernel_rfl
@[go_sem] theorem tbd_145 : tbd Tryz.prog 145 = .str [(0, 1)] [.nilmap] := by kernel_rfl
@[go_sem] theorem tkn_159 : tkn Tryz.prog 159 = true := by kernel_rfl
@[go_sem] theorem tsz_159 : tsz Tryz.prog 159 = 2 := by kernel_rfl
@[go_sem] theorem tagg_159 : tagg Tryz.prog 159 = true := by kernel_rfl
@[go_sem] theorem tzero_159 : tzero Tryz.prog 159 = some [.str [], .str []] := by kernel_rfl
@[go_sem] theorem tbdz_159 : aMakeFull.tbdz Tryz.prog 159 = some [.str [], .str []] := by kernel_rfl
@[go_sem] theorem tfld_159_0 : tfld Tryz.prog 159 0 = some (0, 1, false) := by kernel_rfl
@[go_sem] theorem tfld_159_1 : tfld Tryz.prog 159 1 = some (1, 1, false) := by kernel_rfl
@[go_sem] theorem tbd_159 : tbd Tryz.prog 159 = .str [(0, 1), (1, 1)] [.str [], .str []] := by kernel_rfl
@[go_sem] theorem tleaves_159 : tleaves Tryz.prog 159 = some [.str, .str] := by kernel_rfl
@[go_sem] theorem tkn_160 : tkn Tryz.prog 160 = true := by kernel_rfl
@[go_sem] theorem tsz_160 : tsz Tryz.prog 160 = 2 := by kernel_rfl
@[go_sem] theorem tagg_160 : tagg Tryz.prog 160 = true := by kernel_rfl
@[go_sem] theorem tzero_160 : tzero Tryz.prog 160 = some [.str [], .str []] := by kernel_rfl
@[go_sem] theorem tbdz_160 : aMakeFull.tbdz Tryz.prog 160 = some [.str [], .str []] := by kernel_rfl
@[go_sem] theorem tfld_160_0 : tfld Tryz.prog 160 0 = some (0, 1, false) := by kernel_rfl
@[go_sem] theorem tfld_160_1 : tfld Tryz.prog 160 1 = some (1, 1, false) := by kernel_rfl
@[go_sem] theorem tbd_160 : tbd Tryz.prog 160 = .str [(0, 1), (1, 1)] [.str [], .str []] := by kernel_rfl
@[go_sem] theorem tleaves_160 : tleaves Tryz.prog 160 = some [.str, .str] := by kernel_rfl
@[go_sem] theorem tkn_198 : tkn Tryz.prog 198 = true := by kernel_rfl
@[go_sem] theorem tsz_198 : tsz Tryz.prog 198 = 1 := by kernel_rfl
@[go_sem] theorem tagg_198 : tagg Tryz.prog 198 = false := by kernel_rfl
@[go_sem] theorem tkn_204 : tkn Tryz.prog 204 = true := by kernel_rfl
@[go_sem] theorem tsz_204 : tsz Tryz.prog 204 = 1 := by kernel_rfl
@[go_sem] theorem tagg_204 : tagg Tryz.prog 204 = false := by kernel_rfl
@[go_sem] theorem tzero_204 : tzero Tryz.prog 204 = some [.flt .f64 0] := by kernel_rfl
@[go_sem] theorem tbdz_204 : aMakeFull.tbdz Tryz.prog 204 = some [.flt .f64 0] := by kernel_rfl
@[go_sem] theorem tkn_209 : tkn Tryz.prog 209 = true := by kernel_rfl
@[go_sem] theorem tsz_209 : tsz Tryz.prog 209 = 2 := by kernel_rfl
@[go_sem] theorem tagg_209 : tagg Tryz.prog 209 = true := by kernel_rfl
@[go_sem] theorem tzero_209 : tzero Tryz.prog 209 = some [.flt .f64 0, .flt .f64 0] := by kernel_rfl
@[go_sem] theorem tbdz_209 : aMakeFull.tbdz Tryz.prog 209 = some [.flt .f64 0, .flt .f64 0] := by kernel_rfl
@[go_sem] theorem tix_209 : tix Tryz.prog 209 = .arr 2 1 false := by kernel_rfl
@[go_sem] theorem tlen_209 : tlen Tryz.prog 209 = .arr 2 := by kernel_rfl
@[go_sem] theorem tbd_209 : tbd Tryz.prog 209 = .arr 1 [.flt .f64 0, .flt .f64 0] := by kernel_rfl
@[go_sem] theorem tkn_213 : tkn Tryz.prog 213 = true := by kernel_rfl
@[go_sem] theorem tsz_213 : tsz Tryz.prog 213 = 1 := by kernel_rfl
@[go_sem] theorem tagg_213 : tagg Tryz.prog 213 = false := by kernel_rfl
@[go_sem] theorem tzero_213 : tzero Tryz.prog 213 = some [.int .u64 0] := by kernel_rfl
@[go_sem] theorem tbdz_213 : aMakeFull.tbdz Tryz.prog 213 = some [.int .u64 0] := by kernel_rfl
@[go_sem] theorem tkn_215 : tkn Tryz.prog 215 = true := by kernel_rfl
@[go_sem] theorem tsz_215 : tsz Tryz.prog 215 = 1 := by kernel_rfl
@[go_sem] theorem tagg_215 : tagg Tryz.prog 215 = false := by kernel_rfl
@[go_sem] theorem tzero_215 : tzero Tryz.prog 215 = some [.int .u64 0] := by kernel_rfl
@[go_sem] theorem tbdz_215 : aMakeFull.tbdz Tryz.prog 215 = some [.int .u64 0] := by kernel_rfl
@[go_sem] theorem tkn_220 : tkn Tryz.prog 220 = true := by kernel_rfl
@[go_sem] theorem tsz_220 : tsz Tryz.prog 220 = 0 := by kernel_rfl
@[go_sem] theorem tagg_220 : tagg Tryz.prog 220 = true := by kernel_rfl
@[go_sem] theorem tzero_220 : tzero Tryz.prog 220 = some [] := by kernel_rfl
@[go_sem] theorem tbdz_220 : aMakeFull.tbdz Tryz.prog 220 = some [] := by kernel_rfl
@[go_sem] theorem tix_220 : tix Tryz.prog 220 = .arr 0 1 false := by kernel_rfl
@[go_sem] theorem tlen_220 : tlen Tryz.prog 220 = .arr 0 := by kernel_rfl
@[go_sem] theorem tbd_220 : tbd Tryz.prog 220 = .arr 1 [] := by kernel_rfl
@[go_sem] theorem tkn_224 : tkn Tryz.prog 224 = true := by kernel_rfl
@[go_sem] theorem tsz_224 : tsz Tryz.prog 224 = 1 := by kernel_rfl
@[go_sem] theorem tagg_224 : tagg Tryz.prog 224 = false := by kernel_rfl
@[go_sem] theorem tzero_224 : tzero Tryz.prog 224 = some [.int .u32 0] := by kernel_rfl
@[go_sem] theorem tbdz_224 : aMakeFull.tbdz Tryz.prog 224 = some [.int .u32 0] := by kernel_rfl
@[go_sem] theorem tkn_228 : tkn Tryz.prog 228 = true := by kernel_rfl
@[go_sem] theorem tsz_228 : tsz Tryz.prog 228 = 1 := by kernel_rfl
@[go_sem] theorem tagg_228 : tagg Tryz.prog 228 = false := by kernel_rfl
@[go_sem] theorem tzero_228 : tzero Tryz.prog 228 = some [.nilp] := by kernel_rfl
@[go_sem] theorem tbdz_228 : aMakeFull.tbdz Tryz.prog 228 = some [.nilp] := by kernel_rfl
@[go_sem] theorem teqk_228 : teqk Tryz.prog 228 = .ptr := by kernel_rfl
@[go_sem] theorem tcv_2_2 : tcv Tryz.prog 2 2 = .int .i64 := by kernel_rfl
@[go_sem] theorem tcv_2_3 : tcv Tryz.prog 2 3 = .int .i64 := by kernel_rfl
@[go_sem] theorem tcv_2_31 : tcv Tryz.prog 2 31 = .int .i64 := by kernel_rfl
@[go_sem] theorem tcv_2_5 : tcv Tryz.prog 2 5 = .int .u8 := by kernel_rfl
@[go_sem] theorem tcv_2_12 : tcv Tryz.prog 2 12 = .int .u64 := by kernel_rfl
@[go_sem] theorem tcv_2_213 : tcv Tryz.prog 2 213 = .int .u64 := by kernel_rfl
@[go_sem] theorem tcv_2_215 : tcv Tryz.prog 2 215 = .int .u64 := by kernel_rfl
@[go_sem] theorem tcv_2_21 : tcv Tryz.prog 2 21 = .int .i32 := by kernel_rfl
@[go_sem] theorem tcv_2_224 : tcv Tryz.prog 2 224 = .int .u32 := by kernel_rfl
@[go_sem] theorem tcv_3_2 : tcv Tryz.prog 3 2 = .int .i64 := by kernel_rfl
@[go_sem] theorem tcv_3_3 : tcv Tryz.prog 3 3 = .int .i64 := by kernel_rfl
@[go_sem] theorem tcv_3_31 : tcv Tryz.prog 3 31 = .int .i64 := by kernel_rfl
@[go_sem] theorem tcv_3_5 : tcv Tryz.prog 3 5 = .int .u8 := by kernel_rfl
@[go_sem] theorem tcv_3_12 : tcv Tryz.prog 3 12 = .int .u64 := by kernel_rfl
@[go_sem] theorem tcv_3_213 : tcv Tryz.prog 3 213 = .int .u64 := by kernel_rfl
@[go_sem] theorem tcv_3_215 : tcv Tryz.prog 3 215 = .int .u64 := by kernel_rfl
@[go_sem] theorem tcv_3_21 : tcv Tryz.prog 3 21 = .int .i32 := by kernel_rfl
@[go_sem] theorem tcv_3_224 : tcv Tryz.prog 3 224 = .int .u32 := by kernel_rfl
@[go_sem] theorem tcv_31_2 : tcv Tryz.prog 31 2 = .int .i64 := by kernel_rfl
@[go_sem] theorem tcv_31_3 : tcv Tryz.prog 31 3 = .int .i64 := by kernel_rfl
@[go_sem] theorem tcv_31_31 : tcv Tryz.prog 31 31 = .int .i64 := by kernel_rfl
@[go_sem] theorem tcv_31_5 : tcv Tryz.prog 31 5 = .int .u8 := by kernel_rfl
@[go_sem] theorem tcv_31_12 : tcv Tryz.prog 31 12 = .int .u64 := by kernel_rfl
@[go_sem] theorem tcv_31_213 : tcv Tryz.prog 31 213 = .int .u64 := by kernel_rfl
@[go_sem] theorem tcv_31_215 : tcv Tryz.prog 31 215 = .int .u64 := by kernel_rfl
@[go_sem] theorem tcv_31_21 : tcv Tryz.prog 31 21 = .int .i32 := by kernel_rfl
@[go_sem] theorem tcv_31_224 : tcv Tryz.prog 31 224 = .int .u32 := by kernel_rfl
@[go_sem] theorem tcv_5_2 : tcv Tryz.prog 5 2 = .int .i64 := by kernel_rfl
@[go_sem] theorem tcv_5_3 : tcv Tryz.prog 5 3 = .int .i64 := by kernel_rfl
@[go_sem] theorem tcv_5_31 : tcv Tryz.prog 5 31 = .int .i64 := by kernel_rfl
@[go_sem] theorem tcv_5_5 : tcv Tryz.prog 5 5 = .int .u8 := by kernel_rfl
@[go_sem] theorem tcv_5_12 : tcv Tryz.prog 5 12 = .int .u64 := by kernel_rfl
@[go_sem] theorem tcv_5_213 : tcv Tryz.prog 5 213 = .int .u64 := by kernel_rfl
@[go_sem] theorem tcv_5_215 : tcv Tryz.prog 5 215 = .int .u64 := by kernel_rfl
@[go_sem] theorem tcv_5_21 : tcv Tryz.prog 5 21 = .int .i32 := by kernel_rfl
@[go_sem] theorem tcv_5_224 : tcv Tryz.prog 5 224 = .int .u32 := by kernel_rfl
@[go_sem] theorem tcv_12_2 : tcv Tryz.prog 12 2 = .int .i64 := by kernel_rfl
@[go_sem] theorem tcv_12_3 : tcv Tryz.prog 12 3 = .int .i64 := by kernel_rfl
@[go_sem] theorem tcv_12_31 : tcv Tryz.prog 12 31 = .int .i64 := by kernel_rfl
@[go_sem] theorem tcv_12_5 : tcv Tryz.prog 12 5 = .int .u8 := by kernel_rfl
@[go_sem] theorem tcv_12_12 : tcv Tryz.prog 12 12 = .int .u64 := by kernel_rfl
@[go_sem] theorem tcv_12_213 : tcv Tryz.prog 12 213 = .int .u64 := by kernel_rfl
@[go_sem] theorem tcv_12_215 : tcv Tryz.prog 12 215 = .int .u64 := by kernel_rfl
@[go_sem] theorem tcv_12_21 : tcv Tryz.prog 12 21 = .int .i32 := by kernel_rfl
@[go_sem] theorem tcv_12_224 : tcv Tryz.prog 12 224 = .int .u32 := by kernel_rfl
@[go_sem] theorem tcv_213_2 : tcv Tryz.prog 213 2 = .int .i64 := by kernel_rfl
@[go_sem] theorem tcv_213_3 : tcv Tryz.prog 213 3 = .int .i64 := by kernel_rfl
@[go_sem] theorem tcv_213_31 : tcv Tryz.prog 213 31 = .int .i64 := by kernel_rfl
@[go_sem] theorem tcv_213_5 : tcv Tryz.prog 213 5 = .int .u8 := by kernel_rfl
@[go_sem] theorem tcv_213_12 : tcv Tryz.prog 213 12 = .int .u64 := by kernel_rfl
@[go_sem] theorem tcv_213_213 : tcv Tryz.prog 213 213 = .int .u64 := by kernel_rfl
@[go_sem] theorem tcv_213_215 : tcv Tryz.prog 213 215 = .int .u64 := by kernel_rfl
@[go_sem] theorem tcv_213_21 : tcv Tryz.prog 213 21 = .int .i32 := by kernel_rfl
@[go_sem] theorem tcv_213_224 : tcv Tryz.prog 213 224 = .int .u32 := by kernel_rfl
@[go_sem] theorem tcv_215_2 : tcv Tryz.prog 215 2 = .int .i64 := by kernel_rfl
@[go_sem] theorem tcv_215_3 : tcv Tryz.prog 215 3 = .int .i64 := by kernel_rfl
@[go_sem] theorem tcv_215_31 : tcv Tryz.prog 215 31 = .int .i64 := by kernel_rfl
@[go_sem] theorem tcv_215_5 : tcv Tryz.prog 215 5 = .int .u8 := by kernel_rfl
@[go_sem] theorem tcv_215_12 : tcv Tryz.prog 215 12 = .int .u64 := by kernel_rfl
@[go_sem] theorem tcv_215_213 : tcv Tryz.prog 215 213 = .int .u64 := by kernel_rfl
@[go_sem] theorem tcv_215_215 : tcv Tryz.prog 215 215 = .int .u64 := by kernel_rfl
@[go_sem] theorem tcv_215_21 : tcv Tryz.prog 215 21 = .int .i32 := by kernel_rfl
@[go_sem] theorem tcv_215_224 : tcv Tryz.prog 215 224 = .int .u32 := by kernel_rfl
@[go_sem] theorem tcv_21_2 : tcv Tryz.prog 21 2 = .int .i64 := by kernel_rfl
@[go_sem] theorem tcv_21_3 : tcv Tryz.prog 21 3 = .int .i64 := by kernel_rfl
@[go_sem] theorem tcv_21_31 : tcv Tryz.prog 21 31 = .int .i64 := by kernel_rfl
@[go_sem] theorem tcv_21_5 : tcv Tryz.prog 21 5 = .int .u8 := by kernel_rfl
@[go_sem] theorem tcv_21_12 : tcv Tryz.prog 21 12 = .int .u64 := by kernel_rfl
@[go_sem] theorem tcv_21_213 : tcv Tryz.prog 21 213 = .int .u64 := by kernel_rfl
@[go_sem] theorem tcv_21_215 : tcv Tryz.prog 21 215 = .int .u64 := by kernel_rfl
@[go_sem] theorem tcv_21_21 : tcv Tryz.prog 21 21 = .int .i32 := by kernel_rfl
@[go_sem] theorem tcv_21_224 : tcv Tryz.prog 21 224 = .int .u32 := by kernel_rfl
@[go_sem] theorem tcv_224_2 : tcv Tryz.prog 224 2 = .int .i64 := by kernel_rfl
@[go_sem] theorem tcv_224_3 : tcv Tryz.prog 224 3 = .int .i64 := by kernel_rfl
@[go_sem] theorem tcv_224_31 : tcv Tryz.prog 224 31 = .int .i64 := by kernel_rfl
@[go_sem] theorem tcv_224_5 : tcv Tryz.prog 224 5 = .int .u8 := by kernel_rfl
@[go_sem] theorem tcv_224_12 : tcv Tryz.prog 224 12 = .int .u64 := by kernel_rfl
@[go_sem] theorem tcv_224_213 : tcv Tryz.prog 224 213 = .int .u64 := by kernel_rfl
@[go_sem] theorem tcv_224_215 : tcv Tryz.prog 224 215 = .int .u64 := by kernel_rfl
@[go_sem] theorem tcv_224_21 : tcv Tryz.prog 224 21 = .int .i32 := by kernel_rfl
@[go_sem] theorem tcv_224_224 : tcv Tryz.prog 224 224 = .int .u32 := by kernel_rfl
@[go_sem] theorem tcv_9_9 : tcv Tryz.prog 9 9 = .same := by kernel_rfl
end Go.Proofs.YtbojhapdidieoaaGreat
