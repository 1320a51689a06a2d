/- Facts on the table of types of this seat, printed by program: one rule a fact. -/
import Derived.Test.YtcomkajmhlhphaaGreatProg
import Derived.Test.YtcomkajmhlhphaaGreatPlF
import Derived.KernelRfl
set_option linter.unusedSimpArgs false
set_option linter.unusedVariables false
namespace Go.Proofs.YtcomkajmhlhphaaGreat
open Go.PL
@[go_sem] theorem tkn_2 : tkn Tryz.prog 2 = true := by kernel_rfl
@[go_sem] theorem tsz_2 : tsz Tryz.prog 2 = 1 := by kernel_rfl
@[go_sem] theorem tagg_2 : tagg Tryz.prog 2 = false := by kernel_rfl
@[go_sem] theorem tzero_2 : tzero Tryz.prog 2 = some [.int .i64 0] := by kernel_rfl
@[go_sem] theorem tbdz_2 : aMakeFull.tbdz Tryz.prog 2 = some [.int .i64 0] := by kernel_rfl
@[go_sem] theorem tkn_3 : tkn Tryz.prog 3 = true := by kernel_rfl
@[go_sem] theorem tsz_3 : tsz Tryz.prog 3 = 1 := by kernel_rfl
@[go_sem] theorem tagg_3 : tagg Tryz.prog 3 = false := by kernel_rfl
@[go_sem] theorem tzero_3 : tzero Tryz.prog 3 = some [.int .i64 0] := by kernel_rfl
@[go_sem] theorem tbdz_3 : aMakeFull.tbdz Tryz.prog 3 = some [.int .i64 0] := by kernel_rfl
@[go_sem] theorem tkn_4 : tkn Tryz.prog 4 = true := by kernel_rfl
@[go_sem] theorem tsz_4 : tsz Tryz.prog 4 = 1 := by kernel_rfl
@[go_sem] theorem tagg_4 : tagg Tryz.prog 4 = false := by kernel_rfl
@[go_sem] theorem tzero_4 : tzero Tryz.prog 4 = some [.bool false] := by kernel_rfl
@[go_sem] theorem tbdz_4 : aMakeFull.tbdz Tryz.prog 4 = some [.bool false] := by kernel_rfl
@[go_sem] theorem teqk_4 : teqk Tryz.prog 4 = .bool := by kernel_rfl
@[go_sem] theorem tkn_5 : tkn Tryz.prog 5 = true := by kernel_rfl
@[go_sem] theorem tsz_5 : tsz Tryz.prog 5 = 1 := by kernel_rfl
@[go_sem] theorem tagg_5 : tagg Tryz.prog 5 = false := by kernel_rfl
@[go_sem] theorem tzero_5 : tzero Tryz.prog 5 = some [.int .u8 0] := by kernel_rfl
@[go_sem] theorem tbdz_5 : aMakeFull.tbdz Tryz.prog 5 = some [.int .u8 0] := by kernel_rfl
@[go_sem] theorem tkn_9 : tkn Tryz.prog 9 = true := by kernel_rfl
@[go_sem] theorem tsz_9 : tsz Tryz.prog 9 = 1 := by kernel_rfl
@[go_sem] theorem tagg_9 : tagg Tryz.prog 9 = false := by kernel_rfl
@[go_sem] theorem tzero_9 : tzero Tryz.prog 9 = some [.str []] := by kernel_rfl
@[go_sem] theorem tbdz_9 : aMakeFull.tbdz Tryz.prog 9 = some [.str []] := by kernel_rfl
@[go_sem] theorem tix_9 : tix Tryz.prog 9 = .str := by kernel_rfl
@[go_sem] theorem tlen_9 : tlen Tryz.prog 9 = .str := by kernel_rfl
@[go_sem] theorem tkn_12 : tkn Tryz.prog 12 = true := by kernel_rfl
@[go_sem] theorem tsz_12 : tsz Tryz.prog 12 = 1 := by kernel_rfl
@[go_sem] theorem tagg_12 : tagg Tryz.prog 12 = false := by kernel_rfl
@[go_sem] theorem tzero_12 : tzero Tryz.prog 12 = some [.int .u64 0] := by kernel_rfl
@[go_sem] theorem tbdz_12 : aMakeFull.tbdz Tryz.prog 12 = some [.int .u64 0] := by kernel_rfl
@[go_sem] theorem tkn_21 : tkn Tryz.prog 21 = true := by kernel_rfl
@[go_sem] theorem tsz_21 : tsz Tryz.prog 21 = 1 := by kernel_rfl
@[go_sem] theorem tagg_21 : tagg Tryz.prog 21 = false := by kernel_rfl
@[go_sem] theorem tzero_21 : tzero Tryz.prog 21 = some [.int .i32 0] := by kernel_rfl
@[go_sem] theorem tbdz_21 : aMakeFull.tbdz Tryz.prog 21 = some [.int .i32 0] := by kernel_rfl
@[go_sem] theorem tkn_22 : tkn Tryz.prog 22 = true := by kernel_rfl
@[go_sem] theorem tsz_22 : tsz Tryz.prog 22 = 1 := by kernel_rfl
@[go_sem] theorem tagg_22 : tagg Tryz.prog 22 = false := by kernel_rfl
@[go_sem] theorem tzero_22 : tzero Tryz.prog 22 = some [.sl .nil []] := by kernel_rfl
@[go_sem] theorem tbdz_22 : aMakeFull.tbdz Tryz.prog 22 = some [.sl .nil []] := by kernel_rfl
@[go_sem] theorem tix_22 : tix Tryz.prog 22 = .slc 20 true := by kernel_rfl
@[go_sem] theorem tlen_22 : tlen Tryz.prog 22 = .slc := by kernel_rfl
@[go_sem] theorem teqk_22 : teqk Tryz.prog 22 = .slc := by kernel_rfl
@[go_sem] theorem telem_22 : telem Tryz.prog 22 = some ⟨46, 20, 264⟩ := by kernel_rfl
@[go_sem] theorem tkn_23 : tkn Tryz.prog 23 = true := by kernel_rfl
@[go_sem] theorem tsz_23 : tsz Tryz.prog 23 = 2 := by kernel_rfl
@[go_sem] theorem tagg_23 : tagg Tryz.prog 23 = true := by kernel_rfl
@[go_sem] theorem tzero_23 : tzero Tryz.prog 23 = some [.int .i64 0, .int .i64 0] := by kernel_rfl
@[go_sem] theorem tbdz_23 : aMakeFull.tbdz Tryz.prog 23 = some [.int .i64 0, .int .i64 0] := by kernel_rfl
@[go_sem] theorem tfld_23_0 : tfld Tryz.prog 23 0 = some (0, 1, false) := by kernel_rfl
@[go_sem] theorem tfld_23_1 : tfld Tryz.prog 23 1 = some (1, 1, false) := by kernel_rfl
@[go_sem] theorem tbd_23 : tbd Tryz.prog 23 = .str [(0, 1), (1, 1)] [.int .i64 0, .int .i64 0] := by kernel_rfl
@[go_sem] theorem tleaves_23 : tleaves Tryz.prog 23 = some [.int, .int] := by kernel_rfl
@[go_sem] theorem tkn_24 : tkn Tryz.prog 24 = true := by kernel_rfl
@[go_sem] theorem tsz_24 : tsz Tryz.prog 24 = 2 := by kernel_rfl
@[go_sem] theorem tagg_24 : tagg Tryz.prog 24 = true := by kernel_rfl
@[go_sem] theorem tzero_24 : tzero Tryz.prog 24 = some [.int .i64 0, .int .i64 0] := by kernel_rfl
@[go_sem] theorem tbdz_24 : aMakeFull.tbdz Tryz.prog 24 = some [.int .i64 0, .int .i64 0] := by kernel_rfl
@[go_sem] theorem tfld_24_0 : tfld Tryz.prog 24 0 = some (0, 1, false) := by kernel_rfl
@[go_sem] theorem tfld_24_1 : tfld Tryz.prog 24 1 = some (1, 1, false) := by kernel_rfl
@[go_sem] theorem tbd_24 : tbd Tryz.prog 24 = .str [(0, 1), (1, 1)] [.int .i64 0, .int .i64 0] := by kernel_rfl
@[go_sem] theorem tleaves_24 : tleaves Tryz.prog 24 = some [.int, .int] := by kernel_rfl
@[go_sem] theorem tkn_27 : tkn Tryz.prog 27 = true := by kernel_rfl
@[go_sem] theorem tsz_27 : tsz Tryz.prog 27 = 1 := by kernel_rfl
@[go_sem] theorem tagg_27 : tagg Tryz.prog 27 = false := by kernel_rfl
@[go_sem] theorem tzero_27 : tzero Tryz.prog 27 = some [.nilp] := by kernel_rfl
@[go_sem] theorem tbdz_27 : aMakeFull.tbdz Tryz.prog 27 = some [.nilp] := by kernel_rfl
@[go_sem] theorem teqk_27 : teqk Tryz.prog 27 = .ptr := by kernel_rfl
@[go_sem] theorem tkn_30 : tkn Tryz.prog 30 = true := by kernel_rfl
@[go_sem] theorem tsz_30 : tsz Tryz.prog 30 = 1 := by kernel_rfl
@[go_sem] theorem tagg_30 : tagg Tryz.prog 30 = false := by kernel_rfl
@[go_sem] theorem tzero_30 : tzero Tryz.prog 30 = some [.int .i64 0] := by kernel_rfl
@[go_sem] theorem tbdz_30 : aMakeFull.tbdz Tryz.prog 30 = some [.int .i64 0] := by kernel_rfl
@[go_sem] theorem tkn_37 : tkn Tryz.prog 37 = true := by kernel_rfl
@[go_sem] theorem tsz_37 : tsz Tryz.prog 37 = 3 := by kernel_rfl
@[go_sem] theorem tagg_37 : tagg Tryz.prog 37 = true := by kernel_rfl
@[go_sem] theorem tzero_37 : tzero Tryz.prog 37 = some [.int .i64 0, .str [], .str []] := by kernel_rfl
@[go_sem] theorem tbdz_37 : aMakeFull.tbdz Tryz.prog 37 = some [.int .i64 0, .str [], .str []] := by kernel_rfl
@[go_sem] theorem tfld_37_0 : tfld Tryz.prog 37 0 = some (0, 1, false) := by kernel_rfl
@[go_sem] theorem tfld_37_1 : tfld Tryz.prog 37 1 = some (1, 1, false) := by kernel_rfl
@[go_sem] theorem tfld_37_2 : tfld Tryz.prog 37 2 = some (2, 1, false) := by kernel_rfl
@[go_sem] theorem tbd_37 : tbd Tryz.prog 37 = .str [(0, 1), (1, 1), (2, 1)] [.int .i64 0, .str [], .str []] := by kernel_rfl
@[go_sem] theorem tleaves_37 : tleaves Tryz.prog 37 = some [.int, .str, .str] := by kernel_rfl
@[go_sem] theorem tkn_38 : tkn Tryz.prog 38 = true := by kernel_rfl
@[go_sem] theorem tsz_38 : tsz Tryz.prog 38 = 3 := by kernel_rfl
@[go_sem] theorem tagg_38 : tagg Tryz.prog 38 = true := by kernel_rfl
@[go_sem] theorem tzero_38 : tzero Tryz.prog 38 = some [.int .i64 0, .str [], .str []] := by kernel_rfl
@[go_sem] theorem tbdz_38 : aMakeFull.tbdz Tryz.prog 38 = some [.int .i64 0, .str [], .str []] := by kernel_rfl
@[go_sem] theorem tfld_38_0 : tfld Tryz.prog 38 0 = some (0, 1, false) := by kernel_rfl
@[go_sem] theorem tfld_38_1 : tfld Tryz.prog 38 1 = some (1, 1, false) := by kernel_rfl
@[go_sem] theorem tfld_38_2 : tfld Tryz.prog 38 2 = some (2, 1, false) := by kernel_rfl
@[go_sem] theorem tbd_38 : tbd Tryz.prog 38 = .str [(0, 1), (1, 1), (2, 1)] [.int .i64 0, .str [], .str []] := by kernel_rfl
@[go_sem] theorem tleaves_38 : tleaves Tryz.prog 38 = some [.int, .str, .str] := by kernel_rfl
@[go_sem] theorem tkn_39 : tkn Tryz.prog 39 = true := by kernel_rfl
@[go_sem] theorem tsz_39 : tsz Tryz.prog 39 = 1 := by kernel_rfl
@[go_sem] theorem tagg_39 : tagg Tryz.prog 39 = false := by kernel_rfl
@[go_sem] theorem tzero_39 : tzero Tryz.prog 39 = some [.sl .nil []] := by kernel_rfl
@[go_sem] theorem tbdz_39 : aMakeFull.tbdz Tryz.prog 39 = some [.sl .nil []] := by kernel_rfl
@[go_sem] theorem tix_39 : tix Tryz.prog 39 = .slc 1 false := by kernel_rfl
@[go_sem] theorem tlen_39 : tlen Tryz.prog 39 = .slc := by kernel_rfl
@[go_sem] theorem teqk_39 : teqk Tryz.prog 39 = .slc := by kernel_rfl
@[go_sem] theorem telem_39 : telem Tryz.prog 39 = some ⟨9, 1, 16⟩ := by kernel_rfl
@[go_sem] theorem tkn_40 : tkn Tryz.prog 40 = true := by kernel_rfl
@[go_sem] theorem tsz_40 : tsz Tryz.prog 40 = 7 := by kernel_rfl
@[go_sem] theorem tagg_40 : tagg Tryz.prog 40 = true := by kernel_rfl
@[go_sem] theorem tzero_40 : tzero Tryz.prog 40 = some [.int .i64 0, .str [], .str [], .int .i64 0, .str [], .sl .nil [], .int .i64 0] := by kernel_rfl
@[go_sem] theorem tbdz_40 : aMakeFull.tbdz Tryz.prog 40 = some [.int .i64 0, .str [], .str [], .int .i64 0, .str [], .sl .nil [], .int .i64 0] := by kernel_rfl
@[go_sem] theorem tfld_40_0 : tfld Tryz.prog 40 0 = some (0, 3, true) := by kernel_rfl
@[go_sem] theorem tfld_40_1 : tfld Tryz.prog 40 1 = some (3, 1, false) := by kernel_rfl
@[go_sem] theorem tfld_40_2 : tfld Tryz.prog 40 2 = some (4, 1, false) := by kernel_rfl
@[go_sem] theorem tfld_40_3 : tfld Tryz.prog 40 3 = some (5, 1, false) := by kernel_rfl
@[go_sem] theorem tfld_40_4 : tfld Tryz.prog 40 4 = some (6, 1, false) := by kernel_rfl
@[go_sem] theorem tbd_40 : tbd Tryz.prog 40 = .str [(0, 3), (3, 1), (4, 1), (5, 1), (6, 1)] [.int .i64 0, .str [], .str [], .int .i64 0, .str [], .sl .nil [], .int .i64 0] := by kernel_rfl
@[go_sem] theorem tkn_41 : tkn Tryz.prog 41 = true := by kernel_rfl
@[go_sem] theorem tsz_41 : tsz Tryz.prog 41 = 7 := by kernel_rfl
@[go_sem] theorem tagg_41 : tagg Tryz.prog 41 = true := by kernel_rfl
@[go_sem] theorem tzero_41 : tzero Tryz.prog 41 = some [.int .i64 0, .str [], .str [], .int .i64 0, .str [], .sl .nil [], .int .i64 0] := by kernel_rfl
@[go_sem] theorem tbdz_41 : aMakeFull.tbdz Tryz.prog 41 = some [.int .i64 0, .str [], .str [], .int .i64 0, .str [], .sl .nil [], .int .i64 0] := by kernel_rfl
@[go_sem] theorem tfld_41_0 : tfld Tryz.prog 41 0 = some (0, 3, true) := by kernel_rfl
@[go_sem] theorem tfld_41_1 : tfld Tryz.prog 41 1 = some (3, 1, false) := by kernel_rfl
@[go_sem] theorem tfld_41_2 : tfld Tryz.prog 41 2 = some (4, 1, false) := by kernel_rfl
@[go_sem] theorem tfld_41_3 : tfld Tryz.prog 41 3 = some (5, 1, false) := by kernel_rfl
@[go_sem] theorem tfld_41_4 : tfld Tryz.prog 41 4 = some (6, 1, false) := by kernel_rfl
@[go_sem] theorem tbd_41 : tbd Tryz.prog 41 = .str [(0, 3), (3, 1), (4, 1), (5, 1), (6, 1)] [.int .i64 0, .str [], .str [], .int .i64 0, .str [], .sl .nil [], .int .i64 0] := by kernel_rfl
@[go_sem] theorem tkn_42 : tkn Tryz.prog 42 = true := by kernel_rfl
@[go_sem] theorem tsz_42 : tsz Tryz.prog 42 = 1 := by kernel_rfl
@[go_sem] theorem tagg_42 : tagg Tryz.prog 42 = false := by kernel_rfl
@[go_sem] theorem tzero_42 : tzero Tryz.prog 42 = some [.sl .nil []] := by kernel_rfl
@[go_sem] theorem tbdz_42 : aMakeFull.tbdz Tryz.prog 42 = some [.sl .nil []] := by kernel_rfl
@[go_sem] theorem tix_42 : tix Tryz.prog 42 = .slc 2 true := by kernel_rfl
@[go_sem] theorem tlen_42 : tlen Tryz.prog 42 = .slc := by kernel_rfl
@[go_sem] theorem teqk_42 : teqk Tryz.prog 42 = .slc := by kernel_rfl
@[go_sem] theorem telem_42 : telem Tryz.prog 42 = some ⟨123, 2, 32⟩ := by kernel_rfl
@[go_sem] theorem tkn_43 : tkn Tryz.prog 43 = true := by kernel_rfl
@[go_sem] theorem tsz_43 : tsz Tryz.prog 43 = 16 := by kernel_rfl
@[go_sem] theorem tagg_43 : tagg Tryz.prog 43 = true := by kernel_rfl
@[go_sem] theorem tzero_43 : tzero Tryz.prog 43 = some [.int .i64 0, .int .i64 0, .str [], .str [], .str [], .str [], .int .i64 0, .int .i64 0, .str [], .str [], .int .i64 0, .str [], .sl .nil [], .int .i64 0, .sl .nil [], .sl .nil []] := by kernel_rfl
@[go_sem] theorem tbdz_43 : aMakeFull.tbdz Tryz.prog 43 = some [.int .i64 0, .int .i64 0, .str [], .str [], .str [], .str [], .int .i64 0, .int .i64 0, .str [], .str [], .int .i64 0, .str [], .sl .nil [], .int .i64 0, .sl .nil [], .sl .nil []] := by kernel_rfl
@[go_sem] theorem tfld_43_0 : tfld Tryz.prog 43 0 = some (0, 1, false) := by kernel_rfl
@[go_sem] theorem tfld_43_1 : tfld Tryz.prog 43 1 = some (1, 3, true) := by kernel_rfl
@[go_sem] theorem tfld_43_2 : tfld Tryz.prog 43 2 = some (4, 1, false) := by kernel_rfl
@[go_sem] theorem tfld_43_3 : tfld Tryz.prog 43 3 = some (5, 1, false) := by kernel_rfl
@[go_sem] theorem tfld_43_4 : tfld Tryz.prog 43 4 = some (6, 1, false) := by kernel_rfl
@[go_sem] theorem tfld_43_5 : tfld Tryz.prog 43 5 = some (7, 7, true) := by kernel_rfl
@[go_sem] theorem tfld_43_6 : tfld Tryz.prog 43 6 = some (14, 1, false) := by kernel_rfl
@[go_sem] theorem tfld_43_7 : tfld Tryz.prog 43 7 = some (15, 1, false) := by kernel_rfl
@[go_sem] theorem tbd_43 : tbd Tryz.prog 43 = .str [(0, 1), (1, 3), (4, 1), (5, 1), (6, 1), (7, 7), (14, 1), (15, 1)] [.int .i64 0, .int .i64 0, .str [], .str [], .str [], .str [], .int .i64 0, .int .i64 0, .str [], .str [], .int .i64 0, .str [], .sl .nil [], .int .i64 0, .sl .nil [], .sl .nil []] := by kernel_rfl
@[go_sem] theorem tkn_44 : tkn Tryz.prog 44 = true := by kernel_rfl
@[go_sem] theorem tsz_44 : tsz Tryz.prog 44 = 16 := by kernel_rfl
@[go_sem] theorem tagg_44 : tagg Tryz.prog 44 = true := by kernel_rfl
@[go_sem] theorem tzero_44 : tzero Tryz.prog 44 = some [.int .i64 0, .int .i64 0, .str [], .str [], .str [], .str [], .int .i64 0, .int .i64 0, .str [], .str [], .int .i64 0, .str [], .sl .nil [], .int .i64 0, .sl .nil [], .sl .nil []] := by kernel_rfl
@[go_sem] theorem tbdz_44 : aMakeFull.tbdz Tryz.prog 44 = some [.int .i64 0, .int .i64 0, .str [], .str [], .str [], .str [], .int .i64 0, .int .i64 0, .str [], .str [], .int .i64 0, .str [], .sl .nil [], .int .i64 0, .sl .nil [], .sl .nil []] := by kernel_rfl
@[go_sem] theorem tfld_44_0 : tfld Tryz.prog 44 0 = some (0, 1, false) := by kernel_rfl
@[go_sem] theorem tfld_44_1 : tfld Tryz.prog 44 1 = some (1, 3, true) := by kernel_rfl
@[go_sem] theorem tfld_44_2 : tfld Tryz.prog 44 2 = some (4, 1, false) := by kernel_rfl
@[go_sem] theorem tfld_44_3 : tfld Tryz.prog 44 3 = some (5, 1, false) := by kernel_rfl
@[go_sem] theorem tfld_44_4 : tfld Tryz.prog 44 4 = some (6, 1, false) := by kernel_rfl
@[go_sem] theorem tfld_44_5 : tfld Tryz.prog 44 5 = some (7, 7, true) := by kernel_rfl
@[go_sem] theorem tfld_44_6 : tfld Tryz.prog 44 6 = some (14, 1, false) := by kernel_rfl
@[go_sem] theorem tfld_44_7 : tfld Tryz.prog 44 7 = some (15, 1, false) := by kernel_rfl
@[go_sem] theorem tbd_44 : tbd Tryz.prog 44 = .str [(0, 1), (1, 3), (4, 1), (5, 1), (6, 1), (7, 7), (14, 1), (15, 1)] [.int .i64 0, .int .i64 0, .str [], .str [], .str [], .str [], .int .i64 0, .int .i64 0, .str [], .str [], .int .i64 0, .str [], .sl .nil [], .int .i64 0, .sl .nil [], .sl .nil []] := by kernel_rfl
@[go_sem] theorem tkn_45 : tkn Tryz.prog 45 = true := by kernel_rfl
@[go_sem] theorem tsz_45 : tsz Tryz.prog 45 = 20 := by kernel_rfl
@[go_sem] theorem tagg_45 : tagg Tryz.prog 45 = true := by kernel_rfl
@[go_sem] theorem tzero_45 : tzero Tryz.prog 45 = some [.int .i64 0, .int .i64 0, .int .i64 0, .int .i64 0, .int .i64 0, .int .i64 0, .str [], .str [], .str [], .str [], .int .i64 0, .int .i64 0, .str [], .str [], .int .i64 0, .str [], .sl .nil [], .int .i64 0, .sl .nil [], .sl .nil []] := by kernel_rfl
@[go_sem] theorem tbdz_45 : aMakeFull.tbdz Tryz.prog 45 = some [.int .i64 0, .int .i64 0, .int .i64 0, .int .i64 0, .int .i64 0, .int .i64 0, .str [], .str [], .str [], .str [], .int .i64 0, .int .i64 0, .str [], .str [], .int .i64 0, .str [], .sl .nil [], .int .i64 0, .sl .nil [], .sl .nil []] := by kernel_rfl
@[go_sem] theorem tfld_45_0 : tfld Tryz.prog 45 0 = some (0, 2, true) := by kernel_rfl
@[go_sem] theorem tfld_45_1 : tfld Tryz.prog 45 1 = some (2, 2, true) := by kernel_rfl
@[go_sem] theorem tfld_45_2 : tfld Tryz.prog 45 2 = some (4, 16, true) := by kernel_rfl
@[go_sem] theorem tbd_45 : tbd Tryz.prog 45 = .str [(0, 2), (2, 2), (4, 16)] [.int .i64 0, .int .i64 0, .int .i64 0, .int .i64 0, .int .i64 0, .int .i64 0, .str [], .str [], .str [], .str [], .int .i64 0, .int .i64 0, .str [], .str [], .int .i64 0, .str [], .sl .nil [], .int .i64 0, .sl .nil [], .sl .nil []] := by kernel_rfl
@[go_sem] theorem tkn_46 : tkn Tryz.prog 46 = true := by kernel_rfl
@[go_sem] theorem tsz_46 : tsz Tryz.prog 46 = 20 := by kernel_rfl
@[go_sem] theorem tagg_46 : tagg Tryz.prog 46 = true := by kernel_rfl
@[go_sem] theorem tzero_46 : tzero Tryz.prog 46 = some [.int .i64 0, .int .i64 0, .int .i64 0, .int .i64 0, .int .i64 0, .int .i64 0, .str [], .str [], .str [], .str [], .int .i64 0, .int .i64 0, .str [], .str [], .int .i64 0, .str [], .sl .nil [], .int .i64 0, .sl .nil [], .sl .nil []] := by kernel_rfl
@[go_sem] theorem tbdz_46 : aMakeFull.tbdz Tryz.prog 46 = some [.int .i64 0, .int .i64 0, .int .i64 0, .int .i64 0, .int .i64 0, .int .i64 0, .str [], .str [], .str [], .str [], .int .i64 0, .int .i64 0, .str [], .str [], .int .i64 0, .str [], .sl .nil [], .int .i64 0, .sl .nil [], .sl .nil []] := by kernel_rfl
@[go_sem] theorem tfld_46_0 : tfld Tryz.prog 46 0 = some (0, 2, true) := by kernel_rfl
@[go_sem] theorem tfld_46_1 : tfld Tryz.prog 46 1 = some (2, 2, true) := by kernel_rfl
@[go_sem] theorem tfld_46_2 : tfld Tryz.prog 46 2 = some (4, 16, true) := by kernel_rfl
@[go_sem] theorem tbd_46 : tbd Tryz.prog 46 = .str [(0, 2), (2, 2), (4, 16)] [.int .i64 0, .int .i64 0, .int .i64 0, .int .i64 0, .int .i64 0, .int .i64 0, .str [], .str [], .str [], .str [], .int .i64 0, .int .i64 0, .str [], .str [], .int .i64 0, .str [], .sl .nil [], .int .i64 0, .sl .nil [], .sl .nil []] := by kernel_rfl
@[go_sem] theorem tkn_47 : tkn Tryz.prog 47 = true := by kernel_rfl
@[go_sem] theorem tsz_47 : tsz Tryz.prog 47 = 1 := by kernel_rfl
@[go_sem] theorem tagg_47 : tagg Tryz.prog 47 = false := by kernel_rfl
@[go_sem] theorem tzero_47 : tzero Tryz.prog 47 = some [.sl .nil []] := by kernel_rfl
@[go_sem] theorem tbdz_47 : aMakeFull.tbdz Tryz.prog 47 = some [.sl .nil []] := by kernel_rfl
@[go_sem] theorem tix_47 : tix Tryz.prog 47 = .slc 7 true := by kernel_rfl
@[go_sem] theorem tlen_47 : tlen Tryz.prog 47 = .slc := by kernel_rfl
@[go_sem] theorem teqk_47 : teqk Tryz.prog 47 = .slc := by kernel_rfl
@[go_sem] theorem telem_47 : telem Tryz.prog 47 = some ⟨53, 7, 88⟩ := by kernel_rfl
@[go_sem] theorem tkn_52 : tkn Tryz.prog 52 = true := by kernel_rfl
@[go_sem] theorem tsz_52 : tsz Tryz.prog 52 = 7 := by kernel_rfl
@[go_sem] theorem tagg_52 : tagg Tryz.prog 52 = true := by kernel_rfl
@[go_sem] theorem tzero_52 : tzero Tryz.prog 52 = some [.int .i64 0, .int .i64 0, .str [], .str [], .int .i64 0, .str [], .str []] := by kernel_rfl
@[go_sem] theorem tbdz_52 : aMakeFull.tbdz Tryz.prog 52 = some [.int .i64 0, .int .i64 0, .str [], .str [], .int .i64 0, .str [], .str []] := by kernel_rfl
@[go_sem] theorem tfld_52_0 : tfld Tryz.prog 52 0 = some (0, 1, false) := by kernel_rfl
@[go_sem] theorem tfld_52_1 : tfld Tryz.prog 52 1 = some (1, 3, true) := by kernel_rfl
@[go_sem] theorem tfld_52_2 : tfld Tryz.prog 52 2 = some (4, 3, true) := by kernel_rfl
@[go_sem] theorem tbd_52 : tbd Tryz.prog 52 = .str [(0, 1), (1, 3), (4, 3)] [.int .i64 0, .int .i64 0, .str [], .str [], .int .i64 0, .str [], .str []] := by kernel_rfl
@[go_sem] theorem tleaves_52 : tleaves Tryz.prog 52 = some [.int, .int, .str, .str, .int, .str, .str] := by kernel_rfl
@[go_sem] theorem tkn_53 : tkn Tryz.prog 53 = true := by kernel_rfl
@[go_sem] theorem tsz_53 : tsz Tryz.prog 53 = 7 := by kernel_rfl
@[go_sem] theorem tagg_53 : tagg Tryz.prog 53 = true := by kernel_rfl
@[go_sem] theorem tzero_53 : tzero Tryz.prog 53 = some [.int .i64 0, .int .i64 0, .str [], .str [], .int .i64 0, .str [], .str []] := by kernel_rfl
@[go_sem] theorem tbdz_53 : aMakeFull.tbdz Tryz.prog 53 = some [.int .i64 0, .int .i64 0, .str [], .str [], .int .i64 0, .str [], .str []] := by kernel_rfl
@[go_sem] theorem tfld_53_0 : tfld Tryz.prog 53 0 = some (0, 1, false) := by kernel_rfl
@[go_sem] theorem tfld_53_1 : tfld Tryz.prog 53 1 = some (1, 3, true) := by kernel_rfl
@[go_sem] theorem tfld_53_2 : tfld Tryz.prog 53 2 = some (4, 3, true) := by kernel_rfl
@[go_sem] theorem tbd_53 : tbd Tryz.prog 53 = .str [(0, 1), (1, 3), (4, 3)] [.int .i64 0, .int .i64 0, .str [], .str [], .int .i64 0, .str [], .str []] := by kernel_rfl
@[go_sem] theorem tleaves_53 : tleaves Tryz.prog 53 = some [.int, .int, .str, .str, .int, .str, .str] := by kernel_rfl
@[go_sem] theorem tkn_57 : tkn Tryz.prog 57 = true := by kernel_rfl
@[go_sem] theorem tsz_57 : tsz Tryz.prog 57 = 1 := by kernel_rfl
@[go_sem] theorem tagg_57 : tagg Tryz.prog 57 = false := by kernel_rfl
@[go_sem] theorem tzero_57 : tzero Tryz.prog 57 = some [.sl .nil []] := by kernel_rfl
@[go_sem] theorem tbdz_57 : aMakeFull.tbdz Tryz.prog 57 = some [.sl .nil []] := by kernel_rfl
@[go_sem] theorem tix_57 : tix Tryz.prog 57 = .slc 7 true := by kernel_rfl
@[go_sem] theorem tlen_57 : tlen Tryz.prog 57 = .slc := by kernel_rfl
@[go_sem] theorem teqk_57 : teqk Tryz.prog 57 = .slc := by kernel_rfl
@[go_sem] theorem telem_57 : telem Tryz.prog 57 = some ⟨41, 7, 96⟩ := by kernel_rfl
@[go_sem] theorem tkn_60 : tkn Tryz.prog 60 = true := by kernel_rfl
@[go_sem] theorem tsz_60 : tsz Tryz.prog 60 = 1 := by kernel_rfl
@[go_sem] theorem tagg_60 : tagg Tryz.prog 60 = false := by kernel_rfl
@[go_sem] theorem tzero_60 : tzero Tryz.prog 60 = some [.sl .nil []] := by kernel_rfl
@[go_sem] theorem tbdz_60 : aMakeFull.tbdz Tryz.prog 60 = some [.sl .nil []] := by kernel_rfl
@[go_sem] theorem tix_60 : tix Tryz.prog 60 = .slc 2 true := by kernel_rfl
@[go_sem] theorem tlen_60 : tlen Tryz.prog 60 = .slc := by kernel_rfl
@[go_sem] theorem teqk_60 : teqk Tryz.prog 60 = .slc := by kernel_rfl
@[go_sem] theorem telem_60 : telem Tryz.prog 60 = some ⟨24, 2, 16⟩ := by kernel_rfl
@[go_sem] theorem tkn_67 : tkn Tryz.prog 67 = true := by kernel_rfl
@[go_sem] theorem tsz_67 : tsz Tryz.prog 67 = 1 := by kernel_rfl
@[go_sem] theorem tagg_67 : tagg Tryz.prog 67 = false := by kernel_rfl
@[go_sem] theorem tzero_67 : tzero Tryz.prog 67 = some [.sl .nil []] := by kernel_rfl
@[go_sem] theorem tbdz_67 : aMakeFull.tbdz Tryz.prog 67 = some [.sl .nil []] := by kernel_rfl
@[go_sem] theorem tix_67 : tix Tryz.prog 67 = .slc 3 true := by kernel_rfl
@[go_sem] theorem tlen_67 : tlen Tryz.prog 67 = .slc := by kernel_rfl
@[go_sem] theorem teqk_67 : teqk Tryz.prog 67 = .slc := by kernel_rfl
@[go_sem] theorem telem_67 : telem Tryz.prog 67 = some ⟨111, 3, 24⟩ := by kernel_rfl
@[go_sem] theorem tkn_71 : tkn Tryz.prog 71 = true := by kernel_rfl
@[go_sem] theorem tsz_71 : tsz Tryz.prog 71 = 1 := by kernel_rfl
@[go_sem] theorem tagg_71 : tagg Tryz.prog 71 = false := by kernel_rfl
@[go_sem] theorem tzero_71 : tzero Tryz.prog 71 = some [.nilmap] := by kernel_rfl
@[go_sem] theorem tbdz_71 : aMakeFull.tbdz Tryz.prog 71 = some [.nilmap] := by kernel_rfl
@[go_sem] theorem teqk_71 : teqk Tryz.prog 71 = .map := by kernel_rfl
@[go_sem] theorem tmapB_71 : tmapB Tryz.prog 71 = true := by kernel_rfl
@[go_sem] theorem tmap_71 : tmap Tryz.prog 71 = some ([.int, .int], .agg [.int .i64 0, .int .i64 0, .int .i64 0, .int .i64 0, .int .i64 0, .int .i64 0, .str [], .str [], .str [], .str [], .int .i64 0, .int .i64 0, .str [], .str [], .int .i64 0, .str [], .sl .nil [], .int .i64 0, .sl .nil [], .sl .nil [], .int .i64 0, .sl .nil [], .int .i64 0]) := by kernel_rfl
@[go_sem] theorem tkn_72 : tkn Tryz.prog 72 = true := by kernel_rfl
@[go_sem] theorem tsz_72 : tsz Tryz.prog 72 = 1 := by kernel_rfl
@[go_sem] theorem tagg_72 : tagg Tryz.prog 72 = true := by kernel_rfl
@[go_sem] theorem tzero_72 : tzero Tryz.prog 72 = some [.nilmap] := by kernel_rfl
@[go_sem] theorem tbdz_72 : aMakeFull.tbdz Tryz.prog 72 = some [.nilmap] := by kernel_rfl
@[go_sem] theorem tfld_72_0 : tfld Tryz.prog 72 0 = some (0, 1, false) := by kernel_rfl
@[go_sem] theorem tbd_72 : tbd Tryz.prog 72 = .str [(0, 1)] [.nilmap] := by kernel_rfl
@[go_sem] theorem tkn_73 : tkn Tryz.prog 73 = true := by kernel_rfl
@[go_sem] theorem tsz_73 : tsz Tryz.prog 73 = 1 := by kernel_rfl
@[go_sem] theorem tagg_73 : tagg Tryz.prog 73 = true := by kernel_rfl
@[go_sem] theorem tzero_73 : tzero Tryz.prog 73 = some [.nilmap] := by kernel_rfl
@[go_sem] theorem tbdz_73 : aMakeFull.tbdz Tryz.prog 73 = some [.nilmap] := by kernel_rfl
@[go_sem] theorem tfld_73_0 : tfld Tryz.prog 73 0 = some (0, 1, false) := by kernel_rfl
@[go_sem] theorem tbd_73 : tbd Tryz.prog 73 = .str [(0, 1)] [.nilmap] := by kernel_rfl
@[go_sem] theorem tkn_75 : tkn Tryz.prog 75 = true := by kernel_rfl
@[go_sem] theorem tsz_75 : tsz Tryz.prog 75 = 23 := by kernel_rfl
@[go_sem] theorem tagg_75 : tagg Tryz.prog 75 = true := by kernel_rfl
@[go_sem] theorem tzero_75 : tzero Tryz.prog 75 = some [.int .i64 0, .int .i64 0, .int .i64 0, .int .i64 0, .int .i64 0, .int .i64 0, .str [], .str [], .str [], .str [], .int .i64 0, .int .i64 0, .str [], .str [], .int .i64 0, .str [], .sl .nil [], .int .i64 0, .sl .nil [], .sl .nil [], .int .i64 0, .sl .nil [], .int .i64 0] := by kernel_rfl
@[go_sem] theorem tbdz_75 : aMakeFull.tbdz Tryz.prog 75 = some [.int .i64 0, .int .i64 0, .int .i64 0, .int .i64 0, .int .i64 0, .int .i64 0, .str [], .str [], .str [], .str [], .int .i64 0, .int .i64 0, .str [], .str [], .int .i64 0, .str [], .sl .nil [], .int .i64 0, .sl .nil [], .sl .nil [], .int .i64 0, .sl .nil [], .int .i64 0] := by kernel_rfl
@[go_sem] theorem tfld_75_0 : tfld Tryz.prog 75 0 = some (0, 20, true) := by kernel_rfl
@[go_sem] theorem tfld_75_1 : tfld Tryz.prog 75 1 = some (20, 1, false) := by kernel_rfl
@[go_sem] theorem tfld_75_2 : tfld Tryz.prog 75 2 = some (21, 1, false) := by kernel_rfl
@[go_sem] theorem tfld_75_3 : tfld Tryz.prog 75 3 = some (22, 1, false) := by kernel_rfl
@[go_sem] theorem tbd_75 : tbd Tryz.prog 75 = .str [(0, 20), (20, 1), (21, 1), (22, 1)] [.int .i64 0, .int .i64 0, .int .i64 0, .int .i64 0, .int .i64 0, .int .i64 0, .str [], .str [], .str [], .str [], .int .i64 0, .int .i64 0, .str [], .str [], .int .i64 0, .str [], .sl .nil [], .int .i64 0, .sl .nil [], .sl .nil [], .int .i64 0, .sl .nil [], .int .i64 0] := by kernel_rfl
@[go_sem] theorem tkn_76 : tkn Tryz.prog 76 = true := by kernel_rfl
@[go_sem] theorem tsz_76 : tsz Tryz.prog 76 = 23 := by kernel_rfl
@[go_sem] theorem tagg_76 : tagg Tryz.prog 76 = true := by kernel_rfl
@[go_sem] theorem tzero_76 : tzero Tryz.prog 76 = some [.int .i64 0, .int .i64 0, .int .i64 0, .int .i64 0, .int .i64 0, .int .i64 0, .str [], .str [], .str [], .str [], .int .i64 0, .int .i64 0, .str [], .str [], .int .i64 0, .str [], .sl .nil [], .int .i64 0, .sl .nil [], .sl .nil [], .int .i64 0, .sl .nil [], .int .i64 0] := by kernel_rfl
@[go_sem] theorem tbdz_76 : aMakeFull.tbdz Tryz.prog 76 = some [.int .i64 0, .int .i64 0, .int .i64 0, .int .i64 0, .int .i64 0, .int .i64 0, .str [], .str [], .str [], .str [], .int .i64 0, .int .i64 0, .str [], .str [], .int .i64 0, .str [], .sl .nil [], .int .i64 0, .sl .nil [], .sl .nil [], .int .i64 0, .sl .nil [], .int .i64 0] := by kernel_rfl
@[go_sem] theorem tfld_76_0 : tfld Tryz.prog 76 0 = some (0, 20, true) := by kernel_rfl
@[go_sem] theorem tfld_76_1 : tfld Tryz.prog 76 1 = some (20, 1, false) := by kernel_rfl
@[go_sem] theorem tfld_76_2 : tfld Tryz.prog 76 2 = some (21, 1, false) := by kernel_rfl
@[go_sem] theorem tfld_76_3 : tfld Tryz.prog 76 3 = some (22, 1, false) := by kernel_rfl
@[go_sem] theorem tbd_76 : tbd Tryz.prog 76 = .str [(0, 20), (20, 1), (21, 1), (22, 1)] [.int .i64 0, .int .i64 0, .int .i64 0, .int .i64 0, .int .i64 0, .int .i64 0, .str [], .str [], .str [], .str [], .int .i64 0, .int .i64 0, .str [], .str [], .int .i64 0, .str [], .sl .nil [], .int .i64 0, .sl .nil [], .sl .nil [], .int .i64 0, .sl .nil [], .int .i64 0] := by kernel_rfl
@[go_sem] theorem tkn_82 : tkn Tryz.prog 82 = true := by kernel_rfl
@[go_sem] theorem tsz_82 : tsz Tryz.prog 82 = 1 := by kernel_rfl
@[go_sem] theorem tagg_82 : tagg Tryz.prog 82 = false := by kernel_rfl
@[go_sem] theorem tzero_82 : tzero Tryz.prog 82 = some [.nilmap] := by kernel_rfl
@[go_sem] theorem tbdz_82 : aMakeFull.tbdz Tryz.prog 82 = some [.nilmap] := by kernel_rfl
@[go_sem] theorem teqk_82 : teqk Tryz.prog 82 = .map := by kernel_rfl
@[go_sem] theorem tmapB_82 : tmapB Tryz.prog 82 = true := by kernel_rfl
@[go_sem] theorem tmap_82 : tmap Tryz.prog 82 = some ([.int, .str, .str], .agg []) := by kernel_rfl
@[go_sem] theorem tkn_85 : tkn Tryz.prog 85 = true := by kernel_rfl
@[go_sem] theorem tsz_85 : tsz Tryz.prog 85 = 0 := by kernel_rfl
@[go_sem] theorem tagg_85 : tagg Tryz.prog 85 = true := by kernel_rfl
@[go_sem] theorem tzero_85 : tzero Tryz.prog 85 = some [] := by kernel_rfl
@[go_sem] theorem tbdz_85 : aMakeFull.tbdz Tryz.prog 85 = some [] := by kernel_rfl
@[go_sem] theorem tbd_85 : tbd Tryz.prog 85 = .str [] [] := by kernel_rfl
@[go_sem] theorem tkn_100 : tkn Tryz.prog 100 = true := by kernel_rfl
@[go_sem] theorem tsz_100 : tsz Tryz.prog 100 = 1 := by kernel_rfl
@[go_sem] theorem tagg_100 : tagg Tryz.prog 100 = false := by kernel_rfl
@[go_sem] theorem tzero_100 : tzero Tryz.prog 100 = some [.sl .nil []] := by kernel_rfl
@[go_sem] theorem tbdz_100 : aMakeFull.tbdz Tryz.prog 100 = some [.sl .nil []] := by kernel_rfl
@[go_sem] theorem tix_100 : tix Tryz.prog 100 = .slc 16 true := by kernel_rfl
@[go_sem] theorem tlen_100 : tlen Tryz.prog 100 = .slc := by kernel_rfl
@[go_sem] theorem teqk_100 : teqk Tryz.prog 100 = .slc := by kernel_rfl
@[go_sem] theorem telem_100 : telem Tryz.prog 100 = some ⟨44, 16, 232⟩ := by kernel_rfl
@[go_sem] theorem tkn_103 : tkn Tryz.prog 103 = true := by kernel_rfl
@[go_sem] theorem tsz_103 : tsz Tryz.prog 103 = 1 := by kernel_rfl
@[go_sem] theorem tagg_103 : tagg Tryz.prog 103 = false := by kernel_rfl
@[go_sem] theorem tzero_103 : tzero Tryz.prog 103 = some [.sl .nil []] := by kernel_rfl
@[go_sem] theorem tbdz_103 : aMakeFull.tbdz Tryz.prog 103 = some [.sl .nil []] := by kernel_rfl
@[go_sem] theorem tix_103 : tix Tryz.prog 103 = .slc 3 true := by kernel_rfl
@[go_sem] theorem tlen_103 : tlen Tryz.prog 103 = .slc := by kernel_rfl
@[go_sem] theorem teqk_103 : teqk Tryz.prog 103 = .slc := by kernel_rfl
@[go_sem] theorem telem_103 : telem Tryz.prog 103 = some ⟨38, 3, 40⟩ := by kernel_rfl
@[go_sem] theorem tkn_110 : tkn Tryz.prog 110 = true := by kernel_rfl
@[go_sem] theorem tsz_110 : tsz Tryz.prog 110 = 3 := by kernel_rfl
@[go_sem] theorem tagg_110 : tagg Tryz.prog 110 = true := by kernel_rfl
@[go_sem] theorem tzero_110 : tzero Tryz.prog 110 = some [.int .i64 0, .int .i64 0, .bool false] := by kernel_rfl
@[go_sem] theorem tbdz_110 : aMakeFull.tbdz Tryz.prog 110 = some [.int .i64 0, .int .i64 0, .bool false] := by kernel_rfl
@[go_sem] theorem tfld_110_0 : tfld Tryz.prog 110 0 = some (0, 2, true) := by kernel_rfl
@[go_sem] theorem tfld_110_1 : tfld Tryz.prog 110 1 = some (2, 1, false) := by kernel_rfl
@[go_sem] theorem tbd_110 : tbd Tryz.prog 110 = .str [(0, 2), (2, 1)] [.int .i64 0, .int .i64 0, .bool false] := by kernel_rfl
@[go_sem] theorem tleaves_110 : tleaves Tryz.prog 110 = some [.int, .int, .bool] := by kernel_rfl
@[go_sem] theorem tkn_111 : tkn Tryz.prog 111 = true := by kernel_rfl
@[go_sem] theorem tsz_111 : tsz Tryz.prog 111 = 3 := by kernel_rfl
@[go_sem] theorem tagg_111 : tagg Tryz.prog 111 = true := by kernel_rfl
@[go_sem] theorem tzero_111 : tzero Tryz.prog 111 = some [.int .i64 0, .int .i64 0, .bool false] := by kernel_rfl
@[go_sem] theorem tbdz_111 : aMakeFull.tbdz Tryz.prog 111 = some [.int .i64 0, .int .i64 0, .bool false] := by kernel_rfl
@[go_sem] theorem tfld_111_0 : tfld Tryz.prog 111 0 = some (0, 2, true) := by kernel_rfl
@[go_sem] theorem tfld_111_1 : tfld Tryz.prog 111 1 = some (2, 1, false) := by kernel_rfl
@[go_sem] theorem tbd_111 : tbd Tryz.prog 111 = .str [(0, 2), (2, 1)] [.int .i64 0, .int .i64 0, .bool false] := by kernel_rfl
@[go_sem] theorem tleaves_111 : tleaves Tryz.prog 111 = some [.int, .int, .bool] := by kernel_rfl
@[go_sem] theorem tkn_122 : tkn Tryz.prog 122 = true := by kernel_rfl
@[go_sem] theorem tsz_122 : tsz Tryz.prog 122 = 2 := by kernel_rfl
@[go_sem] theorem tagg_122 : tagg Tryz.prog 122 = true := by kernel_rfl
@[go_sem] theorem tzero_122 : tzero Tryz.prog 122 = some [.str [], .str []] := by kernel_rfl
@[go_sem] theorem tbdz_122 : aMakeFull.tbdz Tryz.prog 122 = some [.str [], .str []] := by kernel_rfl
@[go_sem] theorem tfld_122_0 : tfld Tryz.prog 122 0 = some (0, 1, false) := by kernel_rfl
@[go_sem] theorem tfld_122_1 : tfld Tryz.prog 122 1 = some (1, 1, false) := by kernel_rfl
@[go_sem] theorem tbd_122 : tbd Tryz.prog 122 = .str [(0, 1), (1, 1)] [.str [], .str []] := by kernel_rfl
@[go_sem] theorem tleaves_122 : tleaves Tryz.prog 122 = some [.str, .str] := by kernel_rfl
@[go_sem] theorem tkn_123 : tkn Tryz.prog 123 = true := by kernel_rfl
@[go_sem] theorem tsz_123 : tsz Tryz.prog 123 = 2 := by kernel_rfl
@[go_sem] theorem tagg_123 : tagg Tryz.prog 123 = true := by kernel_rfl
@[go_sem] theorem tzero_123 : tzero Tryz.prog 123 = some [.str [], .str []] := by kernel_rfl
@[go_sem] theorem tbdz_123 : aMakeFull.tbdz Tryz.prog 123 = some [.str [], .str []] := by kernel_rfl
@[go_sem] theorem tfld_123_0 : tfld Tryz.prog 123 0 = some (0, 1, false) := by kernel_rfl
@[go_sem] theorem tfld_123_1 : tfld Tryz.prog 123 1 = some (1, 1, false) := by kernel_rfl
@[go_sem] theorem tbd_123 : tbd Tryz.prog 123 = .str [(0, 1), (1, 1)] [.str [], .str []] := by kernel_rfl
@[go_sem] theorem tleaves_123 : tleaves Tryz.prog 123 = some [.str, .str] := by kernel_rfl
@[go_sem] theorem tkn_158 : tkn Tryz.prog 158 = true := by kernel_rfl
@[go_sem] theorem tsz_158 : tsz Tryz.prog 158 = 1 := by kernel_rfl
@[go_sem] theorem tagg_158 : tagg Tryz.prog 158 = false := by kernel_rfl
@[go_sem] theorem tzero_158 : tzero Tryz.prog 158 = some [.int .u64 0] := by kernel_rfl
@[go_sem] theorem tbdz_158 : aMakeFull.tbdz Tryz.prog 158 = some [.int .u64 0] := by kernel_rfl
@[go_sem] theorem tkn_176 : tkn Tryz.prog 176 = true := by kernel_rfl
@[go_sem] theorem tsz_176 : tsz Tryz.prog 176 = 1 := by kernel_rfl
@[go_sem] theorem tagg_176 : tagg Tryz.prog 176 = false := by kernel_rfl
@[go_sem] theorem tzero_176 : tzero Tryz.prog 176 = some [.int .i64 0] := by kernel_rfl
@[go_sem] theorem tbdz_176 : aMakeFull.tbdz Tryz.prog 176 = some [.int .i64 0] := by kernel_rfl
@[go_sem] theorem tkn_184 : tkn Tryz.prog 184 = true := by kernel_rfl
@[go_sem] theorem tsz_184 : tsz Tryz.prog 184 = 1 := by kernel_rfl
@[go_sem] theorem tagg_184 : tagg Tryz.prog 184 = false := by kernel_rfl
@[go_sem] theorem tzero_184 : tzero Tryz.prog 184 = some [.int .u32 0] := by kernel_rfl
@[go_sem] theorem tbdz_184 : aMakeFull.tbdz Tryz.prog 184 = some [.int .u32 0] := by kernel_rfl
@[go_sem] theorem tkn_186 : tkn Tryz.prog 186 = true := by kernel_rfl
@[go_sem] theorem tsz_186 : tsz Tryz.prog 186 = 1 := by kernel_rfl
@[go_sem] theorem tagg_186 : tagg Tryz.prog 186 = false := by kernel_rfl
@[go_sem] theorem tzero_186 : tzero Tryz.prog 186 = some [.int .u64 0] := by kernel_rfl
@[go_sem] theorem tbdz_186 : aMakeFull.tbdz Tryz.prog 186 = some [.int .u64 0] := by kernel_rfl
@[go_sem] theorem tkn_189 : tkn Tryz.prog 189 = true := by kernel_rfl
@[go_sem] theorem tsz_189 : tsz Tryz.prog 189 = 1 := by kernel_rfl
@[go_sem] theorem tagg_189 : tagg Tryz.prog 189 = false := by kernel_rfl
@[go_sem] theorem tzero_189 : tzero Tryz.prog 189 = some [.int .u64 0] := by kernel_rfl
@[go_sem] theorem tbdz_189 : aMakeFull.tbdz Tryz.prog 189 = some [.int .u64 0] := by kernel_rfl
@[go_sem] theorem tkn_193 : tkn Tryz.prog 193 = true := by kernel_rfl
@[go_sem] theorem tsz_193 : tsz Tryz.prog 193 = 1 := by kernel_rfl
@[go_sem] theorem tagg_193 : tagg Tryz.prog 193 = false := by kernel_rfl
@[go_sem] theorem tzero_193 : tzero Tryz.prog 193 = some [.nilp] := by kernel_rfl
@[go_sem] theorem tbdz_193 : aMakeFull.tbdz Tryz.prog 193 = some [.nilp] := by kernel_rfl
@[go_sem] theorem teqk_193 : teqk Tryz.prog 193 = .ptr := by kernel_rfl
@[go_sem] theorem tkn_195 : tkn Tryz.prog 195 = true := by kernel_rfl
@[go_sem] theorem tsz_195 : tsz Tryz.prog 195 = 1 := by kernel_rfl
@[go_sem] theorem tagg_195 : tagg Tryz.prog 195 = false := by kernel_rfl
@[go_sem] theorem tzero_195 : tzero Tryz.prog 195 = some [.nilp] := by kernel_rfl
@[go_sem] theorem tbdz_195 : aMakeFull.tbdz Tryz.prog 195 = some [.nilp] := by kernel_rfl
@[go_sem] theorem teqk_195 : teqk Tryz.prog 195 = .ptr := by kernel_rfl
@[go_sem] theorem tkn_201 : tkn Tryz.prog 201 = true := by kernel_rfl
@[go_sem] theorem tsz_201 : tsz Tryz.prog 201 = 0 := by kernel_rfl
@[go_sem] theorem tagg_201 : tagg Tryz.prog 201 = true := by kernel_rfl
@[go_sem] theorem tzero_201 : tzero Tryz.prog 201 = some [] := by kernel_rfl
@[go_sem] theorem tbdz_201 : aMakeFull.tbdz Tryz.prog 201 = some [] := by kernel_rfl
@[go_sem] theorem tix_201 : tix Tryz.prog 201 = .arr 0 1 false := by kernel_rfl
@[go_sem] theorem tlen_201 : tlen Tryz.prog 201 = .arr 0 := by kernel_rfl
@[go_sem] theorem tbd_201 : tbd Tryz.prog 201 = .arr 1 [] := by kernel_rfl
@[go_sem] theorem tkn_208 : tkn Tryz.prog 208 = true := by kernel_rfl
@[go_sem] theorem tsz_208 : tsz Tryz.prog 208 = 1 := by kernel_rfl
@[go_sem] theorem tagg_208 : tagg Tryz.prog 208 = false := by kernel_rfl
@[go_sem] theorem tzero_208 : tzero Tryz.prog 208 = some [.nilp] := by kernel_rfl
@[go_sem] theorem tbdz_208 : aMakeFull.tbdz Tryz.prog 208 = some [.nilp] := by kernel_rfl
@[go_sem] theorem teqk_208 : teqk Tryz.prog 208 = .ptr := by kernel_rfl
@[go_sem] theorem tcv_2_2 : tcv Tryz.prog 2 2 = .int .i64 := by kernel_rfl
@[go_sem] theorem tcv_2_3 : tcv Tryz.prog 2 3 = .int .i64 := by kernel_rfl
@[go_sem] theorem tcv_2_30 : tcv Tryz.prog 2 30 = .int .i64 := by kernel_rfl
@[go_sem] theorem tcv_2_176 : tcv Tryz.prog 2 176 = .int .i64 := by kernel_rfl
@[go_sem] theorem tcv_2_5 : tcv Tryz.prog 2 5 = .int .u8 := by kernel_rfl
@[go_sem] theorem tcv_2_12 : tcv Tryz.prog 2 12 = .int .u64 := by kernel_rfl
@[go_sem] theorem tcv_2_158 : tcv Tryz.prog 2 158 = .int .u64 := by kernel_rfl
@[go_sem] theorem tcv_2_186 : tcv Tryz.prog 2 186 = .int .u64 := by kernel_rfl
@[go_sem] theorem tcv_2_189 : tcv Tryz.prog 2 189 = .int .u64 := by kernel_rfl
@[go_sem] theorem tcv_2_21 : tcv Tryz.prog 2 21 = .int .i32 := by kernel_rfl
@[go_sem] theorem tcv_2_184 : tcv Tryz.prog 2 184 = .int .u32 := by kernel_rfl
@[go_sem] theorem tcv_3_2 : tcv Tryz.prog 3 2 = .int .i64 := by kernel_rfl
@[go_sem] theorem tcv_3_3 : tcv Tryz.prog 3 3 = .int .i64 := by kernel_rfl
@[go_sem] theorem tcv_3_30 : tcv Tryz.prog 3 30 = .int .i64 := by kernel_rfl
@[go_sem] theorem tcv_3_176 : tcv Tryz.prog 3 176 = .int .i64 := by kernel_rfl
@[go_sem] theorem tcv_3_5 : tcv Tryz.prog 3 5 = .int .u8 := by kernel_rfl
@[go_sem] theorem tcv_3_12 : tcv Tryz.prog 3 12 = .int .u64 := by kernel_rfl
@[go_sem] theorem tcv_3_158 : tcv Tryz.prog 3 158 = .int .u64 := by kernel_rfl
@[go_sem] theorem tcv_3_186 : tcv Tryz.prog 3 186 = .int .u64 := by kernel_rfl
@[go_sem] theorem tcv_3_189 : tcv Tryz.prog 3 189 = .int .u64 := by kernel_rfl
@[go_sem] theorem tcv_3_21 : tcv Tryz.prog 3 21 = .int .i32 := by kernel_rfl
@[go_sem] theorem tcv_3_184 : tcv Tryz.prog 3 184 = .int .u32 := by kernel_rfl
@[go_sem] theorem tcv_30_2 : tcv Tryz.prog 30 2 = .int .i64 := by kernel_rfl
@[go_sem] theorem tcv_30_3 : tcv Tryz.prog 30 3 = .int .i64 := by kernel_rfl
@[go_sem] theorem tcv_30_30 : tcv Tryz.prog 30 30 = .int .i64 := by kernel_rfl
@[go_sem] theorem tcv_30_176 : tcv Tryz.prog 30 176 = .int .i64 := by kernel_rfl
@[go_sem] theorem tcv_30_5 : tcv Tryz.prog 30 5 = .int .u8 := by kernel_rfl
@[go_sem] theorem tcv_30_12 : tcv Tryz.prog 30 12 = .int .u64 := by kernel_rfl
@[go_sem] theorem tcv_30_158 : tcv Tryz.prog 30 158 = .int .u64 := by kernel_rfl
@[go_sem] theorem tcv_30_186 : tcv Tryz.prog 30 186 = .int .u64 := by kernel_rfl
@[go_sem] theorem tcv_30_189 : tcv Tryz.prog 30 189 = .int .u64 := by kernel_rfl
@[go_sem] theorem tcv_30_21 : tcv Tryz.prog 30 21 = .int .i32 := by kernel_rfl
@[go_sem] theorem tcv_30_184 : tcv Tryz.prog 30 184 = .int .u32 := by kernel_rfl
@[go_sem] theorem tcv_176_2 : tcv Tryz.prog 176 2 = .int .i64 := by kernel_rfl
@[go_sem] theorem tcv_176_3 : tcv Tryz.prog 176 3 = .int .i64 := by kernel_rfl
@[go_sem] theorem tcv_176_30 : tcv Tryz.prog 176 30 = .int .i64 := by kernel_rfl
@[go_sem] theorem tcv_176_176 : tcv Tryz.prog 176 176 = .int .i64 := by kernel_rfl
@[go_sem] theorem tcv_176_5 : tcv Tryz.prog 176 5 = .int .u8 := by kernel_rfl
@[go_sem] theorem tcv_176_12 : tcv Tryz.prog 176 12 = .int .u64 := by kernel_rfl
@[go_sem] theorem tcv_176_158 : tcv Tryz.prog 176 158 = .int .u64 := by kernel_rfl
@[go_sem] theorem tcv_176_186 : tcv Tryz.prog 176 186 = .int .u64 := by kernel_rfl
@[go_sem] theorem tcv_176_189 : tcv Tryz.prog 176 189 = .int .u64 := by kernel_rfl
@[go_sem] theorem tcv_176_21 : tcv Tryz.prog 176 21 = .int .i32 := by kernel_rfl
@[go_sem] theorem tcv_176_184 : tcv Tryz.prog 176 184 = .int .u32 := by kernel_rfl
@[go_sem] theorem tcv_5_2 : tcv Tryz.prog 5 2 = .int .i64 := by kernel_rfl
@[go_sem] theorem tcv_5_3 : tcv Tryz.prog 5 3 = .int .i64 := by kernel_rfl
@[go_sem] theorem tcv_5_30 : tcv Tryz.prog 5 30 = .int .i64 := by kernel_rfl
@[go_sem] theorem tcv_5_176 : tcv Tryz.prog 5 176 = .int .i64 := by kernel_rfl
@[go_sem] theorem tcv_5_5 : tcv Tryz.prog 5 5 = .int .u8 := by kernel_rfl
@[go_sem] theorem tcv_5_12 : tcv Tryz.prog 5 12 = .int .u64 := by kernel_rfl
@[go_sem] theorem tcv_5_158 : tcv Tryz.prog 5 158 = .int .u64 := by kernel_rfl
@[go_sem] theorem tcv_5_186 : tcv Tryz.prog 5 186 = .int .u64 := by kernel_rfl
@[go_sem] theorem tcv_5_189 : tcv Tryz.prog 5 189 = .int .u64 := by kernel_rfl
@[go_sem] theorem tcv_5_21 : tcv Tryz.prog 5 21 = .int .i32 := by kernel_rfl
@[go_sem] theorem tcv_5_184 : tcv Tryz.prog 5 184 = .int .u32 := by kernel_rfl
@[go_sem] theorem tcv_12_2 : tcv Tryz.prog 12 2 = .int .i64 := by kernel_rfl
@[go_sem] theorem tcv_12_3 : tcv Tryz.prog 12 3 = .int .i64 := by kernel_rfl
@[go_sem] theorem tcv_12_30 : tcv Tryz.prog 12 30 = .int .i64 := by kernel_rfl
@[go_sem] theorem tcv_12_176 : tcv Tryz.prog 12 176 = .int .i64 := by kernel_rfl
@[go_sem] theorem tcv_12_5 : tcv Tryz.prog 12 5 = .int .u8 := by kernel_rfl
@[go_sem] theorem tcv_12_12 : tcv Tryz.prog 12 12 = .int .u64 := by kernel_rfl
@[go_sem] theorem tcv_12_158 : tcv Tryz.prog 12 158 = .int .u64 := by kernel_rfl
@[go_sem] theorem tcv_12_186 : tcv Tryz.prog 12 186 = .int .u64 := by kernel_rfl
@[go_sem] theorem tcv_12_189 : tcv Tryz.prog 12 189 = .int .u64 := by kernel_rfl
@[go_sem] theorem tcv_12_21 : tcv Tryz.prog 12 21 = .int .i32 := by kernel_rfl
@[go_sem] theorem tcv_12_184 : tcv Tryz.prog 12 184 = .int .u32 := by kernel_rfl
@[go_sem] theorem tcv_158_2 : tcv Tryz.prog 158 2 = .int .i64 := by kernel_rfl
@[go_sem] theorem tcv_158_3 : tcv Tryz.prog 158 3 = .int .i64 := by kernel_rfl
@[go_sem] theorem tcv_158_30 : tcv Tryz.prog 158 30 = .int .i64 := by kernel_rfl
@[go_sem] theorem tcv_158_176 : tcv Tryz.prog 158 176 = .int .i64 := by kernel_rfl
@[go_sem] theorem tcv_158_5 : tcv Tryz.prog 158 5 = .int .u8 := by kernel_rfl
@[go_sem] theorem tcv_158_12 : tcv Tryz.prog 158 12 = .int .u64 := by kernel_rfl
@[go_sem] theorem tcv_158_158 : tcv Tryz.prog 158 158 = .int .u64 := by kernel_rfl
@[go_sem] theorem tcv_158_186 : tcv Tryz.prog 158 186 = .int .u64 := by kernel_rfl
@[go_sem] theorem tcv_158_189 : tcv Tryz.prog 158 189 = .int .u64 := by kernel_rfl
@[go_sem] theorem tcv_158_21 : tcv Tryz.prog 158 21 = .int .i32 := by kernel_rfl
@[go_sem] theorem tcv_158_184 : tcv Tryz.prog 158 184 = .int .u32 := by kernel_rfl
@[go_sem] theorem tcv_186_2 : tcv Tryz.prog 186 2 = .int .i64 := by kernel_rfl
@[go_sem] theorem tcv_186_3 : tcv Tryz.prog 186 3 = .int .i64 := by kernel_rfl
@[go_sem] theorem tcv_186_30 : tcv Tryz.prog 186 30 = .int .i64 := by kernel_rfl
@[go_sem] theorem tcv_186_176 : tcv Tryz.prog 186 176 = .int .i64 := by kernel_rfl
@[go_sem] theorem tcv_186_5 : tcv Tryz.prog 186 5 = .int .u8 := by kernel_rfl
@[go_sem] theorem tcv_186_12 : tcv Tryz.prog 186 12 = .int .u64 := by kernel_rfl
@[go_sem] theorem tcv_186_158 : tcv Tryz.prog 186 158 = .int .u64 := by kernel_rfl
@[go_sem] theorem tcv_186_186 : tcv Tryz.prog 186 186 = .int .u64 := by kernel_rfl
@[go_sem] theorem tcv_186_189 : tcv Tryz.prog 186 189 = .int .u64 := by kernel_rfl
@[go_sem] theorem tcv_186_21 : tcv Tryz.prog 186 21 = .int .i32 := by kernel_rfl
@[go_sem] theorem tcv_186_184 : tcv Tryz.prog 186 184 = .int .u32 := by kernel_rfl
@[go_sem] theorem tcv_189_2 : tcv Tryz.prog 189 2 = .int .i64 := by kernel_rfl
@[go_sem] theorem tcv_189_3 : tcv Tryz.prog 189 3 = .int .i64 := by kernel_rfl
@[go_sem] theorem tcv_189_30 : tcv Tryz.prog 189 30 = .int .i64 := by kernel_rfl
@[go_sem] theorem tcv_189_176 : tcv Tryz.prog 189 176 = .int .i64 := by kernel_rfl
@[go_sem] theorem tcv_189_5 : tcv Tryz.prog 189 5 = .int .u8 := by kernel_rfl
@[go_sem] theorem tcv_189_12 : tcv Tryz.prog 189 12 = .int .u64 := by kernel_rfl
@[go_sem] theorem tcv_189_158 : tcv Tryz.prog 189 158 = .int .u64 := by kernel_rfl
@[go_sem] theorem tcv_189_186 : tcv Tryz.prog 189 186 = .int .u64 := by kernel_rfl
@[go_sem] theorem tcv_189_189 : tcv Tryz.prog 189 189 = .int .u64 := by kernel_rfl
@[go_sem] theorem tcv_189_21 : tcv Tryz.prog 189 21 = .int .i32 := by kernel_rfl
@[go_sem] theorem tcv_189_184 : tcv Tryz.prog 189 184 = .int .u32 := by kernel_rfl
@[go_sem] theorem tcv_21_2 : tcv Tryz.prog 21 2 = .int .i64 := by kernel_rfl
@[go_sem] theorem tcv_21_3 : tcv Tryz.prog 21 3 = .int .i64 := by kernel_rfl
@[go_sem] theorem tcv_21_30 : tcv Tryz.prog 21 30 = .int .i64 := by kernel_rfl
@[go_sem] theorem tcv_21_176 : tcv Tryz.prog 21 176 = .int .i64 := by kernel_rfl
@[go_sem] theorem tcv_21_5 : tcv Tryz.prog 21 5 = .int .u8 := by kernel_rfl
@[go_sem] theorem tcv_21_12 : tcv Tryz.prog 21 12 = .int .u64 := by kernel_rfl
@[go_sem] theorem tcv_21_158 : tcv Tryz.prog 21 158 = .int .u64 := by kernel_rfl
@[go_sem] theorem tcv_21_186 : tcv Tryz.prog 21 186 = .int .u64 := by kernel_rfl
@[go_sem] theorem tcv_21_189 : tcv Tryz.prog 21 189 = .int .u64 := by kernel_rfl
@[go_sem] theorem tcv_21_21 : tcv Tryz.prog 21 21 = .int .i32 := by kernel_rfl
@[go_sem] theorem tcv_21_184 : tcv Tryz.prog 21 184 = .int .u32 := by kernel_rfl
@[go_sem] theorem tcv_184_2 : tcv Tryz.prog 184 2 = .int .i64 := by kernel_rfl
@[go_sem] theorem tcv_184_3 : tcv Tryz.prog 184 3 = .int .i64 := by kernel_rfl
@[go_sem] theorem tcv_184_30 : tcv Tryz.prog 184 30 = .int .i64 := by kernel_rfl
@[go_sem] theorem tcv_184_176 : tcv Tryz.prog 184 176 = .int .i64 := by kernel_rfl
@[go_sem] theorem tcv_184_5 : tcv Tryz.prog 184 5 = .int .u8 := by kernel_rfl
@[go_sem] theorem tcv_184_12 : tcv Tryz.prog 184 12 = .int .u64 := by kernel_rfl
@[go_sem] theorem tcv_184_158 : tcv Tryz.prog 184 158 = .int .u64 := by kernel_rfl
@[go_sem] theorem tcv_184_186 : tcv Tryz.prog 184 186 = .int .u64 := by kernel_rfl
@[go_sem] theorem tcv_184_189 : tcv Tryz.prog 184 189 = .int .u64 := by kernel_rfl
@[go_sem] theorem tcv_184_21 : tcv Tryz.prog 184 21 = .int .i32 := by kernel_rfl
@[go_sem] theorem tcv_184_184 : tcv Tryz.prog 184 184 = .int .u32 := by kernel_rfl
@[go_sem] theorem tcv_9_9 : tcv Tryz.prog 9 9 = .same := by kernel_rfl
end Go.Proofs.YtcomkajmhlhphaaGreat
