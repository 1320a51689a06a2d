/- Facts on the table of types of this seat, printed by program: one rule a fact. -/
import Derived.Test.YtnadlkjmdimjkaaGreatPlF
import Derived.Test.YtnadlkjmdimjkaaGreatProg
import Derived.KernelRfl
set_option linter.unusedSimpArgs false
set_option linter.unusedVariables false
namespace Go.Proofs.YtnadlkjmdimjkaaGreat
open Go.PL
@[go_sem] theorem tkn_2 : tkn Tryz.prog 2 = true := by kernel_rfl
@[go_sem] theorem tsz_2 : tsz Tryz.prog 2 = 1 := by kernel_rfl
@[go_sem] theorem tagg_2 : tagg Tryz.prog 2 = false := by kernel_rfl
@[go_sem] theorem tzero_2 : tzero Tryz.prog 2 = some [.int .i64 0] := by kernel_rfl
@[go_sem] theorem tbdz_2 : aMakeFull.tbdz Tryz.prog 2 = some [.int .i64 0] := by kernel_rfl
@[go_sem] theorem tkn_3 : tkn Tryz.prog 3 = true := by kernel_rfl
@[go_sem] theorem tsz_3 : tsz Tryz.prog 3 = 1 := by kernel_rfl
@[go_sem] theorem tagg_3 : tagg Tryz.prog 3 = false := by kernel_rfl
@[go_sem] theorem tzero_3 : tzero Tryz.prog 3 = some [.int .i64 0] := by kernel_rfl
@[go_sem] theorem tbdz_3 : aMakeFull.tbdz Tryz.prog 3 = some [.int .i64 0] := by kernel_rfl
@[go_sem] theorem tkn_4 : tkn Tryz.prog 4 = true := by kernel_rfl
@[go_sem] theorem tsz_4 : tsz Tryz.prog 4 = 1 := by kernel_rfl
@[go_sem] theorem tagg_4 : tagg Tryz.prog 4 = false := by kernel_rfl
@[go_sem] theorem tzero_4 : tzero Tryz.prog 4 = some [.bool false] := by kernel_rfl
@[go_sem] theorem tbdz_4 : aMakeFull.tbdz Tryz.prog 4 = some [.bool false] := by kernel_rfl
@[go_sem] theorem teqk_4 : teqk Tryz.prog 4 = .bool := by kernel_rfl
@[go_sem] theorem tkn_5 : tkn Tryz.prog 5 = true := by kernel_rfl
@[go_sem] theorem tsz_5 : tsz Tryz.prog 5 = 1 := by kernel_rfl
@[go_sem] theorem tagg_5 : tagg Tryz.prog 5 = false := by kernel_rfl
@[go_sem] theorem tzero_5 : tzero Tryz.prog 5 = some [.int .u8 0] := by kernel_rfl
@[go_sem] theorem tbdz_5 : aMakeFull.tbdz Tryz.prog 5 = some [.int .u8 0] := by kernel_rfl
@[go_sem] theorem tkn_9 : tkn Tryz.prog 9 = true := by kernel_rfl
@[go_sem] theorem tsz_9 : tsz Tryz.prog 9 = 1 := by kernel_rfl
@[go_sem] theorem tagg_9 : tagg Tryz.prog 9 = false := by kernel_rfl
@[go_sem] theorem tzero_9 : tzero Tryz.prog 9 = some [.str []] := by kernel_rfl
@[go_sem] theorem tbdz_9 : aMakeFull.tbdz Tryz.prog 9 = some [.str []] := by kernel_rfl
@[go_sem] theorem tix_9 : tix Tryz.prog 9 = .str := by kernel_rfl
@[go_sem] theorem tlen_9 : tlen Tryz.prog 9 = .str := by kernel_rfl
@[go_sem] theorem tkn_12 : tkn Tryz.prog 12 = true := by kernel_rfl
@[go_sem] theorem tsz_12 : tsz Tryz.prog 12 = 1 := by kernel_rfl
@[go_sem] theorem tagg_12 : tagg Tryz.prog 12 = false := by kernel_rfl
@[go_sem] theorem tzero_12 : tzero Tryz.prog 12 = some [.int .u64 0] := by kernel_rfl
@[go_sem] theorem tbdz_12 : aMakeFull.tbdz Tryz.prog 12 = some [.int .u64 0] := by kernel_rfl
@[go_sem] theorem tkn_21 : tkn Tryz.prog 21 = true := by kernel_rfl
@[go_sem] theorem tsz_21 : tsz Tryz.prog 21 = 1 := by kernel_rfl
@[go_sem] theorem tagg_21 : tagg Tryz.prog 21 = false := by kernel_rfl
@[go_sem] theorem tzero_21 : tzero Tryz.prog 21 = some [.int .i32 0] := by kernel_rfl
@[go_sem] theorem tbdz_21 : aMakeFull.tbdz Tryz.prog 21 = some [.int .i32 0] := by kernel_rfl
@[go_sem] theorem tkn_22 : tkn Tryz.prog 22 = true := by kernel_rfl
@[go_sem] theorem tsz_22 : tsz Tryz.prog 22 = 1 := by kernel_rfl
@[go_sem] theorem tagg_22 : tagg Tryz.prog 22 = false := by kernel_rfl
@[go_sem] theorem tzero_22 : tzero Tryz.prog 22 = some [.sl .nil []] := by kernel_rfl
@[go_sem] theorem tbdz_22 : aMakeFull.tbdz Tryz.prog 22 = some [.sl .nil []] := by kernel_rfl
@[go_sem] theorem tix_22 : tix Tryz.prog 22 = .slc 20 true := by kernel_rfl
@[go_sem] theorem tlen_22 : tlen Tryz.prog 22 = .slc := by kernel_rfl
@[go_sem] theorem teqk_22 : teqk Tryz.prog 22 = .slc := by kernel_rfl
@[go_sem] theorem telem_22 : telem Tryz.prog 22 = some ⟨89, 20, 264⟩ := by kernel_rfl
@[go_sem] theorem tkn_23 : tkn Tryz.prog 23 = true := by kernel_rfl
@[go_sem] theorem tsz_23 : tsz Tryz.prog 23 = 2 := by kernel_rfl
@[go_sem] theorem tagg_23 : tagg Tryz.prog 23 = true := by kernel_rfl
@[go_sem] theorem tzero_23 : tzero Tryz.prog 23 = some [.int .i64 0, .int .i64 0] := by kernel_rfl
@[go_sem] theorem tbdz_23 : aMakeFull.tbdz Tryz.prog 23 = some [.int .i64 0, .int .i64 0] := by kernel_rfl
@[go_sem] theorem tfld_23_0 : tfld Tryz.prog 23 0 = some (0, 1, false) := by kernel_rfl
@[go_sem] theorem tfld_23_1 : tfld Tryz.prog 23 1 = some (1, 1, false) := by kernel_rfl
@[go_sem] theorem tbd_23 : tbd Tryz.prog 23 = .str [(0, 1), (1, 1)] [.int .i64 0, .int .i64 0] := by kernel_rfl
@[go_sem] theorem tleaves_23 : tleaves Tryz.prog 23 = some [.int, .int] := by kernel_rfl
@[go_sem] theorem tkn_24 : tkn Tryz.prog 24 = true := by kernel_rfl
@[go_sem] theorem tsz_24 : tsz Tryz.prog 24 = 2 := by kernel_rfl
@[go_sem] theorem tagg_24 : tagg Tryz.prog 24 = true := by kernel_rfl
@[go_sem] theorem tzero_24 : tzero Tryz.prog 24 = some [.int .i64 0, .int .i64 0] := by kernel_rfl
@[go_sem] theorem tbdz_24 : aMakeFull.tbdz Tryz.prog 24 = some [.int .i64 0, .int .i64 0] := by kernel_rfl
@[go_sem] theorem tfld_24_0 : tfld Tryz.prog 24 0 = some (0, 1, false) := by kernel_rfl
@[go_sem] theorem tfld_24_1 : tfld Tryz.prog 24 1 = some (1, 1, false) := by kernel_rfl
@[go_sem] theorem tbd_24 : tbd Tryz.prog 24 = .str [(0, 1), (1, 1)] [.int .i64 0, .int .i64 0] := by kernel_rfl
@[go_sem] theorem tleaves_24 : tleaves Tryz.prog 24 = some [.int, .int] := by kernel_rfl
@[go_sem] theorem tkn_27 : tkn Tryz.prog 27 = true := by kernel_rfl
@[go_sem] theorem tsz_27 : tsz Tryz.prog 27 = 1 := by kernel_rfl
@[go_sem] theorem tagg_27 : tagg Tryz.prog 27 = false := by kernel_rfl
@[go_sem] theorem tzero_27 : tzero Tryz.prog 27 = some [.nilp] := by kernel_rfl
@[go_sem] theorem tbdz_27 : aMakeFull.tbdz Tryz.prog 27 = some [.nilp] := by kernel_rfl
@[go_sem] theorem teqk_27 : teqk Tryz.prog 27 = .ptr := by kernel_rfl
@[go_sem] theorem tkn_30 : tkn Tryz.prog 30 = true := by kernel_rfl
@[go_sem] theorem tsz_30 : tsz Tryz.prog 30 = 1 := by kernel_rfl
@[go_sem] theorem tagg_30 : tagg Tryz.prog 30 = false := by kernel_rfl
@[go_sem] theorem tzero_30 : tzero Tryz.prog 30 = some [.sl .nil []] := by kernel_rfl
@[go_sem] theorem tbdz_30 : aMakeFull.tbdz Tryz.prog 30 = some [.sl .nil []] := by kernel_rfl
@[go_sem] theorem tix_30 : tix Tryz.prog 30 = .slc 7 true := by kernel_rfl
@[go_sem] theorem tlen_30 : tlen Tryz.prog 30 = .slc := by kernel_rfl
@[go_sem] theorem teqk_30 : teqk Tryz.prog 30 = .slc := by kernel_rfl
@[go_sem] theorem telem_30 : telem Tryz.prog 30 = some ⟨91, 7, 88⟩ := by kernel_rfl
@[go_sem] theorem tkn_31 : tkn Tryz.prog 31 = true := by kernel_rfl
@[go_sem] theorem tsz_31 : tsz Tryz.prog 31 = 1 := by kernel_rfl
@[go_sem] theorem tagg_31 : tagg Tryz.prog 31 = false := by kernel_rfl
@[go_sem] theorem tzero_31 : tzero Tryz.prog 31 = some [.int .i64 0] := by kernel_rfl
@[go_sem] theorem tbdz_31 : aMakeFull.tbdz Tryz.prog 31 = some [.int .i64 0] := by kernel_rfl
@[go_sem] theorem tkn_40 : tkn Tryz.prog 40 = true := by kernel_rfl
@[go_sem] theorem tsz_40 : tsz Tryz.prog 40 = 1 := by kernel_rfl
@[go_sem] theorem tagg_40 : tagg Tryz.prog 40 = false := by kernel_rfl
@[go_sem] theorem tzero_40 : tzero Tryz.prog 40 = some [.sl .nil []] := by kernel_rfl
@[go_sem] theorem tbdz_40 : aMakeFull.tbdz Tryz.prog 40 = some [.sl .nil []] := by kernel_rfl
@[go_sem] theorem tix_40 : tix Tryz.prog 40 = .slc 1 false := by kernel_rfl
@[go_sem] theorem tlen_40 : tlen Tryz.prog 40 = .slc := by kernel_rfl
@[go_sem] theorem teqk_40 : teqk Tryz.prog 40 = .slc := by kernel_rfl
@[go_sem] theorem telem_40 : telem Tryz.prog 40 = some ⟨9, 1, 16⟩ := by kernel_rfl
@[go_sem] theorem tkn_43 : tkn Tryz.prog 43 = true := by kernel_rfl
@[go_sem] theorem tsz_43 : tsz Tryz.prog 43 = 3 := by kernel_rfl
@[go_sem] theorem tagg_43 : tagg Tryz.prog 43 = true := by kernel_rfl
@[go_sem] theorem tzero_43 : tzero Tryz.prog 43 = some [.int .i64 0, .str [], .str []] := by kernel_rfl
@[go_sem] theorem tbdz_43 : aMakeFull.tbdz Tryz.prog 43 = some [.int .i64 0, .str [], .str []] := by kernel_rfl
@[go_sem] theorem tfld_43_0 : tfld Tryz.prog 43 0 = some (0, 1, false) := by kernel_rfl
@[go_sem] theorem tfld_43_1 : tfld Tryz.prog 43 1 = some (1, 1, false) := by kernel_rfl
@[go_sem] theorem tfld_43_2 : tfld Tryz.prog 43 2 = some (2, 1, false) := by kernel_rfl
@[go_sem] theorem tbd_43 : tbd Tryz.prog 43 = .str [(0, 1), (1, 1), (2, 1)] [.int .i64 0, .str [], .str []] := by kernel_rfl
@[go_sem] theorem tleaves_43 : tleaves Tryz.prog 43 = some [.int, .str, .str] := by kernel_rfl
@[go_sem] theorem tkn_44 : tkn Tryz.prog 44 = true := by kernel_rfl
@[go_sem] theorem tsz_44 : tsz Tryz.prog 44 = 3 := by kernel_rfl
@[go_sem] theorem tagg_44 : tagg Tryz.prog 44 = true := by kernel_rfl
@[go_sem] theorem tzero_44 : tzero Tryz.prog 44 = some [.int .i64 0, .str [], .str []] := by kernel_rfl
@[go_sem] theorem tbdz_44 : aMakeFull.tbdz Tryz.prog 44 = some [.int .i64 0, .str [], .str []] := by kernel_rfl
@[go_sem] theorem tfld_44_0 : tfld Tryz.prog 44 0 = some (0, 1, false) := by kernel_rfl
@[go_sem] theorem tfld_44_1 : tfld Tryz.prog 44 1 = some (1, 1, false) := by kernel_rfl
@[go_sem] theorem tfld_44_2 : tfld Tryz.prog 44 2 = some (2, 1, false) := by kernel_rfl
@[go_sem] theorem tbd_44 : tbd Tryz.prog 44 = .str [(0, 1), (1, 1), (2, 1)] [.int .i64 0, .str [], .str []] := by kernel_rfl
@[go_sem] theorem tleaves_44 : tleaves Tryz.prog 44 = some [.int, .str, .str] := by kernel_rfl
@[go_sem] theorem tkn_45 : tkn Tryz.prog 45 = true := by kernel_rfl
@[go_sem] theorem tsz_45 : tsz Tryz.prog 45 = 1 := by kernel_rfl
@[go_sem] theorem tagg_45 : tagg Tryz.prog 45 = false := by kernel_rfl
@[go_sem] theorem tzero_45 : tzero Tryz.prog 45 = some [.sl .nil []] := by kernel_rfl
@[go_sem] theorem tbdz_45 : aMakeFull.tbdz Tryz.prog 45 = some [.sl .nil []] := by kernel_rfl
@[go_sem] theorem tix_45 : tix Tryz.prog 45 = .slc 2 true := by kernel_rfl
@[go_sem] theorem tlen_45 : tlen Tryz.prog 45 = .slc := by kernel_rfl
@[go_sem] theorem teqk_45 : teqk Tryz.prog 45 = .slc := by kernel_rfl
@[go_sem] theorem telem_45 : telem Tryz.prog 45 = some ⟨24, 2, 16⟩ := by kernel_rfl
@[go_sem] theorem tkn_46 : tkn Tryz.prog 46 = true := by kernel_rfl
@[go_sem] theorem tsz_46 : tsz Tryz.prog 46 = 15 := by kernel_rfl
@[go_sem] theorem tagg_46 : tagg Tryz.prog 46 = true := by kernel_rfl
@[go_sem] theorem tzero_46 : tzero Tryz.prog 46 = some [.int .i64 0, .int .i64 0, .int .i64 0, .int .i64 0, .int .i64 0, .str [], .int .i64 0, .str [], .int .i64 0, .str [], .str [], .int .i64 0, .bool false, .str [], .sl .nil []] := by kernel_rfl
@[go_sem] theorem tbdz_46 : aMakeFull.tbdz Tryz.prog 46 = some [.int .i64 0, .int .i64 0, .int .i64 0, .int .i64 0, .int .i64 0, .str [], .int .i64 0, .str [], .int .i64 0, .str [], .str [], .int .i64 0, .bool false, .str [], .sl .nil []] := by kernel_rfl
@[go_sem] theorem tfld_46_0 : tfld Tryz.prog 46 0 = some (0, 2, true) := by kernel_rfl
@[go_sem] theorem tfld_46_1 : tfld Tryz.prog 46 1 = some (2, 2, true) := by kernel_rfl
@[go_sem] theorem tfld_46_2 : tfld Tryz.prog 46 2 = some (4, 1, false) := by kernel_rfl
@[go_sem] theorem tfld_46_3 : tfld Tryz.prog 46 3 = some (5, 1, false) := by kernel_rfl
@[go_sem] theorem tfld_46_4 : tfld Tryz.prog 46 4 = some (6, 1, false) := by kernel_rfl
@[go_sem] theorem tfld_46_5 : tfld Tryz.prog 46 5 = some (7, 1, false) := by kernel_rfl
@[go_sem] theorem tfld_46_6 : tfld Tryz.prog 46 6 = some (8, 3, true) := by kernel_rfl
@[go_sem] theorem tfld_46_7 : tfld Tryz.prog 46 7 = some (11, 1, false) := by kernel_rfl
@[go_sem] theorem tfld_46_8 : tfld Tryz.prog 46 8 = some (12, 1, false) := by kernel_rfl
@[go_sem] theorem tfld_46_9 : tfld Tryz.prog 46 9 = some (13, 1, false) := by kernel_rfl
@[go_sem] theorem tfld_46_10 : tfld Tryz.prog 46 10 = some (14, 1, false) := by kernel_rfl
@[go_sem] theorem tbd_46 : tbd Tryz.prog 46 = .str [(0, 2), (2, 2), (4, 1), (5, 1), (6, 1), (7, 1), (8, 3), (11, 1), (12, 1), (13, 1), (14, 1)] [.int .i64 0, .int .i64 0, .int .i64 0, .int .i64 0, .int .i64 0, .str [], .int .i64 0, .str [], .int .i64 0, .str [], .str [], .int .i64 0, .bool false, .str [], .sl .nil []] := by kernel_rfl
@[go_sem] theorem tkn_47 : tkn Tryz.prog 47 = true := by kernel_rfl
@[go_sem] theorem tsz_47 : tsz Tryz.prog 47 = 15 := by kernel_rfl
@[go_sem] theorem tagg_47 : tagg Tryz.prog 47 = true := by kernel_rfl
@[go_sem] theorem tzero_47 : tzero Tryz.prog 47 = some [.int .i64 0, .int .i64 0, .int .i64 0, .int .i64 0, .int .i64 0, .str [], .int .i64 0, .str [], .int .i64 0, .str [], .str [], .int .i64 0, .bool false, .str [], .sl .nil []] := by kernel_rfl
@[go_sem] theorem tbdz_47 : aMakeFull.tbdz Tryz.prog 47 = some [.int .i64 0, .int .i64 0, .int .i64 0, .int .i64 0, .int .i64 0, .str [], .int .i64 0, .str [], .int .i64 0, .str [], .str [], .int .i64 0, .bool false, .str [], .sl .nil []] := by kernel_rfl
@[go_sem] theorem tfld_47_0 : tfld Tryz.prog 47 0 = some (0, 2, true) := by kernel_rfl
@[go_sem] theorem tfld_47_1 : tfld Tryz.prog 47 1 = some (2, 2, true) := by kernel_rfl
@[go_sem] theorem tfld_47_2 : tfld Tryz.prog 47 2 = some (4, 1, false) := by kernel_rfl
@[go_sem] theorem tfld_47_3 : tfld Tryz.prog 47 3 = some (5, 1, false) := by kernel_rfl
@[go_sem] theorem tfld_47_4 : tfld Tryz.prog 47 4 = some (6, 1, false) := by kernel_rfl
@[go_sem] theorem tfld_47_5 : tfld Tryz.prog 47 5 = some (7, 1, false) := by kernel_rfl
@[go_sem] theorem tfld_47_6 : tfld Tryz.prog 47 6 = some (8, 3, true) := by kernel_rfl
@[go_sem] theorem tfld_47_7 : tfld Tryz.prog 47 7 = some (11, 1, false) := by kernel_rfl
@[go_sem] theorem tfld_47_8 : tfld Tryz.prog 47 8 = some (12, 1, false) := by kernel_rfl
@[go_sem] theorem tfld_47_9 : tfld Tryz.prog 47 9 = some (13, 1, false) := by kernel_rfl
@[go_sem] theorem tfld_47_10 : tfld Tryz.prog 47 10 = some (14, 1, false) := by kernel_rfl
@[go_sem] theorem tbd_47 : tbd Tryz.prog 47 = .str [(0, 2), (2, 2), (4, 1), (5, 1), (6, 1), (7, 1), (8, 3), (11, 1), (12, 1), (13, 1), (14, 1)] [.int .i64 0, .int .i64 0, .int .i64 0, .int .i64 0, .int .i64 0, .str [], .int .i64 0, .str [], .int .i64 0, .str [], .str [], .int .i64 0, .bool false, .str [], .sl .nil []] := by kernel_rfl
@[go_sem] theorem tkn_56 : tkn Tryz.prog 56 = true := by kernel_rfl
@[go_sem] theorem tsz_56 : tsz Tryz.prog 56 = 1 := by kernel_rfl
@[go_sem] theorem tagg_56 : tagg Tryz.prog 56 = false := by kernel_rfl
@[go_sem] theorem tzero_56 : tzero Tryz.prog 56 = some [.sl .nil []] := by kernel_rfl
@[go_sem] theorem tbdz_56 : aMakeFull.tbdz Tryz.prog 56 = some [.sl .nil []] := by kernel_rfl
@[go_sem] theorem tix_56 : tix Tryz.prog 56 = .slc 7 true := by kernel_rfl
@[go_sem] theorem tlen_56 : tlen Tryz.prog 56 = .slc := by kernel_rfl
@[go_sem] theorem teqk_56 : teqk Tryz.prog 56 = .slc := by kernel_rfl
@[go_sem] theorem telem_56 : telem Tryz.prog 56 = some ⟨84, 7, 96⟩ := by kernel_rfl
@[go_sem] theorem tkn_61 : tkn Tryz.prog 61 = true := by kernel_rfl
@[go_sem] theorem tsz_61 : tsz Tryz.prog 61 = 1 := by kernel_rfl
@[go_sem] theorem tagg_61 : tagg Tryz.prog 61 = false := by kernel_rfl
@[go_sem] theorem tzero_61 : tzero Tryz.prog 61 = some [.sl .nil []] := by kernel_rfl
@[go_sem] theorem tbdz_61 : aMakeFull.tbdz Tryz.prog 61 = some [.sl .nil []] := by kernel_rfl
@[go_sem] theorem tix_61 : tix Tryz.prog 61 = .slc 5 true := by kernel_rfl
@[go_sem] theorem tlen_61 : tlen Tryz.prog 61 = .slc := by kernel_rfl
@[go_sem] theorem teqk_61 : teqk Tryz.prog 61 = .slc := by kernel_rfl
@[go_sem] theorem telem_61 : telem Tryz.prog 61 = some ⟨128, 5, 72⟩ := by kernel_rfl
@[go_sem] theorem tkn_62 : tkn Tryz.prog 62 = true := by kernel_rfl
@[go_sem] theorem tsz_62 : tsz Tryz.prog 62 = 1 := by kernel_rfl
@[go_sem] theorem tagg_62 : tagg Tryz.prog 62 = false := by kernel_rfl
@[go_sem] theorem tzero_62 : tzero Tryz.prog 62 = some [.sl .nil []] := by kernel_rfl
@[go_sem] theorem tbdz_62 : aMakeFull.tbdz Tryz.prog 62 = some [.sl .nil []] := by kernel_rfl
@[go_sem] theorem tix_62 : tix Tryz.prog 62 = .slc 2 true := by kernel_rfl
@[go_sem] theorem tlen_62 : tlen Tryz.prog 62 = .slc := by kernel_rfl
@[go_sem] theorem teqk_62 : teqk Tryz.prog 62 = .slc := by kernel_rfl
@[go_sem] theorem telem_62 : telem Tryz.prog 62 = some ⟨130, 2, 40⟩ := by kernel_rfl
@[go_sem] theorem tkn_63 : tkn Tryz.prog 63 = true := by kernel_rfl
@[go_sem] theorem tsz_63 : tsz Tryz.prog 63 = 2 := by kernel_rfl
@[go_sem] theorem tagg_63 : tagg Tryz.prog 63 = true := by kernel_rfl
@[go_sem] theorem tzero_63 : tzero Tryz.prog 63 = some [.sl .nil [], .sl .nil []] := by kernel_rfl
@[go_sem] theorem tbdz_63 : aMakeFull.tbdz Tryz.prog 63 = some [.sl .nil [], .sl .nil []] := by kernel_rfl
@[go_sem] theorem tfld_63_0 : tfld Tryz.prog 63 0 = some (0, 1, false) := by kernel_rfl
@[go_sem] theorem tfld_63_1 : tfld Tryz.prog 63 1 = some (1, 1, false) := by kernel_rfl
@[go_sem] theorem tbd_63 : tbd Tryz.prog 63 = .str [(0, 1), (1, 1)] [.sl .nil [], .sl .nil []] := by kernel_rfl
@[go_sem] theorem tkn_64 : tkn Tryz.prog 64 = true := by kernel_rfl
@[go_sem] theorem tsz_64 : tsz Tryz.prog 64 = 2 := by kernel_rfl
@[go_sem] theorem tagg_64 : tagg Tryz.prog 64 = true := by kernel_rfl
@[go_sem] theorem tzero_64 : tzero Tryz.prog 64 = some [.sl .nil [], .sl .nil []] := by kernel_rfl
@[go_sem] theorem tbdz_64 : aMakeFull.tbdz Tryz.prog 64 = some [.sl .nil [], .sl .nil []] := by kernel_rfl
@[go_sem] theorem tfld_64_0 : tfld Tryz.prog 64 0 = some (0, 1, false) := by kernel_rfl
@[go_sem] theorem tfld_64_1 : tfld Tryz.prog 64 1 = some (1, 1, false) := by kernel_rfl
@[go_sem] theorem tbd_64 : tbd Tryz.prog 64 = .str [(0, 1), (1, 1)] [.sl .nil [], .sl .nil []] := by kernel_rfl
@[go_sem] theorem tkn_83 : tkn Tryz.prog 83 = true := by kernel_rfl
@[go_sem] theorem tsz_83 : tsz Tryz.prog 83 = 7 := by kernel_rfl
@[go_sem] theorem tagg_83 : tagg Tryz.prog 83 = true := by kernel_rfl
@[go_sem] theorem tzero_83 : tzero Tryz.prog 83 = some [.int .i64 0, .str [], .str [], .int .i64 0, .str [], .sl .nil [], .int .i64 0] := by kernel_rfl
@[go_sem] theorem tbdz_83 : aMakeFull.tbdz Tryz.prog 83 = some [.int .i64 0, .str [], .str [], .int .i64 0, .str [], .sl .nil [], .int .i64 0] := by kernel_rfl
@[go_sem] theorem tfld_83_0 : tfld Tryz.prog 83 0 = some (0, 3, true) := by kernel_rfl
@[go_sem] theorem tfld_83_1 : tfld Tryz.prog 83 1 = some (3, 1, false) := by kernel_rfl
@[go_sem] theorem tfld_83_2 : tfld Tryz.prog 83 2 = some (4, 1, false) := by kernel_rfl
@[go_sem] theorem tfld_83_3 : tfld Tryz.prog 83 3 = some (5, 1, false) := by kernel_rfl
@[go_sem] theorem tfld_83_4 : tfld Tryz.prog 83 4 = some (6, 1, false) := by kernel_rfl
@[go_sem] theorem tbd_83 : tbd Tryz.prog 83 = .str [(0, 3), (3, 1), (4, 1), (5, 1), (6, 1)] [.int .i64 0, .str [], .str [], .int .i64 0, .str [], .sl .nil [], .int .i64 0] := by kernel_rfl
@[go_sem] theorem tkn_84 : tkn Tryz.prog 84 = true := by kernel_rfl
@[go_sem] theorem tsz_84 : tsz Tryz.prog 84 = 7 := by kernel_rfl
@[go_sem] theorem tagg_84 : tagg Tryz.prog 84 = true := by kernel_rfl
@[go_sem] theorem tzero_84 : tzero Tryz.prog 84 = some [.int .i64 0, .str [], .str [], .int .i64 0, .str [], .sl .nil [], .int .i64 0] := by kernel_rfl
@[go_sem] theorem tbdz_84 : aMakeFull.tbdz Tryz.prog 84 = some [.int .i64 0, .str [], .str [], .int .i64 0, .str [], .sl .nil [], .int .i64 0] := by kernel_rfl
@[go_sem] theorem tfld_84_0 : tfld Tryz.prog 84 0 = some (0, 3, true) := by kernel_rfl
@[go_sem] theorem tfld_84_1 : tfld Tryz.prog 84 1 = some (3, 1, false) := by kernel_rfl
@[go_sem] theorem tfld_84_2 : tfld Tryz.prog 84 2 = some (4, 1, false) := by kernel_rfl
@[go_sem] theorem tfld_84_3 : tfld Tryz.prog 84 3 = some (5, 1, false) := by kernel_rfl
@[go_sem] theorem tfld_84_4 : tfld Tryz.prog 84 4 = some (6, 1, false) := by kernel_rfl
@[go_sem] theorem tbd_84 : tbd Tryz.prog 84 = .str [(0, 3), (3, 1), (4, 1), (5, 1), (6, 1)] [.int .i64 0, .str [], .str [], .int .i64 0, .str [], .sl .nil [], .int .i64 0] := by kernel_rfl
@[go_sem] theorem tkn_85 : tkn Tryz.prog 85 = true := by kernel_rfl
@[go_sem] theorem tsz_85 : tsz Tryz.prog 85 = 1 := by kernel_rfl
@[go_sem] theorem tagg_85 : tagg Tryz.prog 85 = false := by kernel_rfl
@[go_sem] theorem tzero_85 : tzero Tryz.prog 85 = some [.sl .nil []] := by kernel_rfl
@[go_sem] theorem tbdz_85 : aMakeFull.tbdz Tryz.prog 85 = some [.sl .nil []] := by kernel_rfl
@[go_sem] theorem tix_85 : tix Tryz.prog 85 = .slc 2 true := by kernel_rfl
@[go_sem] theorem tlen_85 : tlen Tryz.prog 85 = .slc := by kernel_rfl
@[go_sem] theorem teqk_85 : teqk Tryz.prog 85 = .slc := by kernel_rfl
@[go_sem] theorem telem_85 : telem Tryz.prog 85 = some ⟨219, 2, 32⟩ := by kernel_rfl
@[go_sem] theorem tkn_86 : tkn Tryz.prog 86 = true := by kernel_rfl
@[go_sem] theorem tsz_86 : tsz Tryz.prog 86 = 16 := by kernel_rfl
@[go_sem] theorem tagg_86 : tagg Tryz.prog 86 = true := by kernel_rfl
@[go_sem] theorem tzero_86 : tzero Tryz.prog 86 = some [.int .i64 0, .int .i64 0, .str [], .str [], .str [], .str [], .int .i64 0, .int .i64 0, .str [], .str [], .int .i64 0, .str [], .sl .nil [], .int .i64 0, .sl .nil [], .sl .nil []] := by kernel_rfl
@[go_sem] theorem tbdz_86 : aMakeFull.tbdz Tryz.prog 86 = some [.int .i64 0, .int .i64 0, .str [], .str [], .str [], .str [], .int .i64 0, .int .i64 0, .str [], .str [], .int .i64 0, .str [], .sl .nil [], .int .i64 0, .sl .nil [], .sl .nil []] := by kernel_rfl
@[go_sem] theorem tfld_86_0 : tfld Tryz.prog 86 0 = some (0, 1, false) := by kernel_rfl
@[go_sem] theorem tfld_86_1 : tfld Tryz.prog 86 1 = some (1, 3, true) := by kernel_rfl
@[go_sem] theorem tfld_86_2 : tfld Tryz.prog 86 2 = some (4, 1, false) := by kernel_rfl
@[go_sem] theorem tfld_86_3 : tfld Tryz.prog 86 3 = some (5, 1, false) := by kernel_rfl
@[go_sem] theorem tfld_86_4 : tfld Tryz.prog 86 4 = some (6, 1, false) := by kernel_rfl
@[go_sem] theorem tfld_86_5 : tfld Tryz.prog 86 5 = some (7, 7, true) := by kernel_rfl
@[go_sem] theorem tfld_86_6 : tfld Tryz.prog 86 6 = some (14, 1, false) := by kernel_rfl
@[go_sem] theorem tfld_86_7 : tfld Tryz.prog 86 7 = some (15, 1, false) := by kernel_rfl
@[go_sem] theorem tbd_86 : tbd Tryz.prog 86 = .str [(0, 1), (1, 3), (4, 1), (5, 1), (6, 1), (7, 7), (14, 1), (15, 1)] [.int .i64 0, .int .i64 0, .str [], .str [], .str [], .str [], .int .i64 0, .int .i64 0, .str [], .str [], .int .i64 0, .str [], .sl .nil [], .int .i64 0, .sl .nil [], .sl .nil []] := by kernel_rfl
@[go_sem] theorem tkn_87 : tkn Tryz.prog 87 = true := by kernel_rfl
@[go_sem] theorem tsz_87 : tsz Tryz.prog 87 = 16 := by kernel_rfl
@[go_sem] theorem tagg_87 : tagg Tryz.prog 87 = true := by kernel_rfl
@[go_sem] theorem tzero_87 : tzero Tryz.prog 87 = some [.int .i64 0, .int .i64 0, .str [], .str [], .str [], .str [], .int .i64 0, .int .i64 0, .str [], .str [], .int .i64 0, .str [], .sl .nil [], .int .i64 0, .sl .nil [], .sl .nil []] := by kernel_rfl
@[go_sem] theorem tbdz_87 : aMakeFull.tbdz Tryz.prog 87 = some [.int .i64 0, .int .i64 0, .str [], .str [], .str [], .str [], .int .i64 0, .int .i64 0, .str [], .str [], .int .i64 0, .str [], .sl .nil [], .int .i64 0, .sl .nil [], .sl .nil []] := by kernel_rfl
@[go_sem] theorem tfld_87_0 : tfld Tryz.prog 87 0 = some (0, 1, false) := by kernel_rfl
@[go_sem] theorem tfld_87_1 : tfld Tryz.prog 87 1 = some (1, 3, true) := by kernel_rfl
@[go_sem] theorem tfld_87_2 : tfld Tryz.prog 87 2 = some (4, 1, false) := by kernel_rfl
@[go_sem] theorem tfld_87_3 : tfld Tryz.prog 87 3 = some (5, 1, false) := by kernel_rfl
@[go_sem] theorem tfld_87_4 : tfld Tryz.prog 87 4 = some (6, 1, false) := by kernel_rfl
@[go_sem] theorem tfld_87_5 : tfld Tryz.prog 87 5 = some (7, 7, true) := by kernel_rfl
@[go_sem] theorem tfld_87_6 : tfld Tryz.prog 87 6 = some (14, 1, false) := by kernel_rfl
@[go_sem] theorem tfld_87_7 : tfld Tryz.prog 87 7 = some (15, 1, false) := by kernel_rfl
@[go_sem] theorem tbd_87 : tbd Tryz.prog 87 = .str [(0, 1), (1, 3), (4, 1), (5, 1), (6, 1), (7, 7), (14, 1), (15, 1)] [.int .i64 0, .int .i64 0, .str [], .str [], .str [], .str [], .int .i64 0, .int .i64 0, .str [], .str [], .int .i64 0, .str [], .sl .nil [], .int .i64 0, .sl .nil [], .sl .nil []] := by kernel_rfl
@[go_sem] theorem tkn_88 : tkn Tryz.prog 88 = true := by kernel_rfl
@[go_sem] theorem tsz_88 : tsz Tryz.prog 88 = 20 := by kernel_rfl
@[go_sem] theorem tagg_88 : tagg Tryz.prog 88 = true := by kernel_rfl
@[go_sem] theorem tzero_88 : tzero Tryz.prog 88 = some [.int .i64 0, .int .i64 0, .int .i64 0, .int .i64 0, .int .i64 0, .int .i64 0, .str [], .str [], .str [], .str [], .int .i64 0, .int .i64 0, .str [], .str [], .int .i64 0, .str [], .sl .nil [], .int .i64 0, .sl .nil [], .sl .nil []] := by kernel_rfl
@[go_sem] theorem tbdz_88 : aMakeFull.tbdz Tryz.prog 88 = some [.int .i64 0, .int .i64 0, .int .i64 0, .int .i64 0, .int .i64 0, .int .i64 0, .str [], .str [], .str [], .str [], .int .i64 0, .int .i64 0, .str [], .str [], .int .i64 0, .str [], .sl .nil [], .int .i64 0, .sl .nil [], .sl .nil []] := by kernel_rfl
@[go_sem] theorem tfld_88_0 : tfld Tryz.prog 88 0 = some (0, 2, true) := by kernel_rfl
@[go_sem] theorem tfld_88_1 : tfld Tryz.prog 88 1 = some (2, 2, true) := by kernel_rfl
@[go_sem] theorem tfld_88_2 : tfld Tryz.prog 88 2 = some (4, 16, true) := by kernel_rfl
@[go_sem] theorem tbd_88 : tbd Tryz.prog 88 = .str [(0, 2), (2, 2), (4, 16)] [.int .i64 0, .int .i64 0, .int .i64 0, .int .i64 0, .int .i64 0, .int .i64 0, .str [], .str [], .str [], .str [], .int .i64 0, .int .i64 0, .str [], .str [], .int .i64 0, .str [], .sl .nil [], .int .i64 0, .sl .nil [], .sl .nil []] := by kernel_rfl
@[go_sem] theorem tkn_89 : tkn Tryz.prog 89 = true := by kernel_rfl
@[go_sem] theorem tsz_89 : tsz Tryz.prog 89 = 20 := by kernel_rfl
@[go_sem] theorem tagg_89 : tagg Tryz.prog 89 = true := by kernel_rfl
@[go_sem] theorem tzero_89 : tzero Tryz.prog 89 = some [.int .i64 0, .int .i64 0, .int .i64 0, .int .i64 0, .int .i64 0, .int .i64 0, .str [], .str [], .str [], .str [], .int .i64 0, .int .i64 0, .str [], .str [], .int .i64 0, .str [], .sl .nil [], .int .i64 0, .sl .nil [], .sl .nil []] := by kernel_rfl
@[go_sem] theorem tbdz_89 : aMakeFull.tbdz Tryz.prog 89 = some [.int .i64 0, .int .i64 0, .int .i64 0, .int .i64 0, .int .i64 0, .int .i64 0, .str [], .str [], .str [], .str [], .int .i64 0, .int .i64 0, .str [], .str [], .int .i64 0, .str [], .sl .nil [], .int .i64 0, .sl .nil [], .sl .nil []] := by kernel_rfl
@[go_sem] theorem tfld_89_0 : tfld Tryz.prog 89 0 = some (0, 2, true) := by kernel_rfl
@[go_sem] theorem tfld_89_1 : tfld Tryz.prog 89 1 = some (2, 2, true) := by kernel_rfl
@[go_sem] theorem tfld_89_2 : tfld Tryz.prog 89 2 = some (4, 16, true) := by kernel_rfl
@[go_sem] theorem tbd_89 : tbd Tryz.prog 89 = .str [(0, 2), (2, 2), (4, 16)] [.int .i64 0, .int .i64 0, .int .i64 0, .int .i64 0, .int .i64 0, .int .i64 0, .str [], .str [], .str [], .str [], .int .i64 0, .int .i64 0, .str [], .str [], .int .i64 0, .str [], .sl .nil [], .int .i64 0, .sl .nil [], .sl .nil []] := by kernel_rfl
@[go_sem] theorem tkn_90 : tkn Tryz.prog 90 = true := by kernel_rfl
@[go_sem] theorem tsz_90 : tsz Tryz.prog 90 = 7 := by kernel_rfl
@[go_sem] theorem tagg_90 : tagg Tryz.prog 90 = true := by kernel_rfl
@[go_sem] theorem tzero_90 : tzero Tryz.prog 90 = some [.int .i64 0, .int .i64 0, .str [], .str [], .int .i64 0, .str [], .str []] := by kernel_rfl
@[go_sem] theorem tbdz_90 : aMakeFull.tbdz Tryz.prog 90 = some [.int .i64 0, .int .i64 0, .str [], .str [], .int .i64 0, .str [], .str []] := by kernel_rfl
@[go_sem] theorem tfld_90_0 : tfld Tryz.prog 90 0 = some (0, 1, false) := by kernel_rfl
@[go_sem] theorem tfld_90_1 : tfld Tryz.prog 90 1 = some (1, 3, true) := by kernel_rfl
@[go_sem] theorem tfld_90_2 : tfld Tryz.prog 90 2 = some (4, 3, true) := by kernel_rfl
@[go_sem] theorem tbd_90 : tbd Tryz.prog 90 = .str [(0, 1), (1, 3), (4, 3)] [.int .i64 0, .int .i64 0, .str [], .str [], .int .i64 0, .str [], .str []] := by kernel_rfl
@[go_sem] theorem tleaves_90 : tleaves Tryz.prog 90 = some [.int, .int, .str, .str, .int, .str, .str] := by kernel_rfl
@[go_sem] theorem tkn_91 : tkn Tryz.prog 91 = true := by kernel_rfl
@[go_sem] theorem tsz_91 : tsz Tryz.prog 91 = 7 := by kernel_rfl
@[go_sem] theorem tagg_91 : tagg Tryz.prog 91 = true := by kernel_rfl
@[go_sem] theorem tzero_91 : tzero Tryz.prog 91 = some [.int .i64 0, .int .i64 0, .str [], .str [], .int .i64 0, .str [], .str []] := by kernel_rfl
@[go_sem] theorem tbdz_91 : aMakeFull.tbdz Tryz.prog 91 = some [.int .i64 0, .int .i64 0, .str [], .str [], .int .i64 0, .str [], .str []] := by kernel_rfl
@[go_sem] theorem tfld_91_0 : tfld Tryz.prog 91 0 = some (0, 1, false) := by kernel_rfl
@[go_sem] theorem tfld_91_1 : tfld Tryz.prog 91 1 = some (1, 3, true) := by kernel_rfl
@[go_sem] theorem tfld_91_2 : tfld Tryz.prog 91 2 = some (4, 3, true) := by kernel_rfl
@[go_sem] theorem tbd_91 : tbd Tryz.prog 91 = .str [(0, 1), (1, 3), (4, 3)] [.int .i64 0, .int .i64 0, .str [], .str [], .int .i64 0, .str [], .str []] := by kernel_rfl
@[go_sem] theorem tleaves_91 : tleaves Tryz.prog 91 = some [.int, .int, .str, .str, .int, .str, .str] := by kernel_rfl
@[go_sem] theorem tkn_97 : tkn Tryz.prog 97 = true := by kernel_rfl
@[go_sem] theorem tsz_97 : tsz Tryz.prog 97 = 1 := by kernel_rfl
@[go_sem] theorem tagg_97 : tagg Tryz.prog 97 = false := by kernel_rfl
@[go_sem] theorem tzero_97 : tzero Tryz.prog 97 = some [.nilmap] := by kernel_rfl
@[go_sem] theorem tbdz_97 : aMakeFull.tbdz Tryz.prog 97 = some [.nilmap] := by kernel_rfl
@[go_sem] theorem teqk_97 : teqk Tryz.prog 97 = .map := by kernel_rfl
@[go_sem] theorem tmapB_97 : tmapB Tryz.prog 97 = true := by kernel_rfl
@[go_sem] theorem tmap_97 : tmap Tryz.prog 97 = some ([.int, .str, .str], .agg []) := by kernel_rfl
@[go_sem] theorem tkn_100 : tkn Tryz.prog 100 = true := by kernel_rfl
@[go_sem] theorem tsz_100 : tsz Tryz.prog 100 = 0 := by kernel_rfl
@[go_sem] theorem tagg_100 : tagg Tryz.prog 100 = true := by kernel_rfl
@[go_sem] theorem tzero_100 : tzero Tryz.prog 100 = some [] := by kernel_rfl
@[go_sem] theorem tbdz_100 : aMakeFull.tbdz Tryz.prog 100 = some [] := by kernel_rfl
@[go_sem] theorem tbd_100 : tbd Tryz.prog 100 = .str [] [] := by kernel_rfl
@[go_sem] theorem tkn_102 : tkn Tryz.prog 102 = true := by kernel_rfl
@[go_sem] theorem tsz_102 : tsz Tryz.prog 102 = 1 := by kernel_rfl
@[go_sem] theorem tagg_102 : tagg Tryz.prog 102 = false := by kernel_rfl
@[go_sem] theorem tzero_102 : tzero Tryz.prog 102 = some [.sl .nil []] := by kernel_rfl
@[go_sem] theorem tbdz_102 : aMakeFull.tbdz Tryz.prog 102 = some [.sl .nil []] := by kernel_rfl
@[go_sem] theorem tix_102 : tix Tryz.prog 102 = .slc 16 true := by kernel_rfl
@[go_sem] theorem tlen_102 : tlen Tryz.prog 102 = .slc := by kernel_rfl
@[go_sem] theorem teqk_102 : teqk Tryz.prog 102 = .slc := by kernel_rfl
@[go_sem] theorem telem_102 : telem Tryz.prog 102 = some ⟨87, 16, 232⟩ := by kernel_rfl
@[go_sem] theorem tkn_105 : tkn Tryz.prog 105 = true := by kernel_rfl
@[go_sem] theorem tsz_105 : tsz Tryz.prog 105 = 1 := by kernel_rfl
@[go_sem] theorem tagg_105 : tagg Tryz.prog 105 = false := by kernel_rfl
@[go_sem] theorem tzero_105 : tzero Tryz.prog 105 = some [.sl .nil []] := by kernel_rfl
@[go_sem] theorem tbdz_105 : aMakeFull.tbdz Tryz.prog 105 = some [.sl .nil []] := by kernel_rfl
@[go_sem] theorem tix_105 : tix Tryz.prog 105 = .slc 3 true := by kernel_rfl
@[go_sem] theorem tlen_105 : tlen Tryz.prog 105 = .slc := by kernel_rfl
@[go_sem] theorem teqk_105 : teqk Tryz.prog 105 = .slc := by kernel_rfl
@[go_sem] theorem telem_105 : telem Tryz.prog 105 = some ⟨44, 3, 40⟩ := by kernel_rfl
@[go_sem] theorem tkn_120 : tkn Tryz.prog 120 = true := by kernel_rfl
@[go_sem] theorem tsz_120 : tsz Tryz.prog 120 = 23 := by kernel_rfl
@[go_sem] theorem tagg_120 : tagg Tryz.prog 120 = true := by kernel_rfl
@[go_sem] theorem tzero_120 : tzero Tryz.prog 120 = some [.int .i64 0, .int .i64 0, .int .i64 0, .int .i64 0, .int .i64 0, .int .i64 0, .str [], .str [], .str [], .str [], .int .i64 0, .int .i64 0, .str [], .str [], .int .i64 0, .str [], .sl .nil [], .int .i64 0, .sl .nil [], .sl .nil [], .int .i64 0, .sl .nil [], .int .i64 0] := by kernel_rfl
@[go_sem] theorem tbdz_120 : aMakeFull.tbdz Tryz.prog 120 = some [.int .i64 0, .int .i64 0, .int .i64 0, .int .i64 0, .int .i64 0, .int .i64 0, .str [], .str [], .str [], .str [], .int .i64 0, .int .i64 0, .str [], .str [], .int .i64 0, .str [], .sl .nil [], .int .i64 0, .sl .nil [], .sl .nil [], .int .i64 0, .sl .nil [], .int .i64 0] := by kernel_rfl
@[go_sem] theorem tfld_120_0 : tfld Tryz.prog 120 0 = some (0, 20, true) := by kernel_rfl
@[go_sem] theorem tfld_120_1 : tfld Tryz.prog 120 1 = some (20, 1, false) := by kernel_rfl
@[go_sem] theorem tfld_120_2 : tfld Tryz.prog 120 2 = some (21, 1, false) := by kernel_rfl
@[go_sem] theorem tfld_120_3 : tfld Tryz.prog 120 3 = some (22, 1, false) := by kernel_rfl
@[go_sem] theorem tbd_120 : tbd Tryz.prog 120 = .str [(0, 20), (20, 1), (21, 1), (22, 1)] [.int .i64 0, .int .i64 0, .int .i64 0, .int .i64 0, .int .i64 0, .int .i64 0, .str [], .str [], .str [], .str [], .int .i64 0, .int .i64 0, .str [], .str [], .int .i64 0, .str [], .sl .nil [], .int .i64 0, .sl .nil [], .sl .nil [], .int .i64 0, .sl .nil [], .int .i64 0] := by kernel_rfl
@[go_sem] theorem tkn_121 : tkn Tryz.prog 121 = true := by kernel_rfl
@[go_sem] theorem tsz_121 : tsz Tryz.prog 121 = 23 := by kernel_rfl
@[go_sem] theorem tagg_121 : tagg Tryz.prog 121 = true := by kernel_rfl
@[go_sem] theorem tzero_121 : tzero Tryz.prog 121 = some [.int .i64 0, .int .i64 0, .int .i64 0, .int .i64 0, .int .i64 0, .int .i64 0, .str [], .str [], .str [], .str [], .int .i64 0, .int .i64 0, .str [], .str [], .int .i64 0, .str [], .sl .nil [], .int .i64 0, .sl .nil [], .sl .nil [], .int .i64 0, .sl .nil [], .int .i64 0] := by kernel_rfl
@[go_sem] theorem tbdz_121 : aMakeFull.tbdz Tryz.prog 121 = some [.int .i64 0, .int .i64 0, .int .i64 0, .int .i64 0, .int .i64 0, .int .i64 0, .str [], .str [], .str [], .str [], .int .i64 0, .int .i64 0, .str [], .str [], .int .i64 0, .str [], .sl .nil [], .int .i64 0, .sl .nil [], .sl .nil [], .int .i64 0, .sl .nil [], .int .i64 0] := by kernel_rfl
@[go_sem] theorem tfld_121_0 : tfld Tryz.prog 121 0 = some (0, 20, true) := by kernel_rfl
@[go_sem] theorem tfld_121_1 : tfld Tryz.prog 121 1 = some (20, 1, false) := by kernel_rfl
@[go_sem] theorem tfld_121_2 : tfld Tryz.prog 121 2 = some (21, 1, false) := by kernel_rfl
@[go_sem] theorem tfld_121_3 : tfld Tryz.prog 121 3 = some (22, 1, false) := by kernel_rfl
@[go_sem] theorem tbd_121 : tbd Tryz.prog 121 = .str [(0, 20), (20, 1), (21, 1), (22, 1)] [.int .i64 0, .int .i64 0, .int .i64 0, .int .i64 0, .int .i64 0, .int .i64 0, .str [], .str [], .str [], .str [], .int .i64 0, .int .i64 0, .str [], .str [], .int .i64 0, .str [], .sl .nil [], .int .i64 0, .sl .nil [], .sl .nil [], .int .i64 0, .sl .nil [], .int .i64 0] := by kernel_rfl
@[go_sem] theorem tkn_127 : tkn Tryz.prog 127 = true := by kernel_rfl
@[go_sem] theorem tsz_127 : tsz Tryz.prog 127 = 5 := by kernel_rfl
@[go_sem] theorem tagg_127 : tagg Tryz.prog 127 = true := by kernel_rfl
@[go_sem] theorem tzero_127 : tzero Tryz.prog 127 = some [.int .i64 0, .str [], .str [], .int .i64 0, .sl .nil []] := by kernel_rfl
@[go_sem] theorem tbdz_127 : aMakeFull.tbdz Tryz.prog 127 = some [.int .i64 0, .str [], .str [], .int .i64 0, .sl .nil []] := by kernel_rfl
@[go_sem] theorem tfld_127_0 : tfld Tryz.prog 127 0 = some (0, 3, true) := by kernel_rfl
@[go_sem] theorem tfld_127_1 : tfld Tryz.prog 127 1 = some (3, 1, false) := by kernel_rfl
@[go_sem] theorem tfld_127_2 : tfld Tryz.prog 127 2 = some (4, 1, false) := by kernel_rfl
@[go_sem] theorem tbd_127 : tbd Tryz.prog 127 = .str [(0, 3), (3, 1), (4, 1)] [.int .i64 0, .str [], .str [], .int .i64 0, .sl .nil []] := by kernel_rfl
@[go_sem] theorem tkn_128 : tkn Tryz.prog 128 = true := by kernel_rfl
@[go_sem] theorem tsz_128 : tsz Tryz.prog 128 = 5 := by kernel_rfl
@[go_sem] theorem tagg_128 : tagg Tryz.prog 128 = true := by kernel_rfl
@[go_sem] theorem tzero_128 : tzero Tryz.prog 128 = some [.int .i64 0, .str [], .str [], .int .i64 0, .sl .nil []] := by kernel_rfl
@[go_sem] theorem tbdz_128 : aMakeFull.tbdz Tryz.prog 128 = some [.int .i64 0, .str [], .str [], .int .i64 0, .sl .nil []] := by kernel_rfl
@[go_sem] theorem tfld_128_0 : tfld Tryz.prog 128 0 = some (0, 3, true) := by kernel_rfl
@[go_sem] theorem tfld_128_1 : tfld Tryz.prog 128 1 = some (3, 1, false) := by kernel_rfl
@[go_sem] theorem tfld_128_2 : tfld Tryz.prog 128 2 = some (4, 1, false) := by kernel_rfl
@[go_sem] theorem tbd_128 : tbd Tryz.prog 128 = .str [(0, 3), (3, 1), (4, 1)] [.int .i64 0, .str [], .str [], .int .i64 0, .sl .nil []] := by kernel_rfl
@[go_sem] theorem tkn_129 : tkn Tryz.prog 129 = true := by kernel_rfl
@[go_sem] theorem tsz_129 : tsz Tryz.prog 129 = 2 := by kernel_rfl
@[go_sem] theorem tagg_129 : tagg Tryz.prog 129 = true := by kernel_rfl
@[go_sem] theorem tzero_129 : tzero Tryz.prog 129 = some [.str [], .sl .nil []] := by kernel_rfl
@[go_sem] theorem tbdz_129 : aMakeFull.tbdz Tryz.prog 129 = some [.str [], .sl .nil []] := by kernel_rfl
@[go_sem] theorem tfld_129_0 : tfld Tryz.prog 129 0 = some (0, 1, false) := by kernel_rfl
@[go_sem] theorem tfld_129_1 : tfld Tryz.prog 129 1 = some (1, 1, false) := by kernel_rfl
@[go_sem] theorem tbd_129 : tbd Tryz.prog 129 = .str [(0, 1), (1, 1)] [.str [], .sl .nil []] := by kernel_rfl
@[go_sem] theorem tkn_130 : tkn Tryz.prog 130 = true := by kernel_rfl
@[go_sem] theorem tsz_130 : tsz Tryz.prog 130 = 2 := by kernel_rfl
@[go_sem] theorem tagg_130 : tagg Tryz.prog 130 = true := by kernel_rfl
@[go_sem] theorem tzero_130 : tzero Tryz.prog 130 = some [.str [], .sl .nil []] := by kernel_rfl
@[go_sem] theorem tbdz_130 : aMakeFull.tbdz Tryz.prog 130 = some [.str [], .sl .nil []] := by kernel_rfl
@[go_sem] theorem tfld_130_0 : tfld Tryz.prog 130 0 = some (0, 1, false) := by kernel_rfl
@[go_sem] theorem tfld_130_1 : tfld Tryz.prog 130 1 = some (1, 1, false) := by kernel_rfl
@[go_sem] theorem tbd_130 : tbd Tryz.prog 130 = .str [(0, 1), (1, 1)] [.str [], .sl .nil []] := by kernel_rfl
@[go_sem] theorem tkn_152 : tkn Tryz.prog 152 = true := by kernel_rfl
@[go_sem] theorem tsz_152 : tsz Tryz.prog 152 = 1 := by kernel_rfl
@[go_sem] theorem tagg_152 : tagg Tryz.prog 152 = false := by kernel_rfl
@[go_sem] theorem tzero_152 : tzero Tryz.prog 152 = some [.sl .nil []] := by kernel_rfl
@[go_sem] theorem tbdz_152 : aMakeFull.tbdz Tryz.prog 152 = some [.sl .nil []] := by kernel_rfl
@[go_sem] theorem tix_152 : tix Tryz.prog 152 = .slc 3 true := by kernel_rfl
@[go_sem] theorem tlen_152 : tlen Tryz.prog 152 = .slc := by kernel_rfl
@[go_sem] theorem teqk_152 : teqk Tryz.prog 152 = .slc := by kernel_rfl
@[go_sem] theorem telem_152 : telem Tryz.prog 152 = some ⟨173, 3, 24⟩ := by kernel_rfl
@[go_sem] theorem tkn_156 : tkn Tryz.prog 156 = true := by kernel_rfl
@[go_sem] theorem tsz_156 : tsz Tryz.prog 156 = 1 := by kernel_rfl
@[go_sem] theorem tagg_156 : tagg Tryz.prog 156 = false := by kernel_rfl
@[go_sem] theorem tzero_156 : tzero Tryz.prog 156 = some [.nilmap] := by kernel_rfl
@[go_sem] theorem tbdz_156 : aMakeFull.tbdz Tryz.prog 156 = some [.nilmap] := by kernel_rfl
@[go_sem] theorem teqk_156 : teqk Tryz.prog 156 = .map := by kernel_rfl
@[go_sem] theorem tmapB_156 : tmapB Tryz.prog 156 = true := by kernel_rfl
@[go_sem] theorem tmap_156 : tmap Tryz.prog 156 = some ([.int, .int], .agg [.int .i64 0, .int .i64 0, .int .i64 0, .int .i64 0, .int .i64 0, .int .i64 0, .str [], .str [], .str [], .str [], .int .i64 0, .int .i64 0, .str [], .str [], .int .i64 0, .str [], .sl .nil [], .int .i64 0, .sl .nil [], .sl .nil [], .int .i64 0, .sl .nil [], .int .i64 0]) := by kernel_rfl
@[go_sem] theorem tkn_157 : tkn Tryz.prog 157 = true := by kernel_rfl
@[go_sem] theorem tsz_157 : tsz Tryz.prog 157 = 1 := by kernel_rfl
@[go_sem] theorem tagg_157 : tagg Tryz.prog 157 = true := by kernel_rfl
@[go_sem] theorem tzero_157 : tzero Tryz.prog 157 = some [.nilmap] := by kernel_rfl
@[go_sem] theorem tbdz_157 : aMakeFull.tbdz Tryz.prog 157 = some [.nilmap] := by kernel_rfl
@[go_sem] theorem tfld_157_0 : tfld Tryz.prog 157 0 = some (0, 1, false) := by kernel_rfl
@[go_sem] theorem tbd_157 : tbd Tryz.prog 157 = .str [(0, 1)] [.nilmap] := by kernel_rfl
@[go_sem] theorem tkn_158 : tkn Tryz.prog 158 = true := by kernel_rfl
@[go_sem] theorem tsz_158 : tsz Tryz.prog 158 = 1 := by kernel_rfl
@[go_sem] theorem tagg_158 : tagg Tryz.prog 158 = true := by kernel_rfl
@[go_sem] theorem tzero_158 : tzero Tryz.prog 158 = some [.nilmap] := by kernel_rfl
@[go_sem] theorem tbdz_158 : aMakeFull.tbdz Tryz.prog 158 = some [.nilmap] := by kernel_rfl
@[go_sem] theorem tfld_158_0 : tfld Tryz.prog 158 0 = some (0, 1, false) := by kernel_rfl
@[go_sem] theorem tbd_158 : tbd Tryz.prog 158 = .str [(0, 1)] [.nilmap] := by kernel_rfl
@[go_sem] theorem tkn_172 : tkn Tryz.prog 172 = true := by kernel_rfl
@[go_sem] theorem tsz_172 : tsz Tryz.prog 172 = 3 := by kernel_rfl
@[go_sem] theorem tagg_172 : tagg Tryz.prog 172 = true := by kernel_rfl
@[go_sem] theorem tzero_172 : tzero Tryz.prog 172 = some [.int .i64 0, .int .i64 0, .bool false] := by kernel_rfl
@[go_sem] theorem tbdz_172 : aMakeFull.tbdz Tryz.prog 172 = some [.int .i64 0, .int .i64 0, .bool false] := by kernel_rfl
@[go_sem] theorem tfld_172_0 : tfld Tryz.prog 172 0 = some (0, 2, true) := by kernel_rfl
@[go_sem] theorem tfld_172_1 : tfld Tryz.prog 172 1 = some (2, 1, false) := by kernel_rfl
@[go_sem] theorem tbd_172 : tbd Tryz.prog 172 = .str [(0, 2), (2, 1)] [.int .i64 0, .int .i64 0, .bool false] := by kernel_rfl
@[go_sem] theorem tleaves_172 : tleaves Tryz.prog 172 = some [.int, .int, .bool] := by kernel_rfl
@[go_sem] theorem tkn_173 : tkn Tryz.prog 173 = true := by kernel_rfl
@[go_sem] theorem tsz_173 : tsz Tryz.prog 173 = 3 := by kernel_rfl
@[go_sem] theorem tagg_173 : tagg Tryz.prog 173 = true := by kernel_rfl
@[go_sem] theorem tzero_173 : tzero Tryz.prog 173 = some [.int .i64 0, .int .i64 0, .bool false] := by kernel_rfl
@[go_sem] theorem tbdz_173 : aMakeFull.tbdz Tryz.prog 173 = some [.int .i64 0, .int .i64 0, .bool false] := by kernel_rfl
@[go_sem] theorem tfld_173_0 : tfld Tryz.prog 173 0 = some (0, 2, true) := by kernel_rfl
@[go_sem] theorem tfld_173_1 : tfld Tryz.prog 173 1 = some (2, 1, false) := by kernel_rfl
@[go_sem] theorem tbd_173 : tbd Tryz.prog 173 = .str [(0, 2), (2, 1)] [.int .i64 0, .int .i64 0, .bool false] := by kernel_rfl
@[go_sem] theorem tleaves_173 : tleaves Tryz.prog 173 = some [.int, .int, .bool] := by kernel_rfl
@[go_sem] theorem tkn_218 : tkn Tryz.prog 218 = true := by kernel_rfl
@[go_sem] theorem tsz_218 : tsz Tryz.prog 218 = 2 := by kernel_rfl
@[go_sem] theorem tagg_218 : tagg Tryz.prog 218 = true := by kernel_rfl
@[go_sem] theorem tzero_218 : tzero Tryz.prog 218 = some [.str [], .str []] := by kernel_rfl
@[go_sem] theorem tbdz_218 : aMakeFull.tbdz Tryz.prog 218 = some [.str [], .str []] := by kernel_rfl
@[go_sem] theorem tfld_218_0 : tfld Tryz.prog 218 0 = some (0, 1, false) := by kernel_rfl
@[go_sem] theorem tfld_218_1 : tfld Tryz.prog 218 1 = some (1, 1, false) := by kernel_rfl
@[go_sem] theorem tbd_218 : tbd Tryz.prog 218 = .str [(0, 1), (1, 1)] [.str [], .str []] := by kernel_rfl
@[go_sem] theorem tleaves_218 : tleaves Tryz.prog 218 = some [.str, .str] := by kernel_rfl
@[go_sem] theorem tkn_219 : tkn Tryz.prog 219 = true := by kernel_rfl
@[go_sem] theorem tsz_219 : tsz Tryz.prog 219 = 2 := by kernel_rfl
@[go_sem] theorem tagg_219 : tagg Tryz.prog 219 = true := by kernel_rfl
@[go_sem] theorem tzero_219 : tzero Tryz.prog 219 = some [.str [], .str []] := by kernel_rfl
@[go_sem] theorem tbdz_219 : aMakeFull.tbdz Tryz.prog 219 = some [.str [], .str []] := by kernel_rfl
@[go_sem] theorem tfld_219_0 : tfld Tryz.prog 219 0 = some (0, 1, false) := by kernel_rfl
@[go_sem] theorem tfld_219_1 : tfld Tryz.prog 219 1 = some (1, 1, false) := by kernel_rfl
@[go_sem] theorem tbd_219 : tbd Tryz.prog 219 = .str [(0, 1), (1, 1)] [.str [], .str []] := by kernel_rfl
@[go_sem] theorem tleaves_219 : tleaves Tryz.prog 219 = some [.str, .str] := by kernel_rfl
@[go_sem] theorem tkn_254 : tkn Tryz.prog 254 = true := by kernel_rfl
@[go_sem] theorem tsz_254 : tsz Tryz.prog 254 = 1 := by kernel_rfl
@[go_sem] theorem tagg_254 : tagg Tryz.prog 254 = false := by kernel_rfl
@[go_sem] theorem tzero_254 : tzero Tryz.prog 254 = some [.int .u64 0] := by kernel_rfl
@[go_sem] theorem tbdz_254 : aMakeFull.tbdz Tryz.prog 254 = some [.int .u64 0] := by kernel_rfl
@[go_sem] theorem tkn_255 : tkn Tryz.prog 255 = true := by kernel_rfl
@[go_sem] theorem tsz_255 : tsz Tryz.prog 255 = 1 := by kernel_rfl
@[go_sem] theorem tagg_255 : tagg Tryz.prog 255 = false := by kernel_rfl
@[go_sem] theorem tkn_260 : tkn Tryz.prog 260 = true := by kernel_rfl
@[go_sem] theorem tsz_260 : tsz Tryz.prog 260 = 1 := by kernel_rfl
@[go_sem] theorem tagg_260 : tagg Tryz.prog 260 = false := by kernel_rfl
@[go_sem] theorem tzero_260 : tzero Tryz.prog 260 = some [.int .i64 0] := by kernel_rfl
@[go_sem] theorem tbdz_260 : aMakeFull.tbdz Tryz.prog 260 = some [.int .i64 0] := by kernel_rfl
@[go_sem] theorem tkn_268 : tkn Tryz.prog 268 = true := by kernel_rfl
@[go_sem] theorem tsz_268 : tsz Tryz.prog 268 = 1 := by kernel_rfl
@[go_sem] theorem tagg_268 : tagg Tryz.prog 268 = false := by kernel_rfl
@[go_sem] theorem tzero_268 : tzero Tryz.prog 268 = some [.int .u32 0] := by kernel_rfl
@[go_sem] theorem tbdz_268 : aMakeFull.tbdz Tryz.prog 268 = some [.int .u32 0] := by kernel_rfl
@[go_sem] theorem tkn_270 : tkn Tryz.prog 270 = true := by kernel_rfl
@[go_sem] theorem tsz_270 : tsz Tryz.prog 270 = 1 := by kernel_rfl
@[go_sem] theorem tagg_270 : tagg Tryz.prog 270 = false := by kernel_rfl
@[go_sem] theorem tzero_270 : tzero Tryz.prog 270 = some [.int .u64 0] := by kernel_rfl
@[go_sem] theorem tbdz_270 : aMakeFull.tbdz Tryz.prog 270 = some [.int .u64 0] := by kernel_rfl
@[go_sem] theorem tkn_271 : tkn Tryz.prog 271 = true := by kernel_rfl
@[go_sem] theorem tsz_271 : tsz Tryz.prog 271 = 1 := by kernel_rfl
@[go_sem] theorem tagg_271 : tagg Tryz.prog 271 = false := by kernel_rfl
@[go_sem] theorem tzero_271 : tzero Tryz.prog 271 = some [.flt .f64 0] := by kernel_rfl
@[go_sem] theorem tbdz_271 : aMakeFull.tbdz Tryz.prog 271 = some [.flt .f64 0] := by kernel_rfl
@[go_sem] theorem tkn_274 : tkn Tryz.prog 274 = true := by kernel_rfl
@[go_sem] theorem tsz_274 : tsz Tryz.prog 274 = 1 := by kernel_rfl
@[go_sem] theorem tagg_274 : tagg Tryz.prog 274 = false := by kernel_rfl
@[go_sem] theorem tzero_274 : tzero Tryz.prog 274 = some [.int .u64 0] := by kernel_rfl
@[go_sem] theorem tbdz_274 : aMakeFull.tbdz Tryz.prog 274 = some [.int .u64 0] := by kernel_rfl
@[go_sem] theorem tkn_278 : tkn Tryz.prog 278 = true := by kernel_rfl
@[go_sem] theorem tsz_278 : tsz Tryz.prog 278 = 1 := by kernel_rfl
@[go_sem] theorem tagg_278 : tagg Tryz.prog 278 = false := by kernel_rfl
@[go_sem] theorem tzero_278 : tzero Tryz.prog 278 = some [.nilp] := by kernel_rfl
@[go_sem] theorem tbdz_278 : aMakeFull.tbdz Tryz.prog 278 = some [.nilp] := by kernel_rfl
@[go_sem] theorem teqk_278 : teqk Tryz.prog 278 = .ptr := by kernel_rfl
@[go_sem] theorem tkn_281 : tkn Tryz.prog 281 = true := by kernel_rfl
@[go_sem] theorem tsz_281 : tsz Tryz.prog 281 = 1 := by kernel_rfl
@[go_sem] theorem tagg_281 : tagg Tryz.prog 281 = false := by kernel_rfl
@[go_sem] theorem tzero_281 : tzero Tryz.prog 281 = some [.nilp] := by kernel_rfl
@[go_sem] theorem tbdz_281 : aMakeFull.tbdz Tryz.prog 281 = some [.nilp] := by kernel_rfl
@[go_sem] theorem teqk_281 : teqk Tryz.prog 281 = .ptr := by kernel_rfl
@[go_sem] theorem tkn_285 : tkn Tryz.prog 285 = true := by kernel_rfl
@[go_sem] theorem tsz_285 : tsz Tryz.prog 285 = 2 := by kernel_rfl
@[go_sem] theorem tagg_285 : tagg Tryz.prog 285 = true := by kernel_rfl
@[go_sem] theorem tzero_285 : tzero Tryz.prog 285 = some [.flt .f64 0, .flt .f64 0] := by kernel_rfl
@[go_sem] theorem tbdz_285 : aMakeFull.tbdz Tryz.prog 285 = some [.flt .f64 0, .flt .f64 0] := by kernel_rfl
@[go_sem] theorem tix_285 : tix Tryz.prog 285 = .arr 2 1 false := by kernel_rfl
@[go_sem] theorem tlen_285 : tlen Tryz.prog 285 = .arr 2 := by kernel_rfl
@[go_sem] theorem tbd_285 : tbd Tryz.prog 285 = .arr 1 [.flt .f64 0, .flt .f64 0] := by kernel_rfl
@[go_sem] theorem tkn_294 : tkn Tryz.prog 294 = true := by kernel_rfl
@[go_sem] theorem tsz_294 : tsz Tryz.prog 294 = 0 := by kernel_rfl
@[go_sem] theorem tagg_294 : tagg Tryz.prog 294 = true := by kernel_rfl
@[go_sem] theorem tzero_294 : tzero Tryz.prog 294 = some [] := by kernel_rfl
@[go_sem] theorem tbdz_294 : aMakeFull.tbdz Tryz.prog 294 = some [] := by kernel_rfl
@[go_sem] theorem tix_294 : tix Tryz.prog 294 = .arr 0 1 false := by kernel_rfl
@[go_sem] theorem tlen_294 : tlen Tryz.prog 294 = .arr 0 := by kernel_rfl
@[go_sem] theorem tbd_294 : tbd Tryz.prog 294 = .arr 1 [] := by kernel_rfl
@[go_sem] theorem tkn_301 : tkn Tryz.prog 301 = true := by kernel_rfl
@[go_sem] theorem tsz_301 : tsz Tryz.prog 301 = 1 := by kernel_rfl
@[go_sem] theorem tagg_301 : tagg Tryz.prog 301 = false := by kernel_rfl
@[go_sem] theorem tzero_301 : tzero Tryz.prog 301 = some [.nilp] := by kernel_rfl
@[go_sem] theorem tbdz_301 : aMakeFull.tbdz Tryz.prog 301 = some [.nilp] := by kernel_rfl
@[go_sem] theorem teqk_301 : teqk Tryz.prog 301 = .ptr := by kernel_rfl
@[go_sem] theorem tcv_2_2 : tcv Tryz.prog 2 2 = .int .i64 := by kernel_rfl
@[go_sem] theorem tcv_2_3 : tcv Tryz.prog 2 3 = .int .i64 := by kernel_rfl
@[go_sem] theorem tcv_2_31 : tcv Tryz.prog 2 31 = .int .i64 := by kernel_rfl
@[go_sem] theorem tcv_2_260 : tcv Tryz.prog 2 260 = .int .i64 := by kernel_rfl
@[go_sem] theorem tcv_2_5 : tcv Tryz.prog 2 5 = .int .u8 := by kernel_rfl
@[go_sem] theorem tcv_2_12 : tcv Tryz.prog 2 12 = .int .u64 := by kernel_rfl
@[go_sem] theorem tcv_2_254 : tcv Tryz.prog 2 254 = .int .u64 := by kernel_rfl
@[go_sem] theorem tcv_2_270 : tcv Tryz.prog 2 270 = .int .u64 := by kernel_rfl
@[go_sem] theorem tcv_2_274 : tcv Tryz.prog 2 274 = .int .u64 := by kernel_rfl
@[go_sem] theorem tcv_2_21 : tcv Tryz.prog 2 21 = .int .i32 := by kernel_rfl
@[go_sem] theorem tcv_2_268 : tcv Tryz.prog 2 268 = .int .u32 := by kernel_rfl
@[go_sem] theorem tcv_3_2 : tcv Tryz.prog 3 2 = .int .i64 := by kernel_rfl
@[go_sem] theorem tcv_3_3 : tcv Tryz.prog 3 3 = .int .i64 := by kernel_rfl
@[go_sem] theorem tcv_3_31 : tcv Tryz.prog 3 31 = .int .i64 := by kernel_rfl
@[go_sem] theorem tcv_3_260 : tcv Tryz.prog 3 260 = .int .i64 := by kernel_rfl
@[go_sem] theorem tcv_3_5 : tcv Tryz.prog 3 5 = .int .u8 := by kernel_rfl
@[go_sem] theorem tcv_3_12 : tcv Tryz.prog 3 12 = .int .u64 := by kernel_rfl
@[go_sem] theorem tcv_3_254 : tcv Tryz.prog 3 254 = .int .u64 := by kernel_rfl
@[go_sem] theorem tcv_3_270 : tcv Tryz.prog 3 270 = .int .u64 := by kernel_rfl
@[go_sem] theorem tcv_3_274 : tcv Tryz.prog 3 274 = .int .u64 := by kernel_rfl
@[go_sem] theorem tcv_3_21 : tcv Tryz.prog 3 21 = .int .i32 := by kernel_rfl
@[go_sem] theorem tcv_3_268 : tcv Tryz.prog 3 268 = .int .u32 := by kernel_rfl
@[go_sem] theorem tcv_31_2 : tcv Tryz.prog 31 2 = .int .i64 := by kernel_rfl
@[go_sem] theorem tcv_31_3 : tcv Tryz.prog 31 3 = .int .i64 := by kernel_rfl
@[go_sem] theorem tcv_31_31 : tcv Tryz.prog 31 31 = .int .i64 := by kernel_rfl
@[go_sem] theorem tcv_31_260 : tcv Tryz.prog 31 260 = .int .i64 := by kernel_rfl
@[go_sem] theorem tcv_31_5 : tcv Tryz.prog 31 5 = .int .u8 := by kernel_rfl
@[go_sem] theorem tcv_31_12 : tcv Tryz.prog 31 12 = .int .u64 := by kernel_rfl
@[go_sem] theorem tcv_31_254 : tcv Tryz.prog 31 254 = .int .u64 := by kernel_rfl
@[go_sem] theorem tcv_31_270 : tcv Tryz.prog 31 270 = .int .u64 := by kernel_rfl
@[go_sem] theorem tcv_31_274 : tcv Tryz.prog 31 274 = .int .u64 := by kernel_rfl
@[go_sem] theorem tcv_31_21 : tcv Tryz.prog 31 21 = .int .i32 := by kernel_rfl
@[go_sem] theorem tcv_31_268 : tcv Tryz.prog 31 268 = .int .u32 := by kernel_rfl
@[go_sem] theorem tcv_260_2 : tcv Tryz.prog 260 2 = .int .i64 := by kernel_rfl
@[go_sem] theorem tcv_260_3 : tcv Tryz.prog 260 3 = .int .i64 := by kernel_rfl
@[go_sem] theorem tcv_260_31 : tcv Tryz.prog 260 31 = .int .i64 := by kernel_rfl
@[go_sem] theorem tcv_260_260 : tcv Tryz.prog 260 260 = .int .i64 := by kernel_rfl
@[go_sem] theorem tcv_260_5 : tcv Tryz.prog 260 5 = .int .u8 := by kernel_rfl
@[go_sem] theorem tcv_260_12 : tcv Tryz.prog 260 12 = .int .u64 := by kernel_rfl
@[go_sem] theorem tcv_260_254 : tcv Tryz.prog 260 254 = .int .u64 := by kernel_rfl
@[go_sem] theorem tcv_260_270 : tcv Tryz.prog 260 270 = .int .u64 := by kernel_rfl
@[go_sem] theorem tcv_260_274 : tcv Tryz.prog 260 274 = .int .u64 := by kernel_rfl
@[go_sem] theorem tcv_260_21 : tcv Tryz.prog 260 21 = .int .i32 := by kernel_rfl
@[go_sem] theorem tcv_260_268 : tcv Tryz.prog 260 268 = .int .u32 := by kernel_rfl
@[go_sem] theorem tcv_5_2 : tcv Tryz.prog 5 2 = .int .i64 := by kernel_rfl
@[go_sem] theorem tcv_5_3 : tcv Tryz.prog 5 3 = .int .i64 := by kernel_rfl
@[go_sem] theorem tcv_5_31 : tcv Tryz.prog 5 31 = .int .i64 := by kernel_rfl
@[go_sem] theorem tcv_5_260 : tcv Tryz.prog 5 260 = .int .i64 := by kernel_rfl
@[go_sem] theorem tcv_5_5 : tcv Tryz.prog 5 5 = .int .u8 := by kernel_rfl
@[go_sem] theorem tcv_5_12 : tcv Tryz.prog 5 12 = .int .u64 := by kernel_rfl
@[go_sem] theorem tcv_5_254 : tcv Tryz.prog 5 254 = .int .u64 := by kernel_rfl
@[go_sem] theorem tcv_5_270 : tcv Tryz.prog 5 270 = .int .u64 := by kernel_rfl
@[go_sem] theorem tcv_5_274 : tcv Tryz.prog 5 274 = .int .u64 := by kernel_rfl
@[go_sem] theorem tcv_5_21 : tcv Tryz.prog 5 21 = .int .i32 := by kernel_rfl
@[go_sem] theorem tcv_5_268 : tcv Tryz.prog 5 268 = .int .u32 := by kernel_rfl
@[go_sem] theorem tcv_12_2 : tcv Tryz.prog 12 2 = .int .i64 := by kernel_rfl
@[go_sem] theorem tcv_12_3 : tcv Tryz.prog 12 3 = .int .i64 := by kernel_rfl
@[go_sem] theorem tcv_12_31 : tcv Tryz.prog 12 31 = .int .i64 := by kernel_rfl
@[go_sem] theorem tcv_12_260 : tcv Tryz.prog 12 260 = .int .i64 := by kernel_rfl
@[go_sem] theorem tcv_12_5 : tcv Tryz.prog 12 5 = .int .u8 := by kernel_rfl
@[go_sem] theorem tcv_12_12 : tcv Tryz.prog 12 12 = .int .u64 := by kernel_rfl
@[go_sem] theorem tcv_12_254 : tcv Tryz.prog 12 254 = .int .u64 := by kernel_rfl
@[go_sem] theorem tcv_12_270 : tcv Tryz.prog 12 270 = .int .u64 := by kernel_rfl
@[go_sem] theorem tcv_12_274 : tcv Tryz.prog 12 274 = .int .u64 := by kernel_rfl
@[go_sem] theorem tcv_12_21 : tcv Tryz.prog 12 21 = .int .i32 := by kernel_rfl
@[go_sem] theorem tcv_12_268 : tcv Tryz.prog 12 268 = .int .u32 := by kernel_rfl
@[go_sem] theorem tcv_254_2 : tcv Tryz.prog 254 2 = .int .i64 := by kernel_rfl
@[go_sem] theorem tcv_254_3 : tcv Tryz.prog 254 3 = .int .i64 := by kernel_rfl
@[go_sem] theorem tcv_254_31 : tcv Tryz.prog 254 31 = .int .i64 := by kernel_rfl
@[go_sem] theorem tcv_254_260 : tcv Tryz.prog 254 260 = .int .i64 := by kernel_rfl
@[go_sem] theorem tcv_254_5 : tcv Tryz.prog 254 5 = .int .u8 := by kernel_rfl
@[go_sem] theorem tcv_254_12 : tcv Tryz.prog 254 12 = .int .u64 := by kernel_rfl
@[go_sem] theorem tcv_254_254 : tcv Tryz.prog 254 254 = .int .u64 := by kernel_rfl
@[go_sem] theorem tcv_254_270 : tcv Tryz.prog 254 270 = .int .u64 := by kernel_rfl
@[go_sem] theorem tcv_254_274 : tcv Tryz.prog 254 274 = .int .u64 := by kernel_rfl
@[go_sem] theorem tcv_254_21 : tcv Tryz.prog 254 21 = .int .i32 := by kernel_rfl
@[go_sem] theorem tcv_254_268 : tcv Tryz.prog 254 268 = .int .u32 := by kernel_rfl
@[go_sem] theorem tcv_270_2 : tcv Tryz.prog 270 2 = .int .i64 := by kernel_rfl
@[go_sem] theorem tcv_270_3 : tcv Tryz.prog 270 3 = .int .i64 := by kernel_rfl
@[go_sem] theorem tcv_270_31 : tcv Tryz.prog 270 31 = .int .i64 := by kernel_rfl
@[go_sem] theorem tcv_270_260 : tcv Tryz.prog 270 260 = .int .i64 := by kernel_rfl
@[go_sem] theorem tcv_270_5 : tcv Tryz.prog 270 5 = .int .u8 := by kernel_rfl
@[go_sem] theorem tcv_270_12 : tcv Tryz.prog 270 12 = .int .u64 := by kernel_rfl
@[go_sem] theorem tcv_270_254 : tcv Tryz.prog 270 254 = .int .u64 := by kernel_rfl
@[go_sem] theorem tcv_270_270 : tcv Tryz.prog 270 270 = .int .u64 := by kernel_rfl
@[go_sem] theorem tcv_270_274 : tcv Tryz.prog 270 274 = .int .u64 := by kernel_rfl
@[go_sem] theorem tcv_270_21 : tcv Tryz.prog 270 21 = .int .i32 := by kernel_rfl
@[go_sem] theorem tcv_270_268 : tcv Tryz.prog 270 268 = .int .u32 := by kernel_rfl
@[go_sem] theorem tcv_274_2 : tcv Tryz.prog 274 2 = .int .i64 := by kernel_rfl
@[go_sem] theorem tcv_274_3 : tcv Tryz.prog 274 3 = .int .i64 := by kernel_rfl
@[go_sem] theorem tcv_274_31 : tcv Tryz.prog 274 31 = .int .i64 := by kernel_rfl
@[go_sem] theorem tcv_274_260 : tcv Tryz.prog 274 260 = .int .i64 := by kernel_rfl
@[go_sem] theorem tcv_274_5 : tcv Tryz.prog 274 5 = .int .u8 := by kernel_rfl
@[go_sem] theorem tcv_274_12 : tcv Tryz.prog 274 12 = .int .u64 := by kernel_rfl
@[go_sem] theorem tcv_274_254 : tcv Tryz.prog 274 254 = .int .u64 := by kernel_rfl
@[go_sem] theorem tcv_274_270 : tcv Tryz.prog 274 270 = .int .u64 := by kernel_rfl
@[go_sem] theorem tcv_274_274 : tcv Tryz.prog 274 274 = .int .u64 := by kernel_rfl
@[go_sem] theorem tcv_274_21 : tcv Tryz.prog 274 21 = .int .i32 := by kernel_rfl
@[go_sem] theorem tcv_274_268 : tcv Tryz.prog 274 268 = .int .u32 := by kernel_rfl
@[go_sem] theorem tcv_21_2 : tcv Tryz.prog 21 2 = .int .i64 := by kernel_rfl
@[go_sem] theorem tcv_21_3 : tcv Tryz.prog 21 3 = .int .i64 := by kernel_rfl
@[go_sem] theorem tcv_21_31 : tcv Tryz.prog 21 31 = .int .i64 := by kernel_rfl
@[go_sem] theorem tcv_21_260 : tcv Tryz.prog 21 260 = .int .i64 := by kernel_rfl
@[go_sem] theorem tcv_21_5 : tcv Tryz.prog 21 5 = .int .u8 := by kernel_rfl
@[go_sem] theorem tcv_21_12 : tcv Tryz.prog 21 12 = .int .u64 := by kernel_rfl
@[go_sem] theorem tcv_21_254 : tcv Tryz.prog 21 254 = .int .u64 := by kernel_rfl
@[go_sem] theorem tcv_21_270 : tcv Tryz.prog 21 270 = .int .u64 := by kernel_rfl
@[go_sem] theorem tcv_21_274 : tcv Tryz.prog 21 274 = .int .u64 := by kernel_rfl
@[go_sem] theorem tcv_21_21 : tcv Tryz.prog 21 21 = .int .i32 := by kernel_rfl
@[go_sem] theorem tcv_21_268 : tcv Tryz.prog 21 268 = .int .u32 := by kernel_rfl
@[go_sem] theorem tcv_268_2 : tcv Tryz.prog 268 2 = .int .i64 := by kernel_rfl
@[go_sem] theorem tcv_268_3 : tcv Tryz.prog 268 3 = .int .i64 := by kernel_rfl
@[go_sem] theorem tcv_268_31 : tcv Tryz.prog 268 31 = .int .i64 := by kernel_rfl
@[go_sem] theorem tcv_268_260 : tcv Tryz.prog 268 260 = .int .i64 := by kernel_rfl
@[go_sem] theorem tcv_268_5 : tcv Tryz.prog 268 5 = .int .u8 := by kernel_rfl
@[go_sem] theorem tcv_268_12 : tcv Tryz.prog 268 12 = .int .u64 := by kernel_rfl
@[go_sem] theorem tcv_268_254 : tcv Tryz.prog 268 254 = .int .u64 := by kernel_rfl
@[go_sem] theorem tcv_268_270 : tcv Tryz.prog 268 270 = .int .u64 := by kernel_rfl
@[go_sem] theorem tcv_268_274 : tcv Tryz.prog 268 274 = .int .u64 := by kernel_rfl
@[go_sem] theorem tcv_268_21 : tcv Tryz.prog 268 21 = .int .i32 := by kernel_rfl
@[go_sem] theorem tcv_268_268 : tcv Tryz.prog 268 268 = .int .u32 := by kernel_rfl
@[go_sem] theorem tcv_9_9 : tcv Tryz.prog 9 9 = .same := by kernel_rfl
end Go.Proofs.YtnadlkjmdimjkaaGreat
