/- Facts on the table of types of this seat, printed by program: one rule a fact. -/
import Derived.Test.YthingdchjkhfbaaGreatProg
import Derived.Test.YthingdchjkhfbaaGreatVPlH
import Derived.KernelRfl
set_option linter.unusedSimpArgs false
set_option linter.unusedVariables false
namespace Go.Proofs.YthingdchjkhfbaaGreat
open Go.PL
@[go_sem] theorem tkn_2 : tkn Tryz.prog 2 = true := by kernel_rfl
@[go_sem] theorem tsz_2 : tsz Tryz.prog 2 = 1 := by kernel_rfl
@[go_sem] theorem tagg_2 : tagg Tryz.prog 2 = false := by kernel_rfl
@[go_sem] theorem tkn_3 : tkn Tryz.prog 3 = true := by kernel_rfl
@[go_sem] theorem tsz_3 : tsz Tryz.prog 3 = 1 := by kernel_rfl
@[go_sem] theorem tagg_3 : tagg Tryz.prog 3 = false := by kernel_rfl
@[go_sem] theorem tkn_4 : tkn Tryz.prog 4 = true := by kernel_rfl
@[go_sem] theorem tsz_4 : tsz Tryz.prog 4 = 1 := by kernel_rfl
@[go_sem] theorem tagg_4 : tagg Tryz.prog 4 = false := by kernel_rfl
@[go_sem] theorem teqk_4 : teqk Tryz.prog 4 = .bool := by kernel_rfl
@[go_sem] theorem tkn_9 : tkn Tryz.prog 9 = true := by kernel_rfl
@[go_sem] theorem tsz_9 : tsz Tryz.prog 9 = 1 := by kernel_rfl
@[go_sem] theorem tagg_9 : tagg Tryz.prog 9 = false := by kernel_rfl
@[go_sem] theorem tix_9 : tix Tryz.prog 9 = .str := by kernel_rfl
@[go_sem] theorem tlen_9 : tlen Tryz.prog 9 = .str := by kernel_rfl
@[go_sem] theorem tix_22 : tix Tryz.prog 22 = .slc 20 true := by kernel_rfl
@[go_sem] theorem tlen_22 : tlen Tryz.prog 22 = .slc := by kernel_rfl
@[go_sem] theorem telem_22 : telem Tryz.prog 22 = some ⟨77, 20, 264⟩ := by kernel_rfl
@[go_sem] theorem tix_23 : tix Tryz.prog 23 = .slc 15 true := by kernel_rfl
@[go_sem] theorem tlen_23 : tlen Tryz.prog 23 = .slc := by kernel_rfl
@[go_sem] theorem telem_23 : telem Tryz.prog 23 = some ⟨37, 15, 176⟩ := by kernel_rfl
@[go_sem] theorem tkn_25 : tkn Tryz.prog 25 = true := by kernel_rfl
@[go_sem] theorem tsz_25 : tsz Tryz.prog 25 = 2 := by kernel_rfl
@[go_sem] theorem tagg_25 : tagg Tryz.prog 25 = true := by kernel_rfl
@[go_sem] theorem tzero_25 : tzero Tryz.prog 25 = some [.int .i64 0, .int .i64 0] := by kernel_rfl
@[go_sem] theorem tfld_25_0 : tfld Tryz.prog 25 0 = some (0, 1, false) := by kernel_rfl
@[go_sem] theorem tfld_25_1 : tfld Tryz.prog 25 1 = some (1, 1, false) := by kernel_rfl
@[go_sem] theorem tbd_25 : tbd Tryz.prog 25 = .str [(0, 1), (1, 1)] [.int .i64 0, .int .i64 0] := by kernel_rfl
@[go_sem] theorem tleaves_25 : tleaves Tryz.prog 25 = some [.int, .int] := by kernel_rfl
@[go_sem] theorem teqk_30 : teqk Tryz.prog 30 = .ptr := by kernel_rfl
@[go_sem] theorem tkn_34 : tkn Tryz.prog 34 = true := by kernel_rfl
@[go_sem] theorem tsz_34 : tsz Tryz.prog 34 = 3 := by kernel_rfl
@[go_sem] theorem tagg_34 : tagg Tryz.prog 34 = true := by kernel_rfl
@[go_sem] theorem tzero_34 : tzero Tryz.prog 34 = some [.int .i64 0, .str [], .str []] := by kernel_rfl
@[go_sem] theorem tfld_34_0 : tfld Tryz.prog 34 0 = some (0, 1, false) := by kernel_rfl
@[go_sem] theorem tfld_34_1 : tfld Tryz.prog 34 1 = some (1, 1, false) := by kernel_rfl
@[go_sem] theorem tfld_34_2 : tfld Tryz.prog 34 2 = some (2, 1, false) := by kernel_rfl
@[go_sem] theorem tbd_34 : tbd Tryz.prog 34 = .str [(0, 1), (1, 1), (2, 1)] [.int .i64 0, .str [], .str []] := by kernel_rfl
@[go_sem] theorem tleaves_34 : tleaves Tryz.prog 34 = some [.int, .str, .str] := by kernel_rfl
@[go_sem] theorem tkn_35 : tkn Tryz.prog 35 = true := by kernel_rfl
@[go_sem] theorem tsz_35 : tsz Tryz.prog 35 = 1 := by kernel_rfl
@[go_sem] theorem tagg_35 : tagg Tryz.prog 35 = false := by kernel_rfl
@[go_sem] theorem tix_35 : tix Tryz.prog 35 = .slc 2 true := by kernel_rfl
@[go_sem] theorem tlen_35 : tlen Tryz.prog 35 = .slc := by kernel_rfl
@[go_sem] theorem telem_35 : telem Tryz.prog 35 = some ⟨25, 2, 16⟩ := by kernel_rfl
@[go_sem] theorem tkn_37 : tkn Tryz.prog 37 = true := by kernel_rfl
@[go_sem] theorem tsz_37 : tsz Tryz.prog 37 = 15 := by kernel_rfl
@[go_sem] theorem tagg_37 : tagg Tryz.prog 37 = true := by kernel_rfl
@[go_sem] theorem tzero_37 : tzero Tryz.prog 37 = some [.int .i64 0, .int .i64 0, .int .i64 0, .int .i64 0, .int .i64 0, .str [], .int .i64 0, .str [], .int .i64 0, .str [], .str [], .int .i64 0, .bool false, .str [], .sl .nil []] := by kernel_rfl
@[go_sem] theorem tfld_37_0 : tfld Tryz.prog 37 0 = some (0, 2, true) := by kernel_rfl
@[go_sem] theorem tfld_37_1 : tfld Tryz.prog 37 1 = some (2, 2, true) := by kernel_rfl
@[go_sem] theorem tfld_37_2 : tfld Tryz.prog 37 2 = some (4, 1, false) := by kernel_rfl
@[go_sem] theorem tfld_37_3 : tfld Tryz.prog 37 3 = some (5, 1, false) := by kernel_rfl
@[go_sem] theorem tfld_37_4 : tfld Tryz.prog 37 4 = some (6, 1, false) := by kernel_rfl
@[go_sem] theorem tfld_37_5 : tfld Tryz.prog 37 5 = some (7, 1, false) := by kernel_rfl
@[go_sem] theorem tfld_37_6 : tfld Tryz.prog 37 6 = some (8, 3, true) := by kernel_rfl
@[go_sem] theorem tfld_37_7 : tfld Tryz.prog 37 7 = some (11, 1, false) := by kernel_rfl
@[go_sem] theorem tfld_37_8 : tfld Tryz.prog 37 8 = some (12, 1, false) := by kernel_rfl
@[go_sem] theorem tfld_37_9 : tfld Tryz.prog 37 9 = some (13, 1, false) := by kernel_rfl
@[go_sem] theorem tfld_37_10 : tfld Tryz.prog 37 10 = some (14, 1, false) := by kernel_rfl
@[go_sem] theorem tbd_37 : tbd Tryz.prog 37 = .str [(0, 2), (2, 2), (4, 1), (5, 1), (6, 1), (7, 1), (8, 3), (11, 1), (12, 1), (13, 1), (14, 1)] [.int .i64 0, .int .i64 0, .int .i64 0, .int .i64 0, .int .i64 0, .str [], .int .i64 0, .str [], .int .i64 0, .str [], .str [], .int .i64 0, .bool false, .str [], .sl .nil []] := by kernel_rfl
@[go_sem] theorem tkn_38 : tkn Tryz.prog 38 = true := by kernel_rfl
@[go_sem] theorem tsz_38 : tsz Tryz.prog 38 = 1 := by kernel_rfl
@[go_sem] theorem tagg_38 : tagg Tryz.prog 38 = false := by kernel_rfl
@[go_sem] theorem tix_38 : tix Tryz.prog 38 = .slc 5 true := by kernel_rfl
@[go_sem] theorem tlen_38 : tlen Tryz.prog 38 = .slc := by kernel_rfl
@[go_sem] theorem telem_38 : telem Tryz.prog 38 = some ⟨66, 5, 72⟩ := by kernel_rfl
@[go_sem] theorem tkn_39 : tkn Tryz.prog 39 = true := by kernel_rfl
@[go_sem] theorem tsz_39 : tsz Tryz.prog 39 = 1 := by kernel_rfl
@[go_sem] theorem tagg_39 : tagg Tryz.prog 39 = false := by kernel_rfl
@[go_sem] theorem tix_39 : tix Tryz.prog 39 = .slc 2 true := by kernel_rfl
@[go_sem] theorem tlen_39 : tlen Tryz.prog 39 = .slc := by kernel_rfl
@[go_sem] theorem telem_39 : telem Tryz.prog 39 = some ⟨91, 2, 40⟩ := by kernel_rfl
@[go_sem] theorem tkn_41 : tkn Tryz.prog 41 = true := by kernel_rfl
@[go_sem] theorem tsz_41 : tsz Tryz.prog 41 = 2 := by kernel_rfl
@[go_sem] theorem tagg_41 : tagg Tryz.prog 41 = true := by kernel_rfl
@[go_sem] theorem tzero_41 : tzero Tryz.prog 41 = some [.sl .nil [], .sl .nil []] := by kernel_rfl
@[go_sem] theorem tfld_41_0 : tfld Tryz.prog 41 0 = some (0, 1, false) := by kernel_rfl
@[go_sem] theorem tfld_41_1 : tfld Tryz.prog 41 1 = some (1, 1, false) := by kernel_rfl
@[go_sem] theorem tbd_41 : tbd Tryz.prog 41 = .str [(0, 1), (1, 1)] [.sl .nil [], .sl .nil []] := by kernel_rfl
@[go_sem] theorem tkn_56 : tkn Tryz.prog 56 = true := by kernel_rfl
@[go_sem] theorem tsz_56 : tsz Tryz.prog 56 = 1 := by kernel_rfl
@[go_sem] theorem tagg_56 : tagg Tryz.prog 56 = false := by kernel_rfl
@[go_sem] theorem tzero_56 : tzero Tryz.prog 56 = some [.sl .nil []] := by kernel_rfl
@[go_sem] theorem tix_56 : tix Tryz.prog 56 = .slc 7 true := by kernel_rfl
@[go_sem] theorem tlen_56 : tlen Tryz.prog 56 = .slc := by kernel_rfl
@[go_sem] theorem telem_56 : telem Tryz.prog 56 = some ⟨63, 7, 96⟩ := by kernel_rfl
@[go_sem] theorem tkn_61 : tkn Tryz.prog 61 = true := by kernel_rfl
@[go_sem] theorem tsz_61 : tsz Tryz.prog 61 = 1 := by kernel_rfl
@[go_sem] theorem tagg_61 : tagg Tryz.prog 61 = false := by kernel_rfl
@[go_sem] theorem tix_61 : tix Tryz.prog 61 = .slc 1 false := by kernel_rfl
@[go_sem] theorem tlen_61 : tlen Tryz.prog 61 = .slc := by kernel_rfl
@[go_sem] theorem telem_61 : telem Tryz.prog 61 = some ⟨9, 1, 16⟩ := by kernel_rfl
@[go_sem] theorem tkn_63 : tkn Tryz.prog 63 = true := by kernel_rfl
@[go_sem] theorem tsz_63 : tsz Tryz.prog 63 = 7 := by kernel_rfl
@[go_sem] theorem tagg_63 : tagg Tryz.prog 63 = true := by kernel_rfl
@[go_sem] theorem tzero_63 : tzero Tryz.prog 63 = some [.int .i64 0, .str [], .str [], .int .i64 0, .str [], .sl .nil [], .int .i64 0] := by kernel_rfl
@[go_sem] theorem tfld_63_0 : tfld Tryz.prog 63 0 = some (0, 3, true) := by kernel_rfl
@[go_sem] theorem tfld_63_1 : tfld Tryz.prog 63 1 = some (3, 1, false) := by kernel_rfl
@[go_sem] theorem tfld_63_2 : tfld Tryz.prog 63 2 = some (4, 1, false) := by kernel_rfl
@[go_sem] theorem tfld_63_3 : tfld Tryz.prog 63 3 = some (5, 1, false) := by kernel_rfl
@[go_sem] theorem tfld_63_4 : tfld Tryz.prog 63 4 = some (6, 1, false) := by kernel_rfl
@[go_sem] theorem tbd_63 : tbd Tryz.prog 63 = .str [(0, 3), (3, 1), (4, 1), (5, 1), (6, 1)] [.int .i64 0, .str [], .str [], .int .i64 0, .str [], .sl .nil [], .int .i64 0] := by kernel_rfl
@[go_sem] theorem tkn_66 : tkn Tryz.prog 66 = true := by kernel_rfl
@[go_sem] theorem tsz_66 : tsz Tryz.prog 66 = 5 := by kernel_rfl
@[go_sem] theorem tagg_66 : tagg Tryz.prog 66 = true := by kernel_rfl
@[go_sem] theorem tzero_66 : tzero Tryz.prog 66 = some [.int .i64 0, .str [], .str [], .int .i64 0, .sl .nil []] := by kernel_rfl
@[go_sem] theorem tfld_66_0 : tfld Tryz.prog 66 0 = some (0, 3, true) := by kernel_rfl
@[go_sem] theorem tfld_66_1 : tfld Tryz.prog 66 1 = some (3, 1, false) := by kernel_rfl
@[go_sem] theorem tfld_66_2 : tfld Tryz.prog 66 2 = some (4, 1, false) := by kernel_rfl
@[go_sem] theorem tbd_66 : tbd Tryz.prog 66 = .str [(0, 3), (3, 1), (4, 1)] [.int .i64 0, .str [], .str [], .int .i64 0, .sl .nil []] := by kernel_rfl
@[go_sem] theorem tkn_73 : tkn Tryz.prog 73 = true := by kernel_rfl
@[go_sem] theorem tsz_73 : tsz Tryz.prog 73 = 1 := by kernel_rfl
@[go_sem] theorem tagg_73 : tagg Tryz.prog 73 = false := by kernel_rfl
@[go_sem] theorem tix_73 : tix Tryz.prog 73 = .slc 2 true := by kernel_rfl
@[go_sem] theorem tlen_73 : tlen Tryz.prog 73 = .slc := by kernel_rfl
@[go_sem] theorem telem_73 : telem Tryz.prog 73 = some ⟨170, 2, 32⟩ := by kernel_rfl
@[go_sem] theorem tkn_75 : tkn Tryz.prog 75 = true := by kernel_rfl
@[go_sem] theorem tsz_75 : tsz Tryz.prog 75 = 16 := by kernel_rfl
@[go_sem] theorem tagg_75 : tagg Tryz.prog 75 = true := by kernel_rfl
@[go_sem] theorem tzero_75 : tzero Tryz.prog 75 = some [.int .i64 0, .int .i64 0, .str [], .str [], .str [], .str [], .int .i64 0, .int .i64 0, .str [], .str [], .int .i64 0, .str [], .sl .nil [], .int .i64 0, .sl .nil [], .sl .nil []] := by kernel_rfl
@[go_sem] theorem tfld_75_0 : tfld Tryz.prog 75 0 = some (0, 1, false) := by kernel_rfl
@[go_sem] theorem tfld_75_1 : tfld Tryz.prog 75 1 = some (1, 3, true) := by kernel_rfl
@[go_sem] theorem tfld_75_2 : tfld Tryz.prog 75 2 = some (4, 1, false) := by kernel_rfl
@[go_sem] theorem tfld_75_3 : tfld Tryz.prog 75 3 = some (5, 1, false) := by kernel_rfl
@[go_sem] theorem tfld_75_4 : tfld Tryz.prog 75 4 = some (6, 1, false) := by kernel_rfl
@[go_sem] theorem tfld_75_5 : tfld Tryz.prog 75 5 = some (7, 7, true) := by kernel_rfl
@[go_sem] theorem tfld_75_6 : tfld Tryz.prog 75 6 = some (14, 1, false) := by kernel_rfl
@[go_sem] theorem tfld_75_7 : tfld Tryz.prog 75 7 = some (15, 1, false) := by kernel_rfl
@[go_sem] theorem tbd_75 : tbd Tryz.prog 75 = .str [(0, 1), (1, 3), (4, 1), (5, 1), (6, 1), (7, 7), (14, 1), (15, 1)] [.int .i64 0, .int .i64 0, .str [], .str [], .str [], .str [], .int .i64 0, .int .i64 0, .str [], .str [], .int .i64 0, .str [], .sl .nil [], .int .i64 0, .sl .nil [], .sl .nil []] := by kernel_rfl
@[go_sem] theorem tkn_77 : tkn Tryz.prog 77 = true := by kernel_rfl
@[go_sem] theorem tsz_77 : tsz Tryz.prog 77 = 20 := by kernel_rfl
@[go_sem] theorem tagg_77 : tagg Tryz.prog 77 = true := by kernel_rfl
@[go_sem] theorem tzero_77 : tzero Tryz.prog 77 = some [.int .i64 0, .int .i64 0, .int .i64 0, .int .i64 0, .int .i64 0, .int .i64 0, .str [], .str [], .str [], .str [], .int .i64 0, .int .i64 0, .str [], .str [], .int .i64 0, .str [], .sl .nil [], .int .i64 0, .sl .nil [], .sl .nil []] := by kernel_rfl
@[go_sem] theorem tfld_77_0 : tfld Tryz.prog 77 0 = some (0, 2, true) := by kernel_rfl
@[go_sem] theorem tfld_77_1 : tfld Tryz.prog 77 1 = some (2, 2, true) := by kernel_rfl
@[go_sem] theorem tfld_77_2 : tfld Tryz.prog 77 2 = some (4, 16, true) := by kernel_rfl
@[go_sem] theorem tbd_77 : tbd Tryz.prog 77 = .str [(0, 2), (2, 2), (4, 16)] [.int .i64 0, .int .i64 0, .int .i64 0, .int .i64 0, .int .i64 0, .int .i64 0, .str [], .str [], .str [], .str [], .int .i64 0, .int .i64 0, .str [], .str [], .int .i64 0, .str [], .sl .nil [], .int .i64 0, .sl .nil [], .sl .nil []] := by kernel_rfl
@[go_sem] theorem tkn_82 : tkn Tryz.prog 82 = true := by kernel_rfl
@[go_sem] theorem tsz_82 : tsz Tryz.prog 82 = 1 := by kernel_rfl
@[go_sem] theorem tagg_82 : tagg Tryz.prog 82 = false := by kernel_rfl
@[go_sem] theorem tzero_82 : tzero Tryz.prog 82 = some [.nilmap] := by kernel_rfl
@[go_sem] theorem tmap_82 : tmap Tryz.prog 82 = some ([.str, .int, .str, .str], .sl .nil []) := by kernel_rfl
@[go_sem] theorem tkn_85 : tkn Tryz.prog 85 = true := by kernel_rfl
@[go_sem] theorem tsz_85 : tsz Tryz.prog 85 = 4 := by kernel_rfl
@[go_sem] theorem tagg_85 : tagg Tryz.prog 85 = true := by kernel_rfl
@[go_sem] theorem tzero_85 : tzero Tryz.prog 85 = some [.str [], .int .i64 0, .str [], .str []] := by kernel_rfl
@[go_sem] theorem tbd_85 : tbd Tryz.prog 85 = .str [(0, 1), (1, 3)] [.str [], .int .i64 0, .str [], .str []] := by kernel_rfl
@[go_sem] theorem tkn_91 : tkn Tryz.prog 91 = true := by kernel_rfl
@[go_sem] theorem tsz_91 : tsz Tryz.prog 91 = 2 := by kernel_rfl
@[go_sem] theorem tagg_91 : tagg Tryz.prog 91 = true := by kernel_rfl
@[go_sem] theorem tfld_91_0 : tfld Tryz.prog 91 0 = some (0, 1, false) := by kernel_rfl
@[go_sem] theorem tfld_91_1 : tfld Tryz.prog 91 1 = some (1, 1, false) := by kernel_rfl
@[go_sem] theorem tbd_91 : tbd Tryz.prog 91 = .str [(0, 1), (1, 1)] [.str [], .sl .nil []] := by kernel_rfl
@[go_sem] theorem tix_96 : tix Tryz.prog 96 = .slc 16 true := by kernel_rfl
@[go_sem] theorem tlen_96 : tlen Tryz.prog 96 = .slc := by kernel_rfl
@[go_sem] theorem telem_96 : telem Tryz.prog 96 = some ⟨75, 16, 232⟩ := by kernel_rfl
@[go_sem] theorem tkn_104 : tkn Tryz.prog 104 = true := by kernel_rfl
@[go_sem] theorem tsz_104 : tsz Tryz.prog 104 = 23 := by kernel_rfl
@[go_sem] theorem tagg_104 : tagg Tryz.prog 104 = true := by kernel_rfl
@[go_sem] theorem tzero_104 : tzero Tryz.prog 104 = some [.int .i64 0, .int .i64 0, .int .i64 0, .int .i64 0, .int .i64 0, .int .i64 0, .str [], .str [], .str [], .str [], .int .i64 0, .int .i64 0, .str [], .str [], .int .i64 0, .str [], .sl .nil [], .int .i64 0, .sl .nil [], .sl .nil [], .int .i64 0, .sl .nil [], .int .i64 0] := by kernel_rfl
@[go_sem] theorem tfld_104_0 : tfld Tryz.prog 104 0 = some (0, 20, true) := by kernel_rfl
@[go_sem] theorem tfld_104_1 : tfld Tryz.prog 104 1 = some (20, 1, false) := by kernel_rfl
@[go_sem] theorem tfld_104_2 : tfld Tryz.prog 104 2 = some (21, 1, false) := by kernel_rfl
@[go_sem] theorem tfld_104_3 : tfld Tryz.prog 104 3 = some (22, 1, false) := by kernel_rfl
@[go_sem] theorem tbd_104 : tbd Tryz.prog 104 = .str [(0, 20), (20, 1), (21, 1), (22, 1)] [.int .i64 0, .int .i64 0, .int .i64 0, .int .i64 0, .int .i64 0, .int .i64 0, .str [], .str [], .str [], .str [], .int .i64 0, .int .i64 0, .str [], .str [], .int .i64 0, .str [], .sl .nil [], .int .i64 0, .sl .nil [], .sl .nil [], .int .i64 0, .sl .nil [], .int .i64 0] := by kernel_rfl
@[go_sem] theorem tix_107 : tix Tryz.prog 107 = .slc 3 true := by kernel_rfl
@[go_sem] theorem tlen_107 : tlen Tryz.prog 107 = .slc := by kernel_rfl
@[go_sem] theorem telem_107 : telem Tryz.prog 107 = some ⟨34, 3, 40⟩ := by kernel_rfl
@[go_sem] theorem tkn_114 : tkn Tryz.prog 114 = true := by kernel_rfl
@[go_sem] theorem tsz_114 : tsz Tryz.prog 114 = 1 := by kernel_rfl
@[go_sem] theorem tagg_114 : tagg Tryz.prog 114 = false := by kernel_rfl
@[go_sem] theorem teqk_114 : teqk Tryz.prog 114 = .map := by kernel_rfl
@[go_sem] theorem tmapB_114 : tmapB Tryz.prog 114 = true := by kernel_rfl
@[go_sem] theorem tmap_114 : tmap Tryz.prog 114 = some ([.int, .int], .agg [.int .i64 0, .int .i64 0, .int .i64 0, .int .i64 0, .int .i64 0, .int .i64 0, .str [], .str [], .str [], .str [], .int .i64 0, .int .i64 0, .str [], .str [], .int .i64 0, .str [], .sl .nil [], .int .i64 0, .sl .nil [], .sl .nil [], .int .i64 0, .sl .nil [], .int .i64 0]) := by kernel_rfl
@[go_sem] theorem tfld_116_0 : tfld Tryz.prog 116 0 = some (0, 1, false) := by kernel_rfl
@[go_sem] theorem tbd_116 : tbd Tryz.prog 116 = .str [(0, 1)] [.nilmap] := by kernel_rfl
@[go_sem] theorem tmap_124 : tmap Tryz.prog 124 = some ([.int, .int], .agg []) := by kernel_rfl
@[go_sem] theorem tkn_125 : tkn Tryz.prog 125 = true := by kernel_rfl
@[go_sem] theorem tsz_125 : tsz Tryz.prog 125 = 0 := by kernel_rfl
@[go_sem] theorem tzero_125 : tzero Tryz.prog 125 = some [] := by kernel_rfl
@[go_sem] theorem tbd_125 : tbd Tryz.prog 125 = .str [] [] := by kernel_rfl
@[go_sem] theorem tix_143 : tix Tryz.prog 143 = .slc 3 true := by kernel_rfl
@[go_sem] theorem tlen_143 : tlen Tryz.prog 143 = .slc := by kernel_rfl
@[go_sem] theorem telem_143 : telem Tryz.prog 143 = some ⟨147, 3, 24⟩ := by kernel_rfl
@[go_sem] theorem tkn_147 : tkn Tryz.prog 147 = true := by kernel_rfl
@[go_sem] theorem tsz_147 : tsz Tryz.prog 147 = 3 := by kernel_rfl
@[go_sem] theorem tagg_147 : tagg Tryz.prog 147 = true := by kernel_rfl
@[go_sem] theorem tzero_147 : tzero Tryz.prog 147 = some [.int .i64 0, .int .i64 0, .bool false] := by kernel_rfl
@[go_sem] theorem tfld_147_0 : tfld Tryz.prog 147 0 = some (0, 2, true) := by kernel_rfl
@[go_sem] theorem tfld_147_1 : tfld Tryz.prog 147 1 = some (2, 1, false) := by kernel_rfl
@[go_sem] theorem tbd_147 : tbd Tryz.prog 147 = .str [(0, 2), (2, 1)] [.int .i64 0, .int .i64 0, .bool false] := by kernel_rfl
@[go_sem] theorem tkn_170 : tkn Tryz.prog 170 = true := by kernel_rfl
@[go_sem] theorem tsz_170 : tsz Tryz.prog 170 = 2 := by kernel_rfl
@[go_sem] theorem tagg_170 : tagg Tryz.prog 170 = true := by kernel_rfl
@[go_sem] theorem tzero_170 : tzero Tryz.prog 170 = some [.str [], .str []] := by kernel_rfl
@[go_sem] theorem tfld_170_0 : tfld Tryz.prog 170 0 = some (0, 1, false) := by kernel_rfl
@[go_sem] theorem tfld_170_1 : tfld Tryz.prog 170 1 = some (1, 1, false) := by kernel_rfl
@[go_sem] theorem tleaves_170 : tleaves Tryz.prog 170 = some [.str, .str] := by kernel_rfl
@[go_sem] theorem tkn_244 : tkn Tryz.prog 244 = true := by kernel_rfl
@[go_sem] theorem tsz_244 : tsz Tryz.prog 244 = 2 := by kernel_rfl
@[go_sem] theorem tagg_244 : tagg Tryz.prog 244 = true := by kernel_rfl
@[go_sem] theorem tzero_244 : tzero Tryz.prog 244 = some [.flt .f64 0, .flt .f64 0] := by kernel_rfl
@[go_sem] theorem tix_244 : tix Tryz.prog 244 = .arr 2 1 false := by kernel_rfl
@[go_sem] theorem tbd_244 : tbd Tryz.prog 244 = .arr 1 [.flt .f64 0, .flt .f64 0] := by kernel_rfl
@[go_sem] theorem tcv_3_183 : tcv Tryz.prog 3 183 = .int .u64 := by kernel_rfl
@[go_sem] theorem tcv_183_3 : tcv Tryz.prog 183 3 = .int .i64 := by kernel_rfl
end Go.Proofs.YthingdchjkhfbaaGreat
set_option linter.unusedSimpArgs false
set_option linter.unusedVariables false
set_option linter.unusedSimpArgs false
set_option linter.unusedVariables false
namespace Go.Proofs.YthingdchjkhfbaaGreat
open Go.PL
attribute [go_sem] reduceIte Nat.reduceEqDiff reduceCtorEq Nat.reduceLT Nat.reduceAdd Nat.reduceSub Nat.reduceMul Nat.reduceLeDiff Int.reduceLT Int.reduceLE Int.reduceToNat Int.reduceEq Int.reduceAdd Int.reduceSub Int.reduceNeg Int.reduceBNe Int.reduceBEq
attribute [go_sem] true_or or_true List.getElem?_cons_zero List.getElem?_cons_succ List.getElem?_nil decide_true decide_false Bool.not_true Bool.not_false imp_self false_implies true_implies List.all_cons List.all_nil Bool.and_true Bool.false_eq_true Nat.zero_add Nat.add_zero Option.some.injEq true_and and_true List.getD_cons_zero List.getD_cons_succ List.length_cons List.length_nil ne_eq not_false_eq_true implies_true and_self List.take List.drop List.map_cons List.map_nil List.reverse_cons List.reverse_nil List.nil_append PV.bool.injEq List.length_map Int.toNat_natCast Nat.mul_one beq_self_eq_true bne_self_eq_false Bool.or_self Bool.false_or Bool.true_or Bool.or_true Bool.or_false
theorem w64 {x : Int} (h : -9223372036854775808 ≤ x ∧ x ≤ 9223372036854775807) : IntKind.i64.wrap x = x := IntWalk.i64_in _ (by omega)
theorem maxLen_eq : maxLen = 9223372036854775807 := by decide
theorem w64s {k n : Nat} (h : k < n) (hn : n ≤ maxLen) : IntKind.i64.wrap ((k : Int) + 1) = ((k + 1 : Nat) : Int) := by
 rw [maxLen_eq] at hn
 rw [w64 (by omega)]; rfl
abbrev Str := List UInt8
structure Rf where
 sc : Int
 gr : Str
 nm : Str
 deriving DecidableEq, Inhabited
structure En where
 at' : Rf
 n : Int
 l : List Str
 deriving DecidableEq, Inhabited
structure Rw where
 item : Str
 l : List En
 deriving DecidableEq, Inhabited
structure Dc where
 head : List En
 rows : List Rw
 deriving DecidableEq, Inhabited
def strs (l : List Str) : PV := .sl .no (l.map .str)
def ref (r : Rf) : PV := .agg [.int .i64 r.sc, .str r.gr, .str r.nm]
def ent (e : En) : PV := .agg [.int .i64 e.at'.sc, .str e.at'.gr, .str e.at'.nm, .int .i64 e.n, .sl .no (e.l.map .str)]
def ents (l : List En) : PV := .sl .no (l.map ent)
def row (r : Rw) : PV := .agg [.str r.item, .sl .no (r.l.map ent)]
def doc (d : Dc) : PV := .agg [.sl .no (d.head.map ent), .sl .no (d.rows.map row)]
theorem ref_fold (a b : Rf) : (a.sc == b.sc && (a.gr == b.gr && a.nm == b.nm)) = decide (a = b) := by
 cases a; cases b
 rw [Bool.eq_iff_iff]
 simp
theorem getD_str {l : List Str} {i : Nat} (h : i < l.length) : (l.map PV.str).getD i .any = .str (l.getD i []) := by
 simp [List.getD_eq_getElem?_getD, h]
theorem getD_ent {l : List En} {i : Nat} (h : i < l.length) : (l.map ent).getD i .any = ent (l.getD i default) := by
 simp [List.getD_eq_getElem?_getD, h]
theorem getD_row {l : List Rw} {i : Nat} (h : i < l.length) : (l.map row).getD i .any = row (l.getD i default) := by
 simp [List.getD_eq_getElem?_getD, h]
theorem getD_mem' {α : Type} {l : List α} {i : Nat} {d : α} (h : i < l.length) : l.getD i d ∈ l := by
 rw [List.getD_eq_getElem?_getD, List.getElem?_eq_getElem h]; exact List.getElem_mem h
theorem eq_of_getD {α : Type} {a b : List α} {d : α} (hl : a.length = b.length) (h : ∀ j, j < a.length → a.getD j d = b.getD j d) : a = b := by
 apply List.ext_getElem hl
 intro i h1 h2
 have := h i h1
 simpa [List.getD_eq_getElem?_getD, h1, h2] using this
theorem ne_of_getD {α : Type} {a b : List α} {d : α} {j : Nat} (h : a.getD j d ≠ b.getD j d) : a ≠ b := fun e => h (by rw [e])
set_option maxHeartbeats 1000000 in
theorem RSame_pure (a b : List Str) (ha : a.length ≤ maxLen) (hb : b.length ≤ maxLen) : PL.Pure Tryz.prog 54 [strs a, strs b] (.bool (decide (a = b))) := by
 by_cases hl : a.length = b.length
 ·have hl' : ((a.length : Int) != (b.length : Int)) = false := by rw [hl]; exact bne_self_eq_false _
  refine PL.Pure.of_v Tryz.func54 (by decide) rfl Tryz.ntmps54 Tryz.results54 (by simp) rfl ?_
  simp only [go_sem, strs, hl']
  refine vLoopM (ι := { k : Nat // k ≤ a.length ∧ ∀ j, j < k → a.getD j [] = b.getD j [] }) 26 (fun x => [(0, strs a), (1, strs b), (5, .int .i64 (x.1 : Int))]) (fun x => []) (fun x => []) (fun x => a.length - x.1) ⟨0, by omega, fun j hj => by omega⟩
   ⟨rfl, (fcs rfl (fcs rfl (fcs rfl fnl))), fnl, fnl⟩ (fun x => ⟨(fcs rfl (fcs rfl (fcs rfl fnl))), fnl⟩) (fun x => ?_)
  obtain ⟨k, hk, hall⟩ := x
  simp only
  by_cases h : (k : Int) < (a.length : Int)
  ·have hka : k < a.length := by omega
   have hkb : k < b.length := by omega
   have w1 := w64s hka ha
   have i1 : (0 : Int) ≤ (k : Int) := by omega
   have i2 : (k : Int) < (b.length : Int) := by omega
   by_cases he : a.getD k [] = b.getD k []
   ·have he' : (a.getD k [] == b.getD k []) = true := beq_iff_eq.2 he
    simp only [go_sem, strs, h]
    refine vDrawQ (by kernel_rfl) (by kernel_rfl) ?_
    simp only [go_sem, getD_str hka, getD_str hkb, h, i1, i2, he', w1]
    exact ⟨⟨k + 1, by omega, fun j hj => by
     rcases Nat.lt_or_ge j k with h1 | h1
     ·exact hall j h1
     ·obtain rfl : j = k := by omega
      exact he⟩, by show a.length - (k + 1) < a.length - k; omega, ⟨rfl, (fcs rfl (fcs rfl (fcs rfl fnl))), fnl, fnl⟩⟩
   ·have he' : (a.getD k [] == b.getD k []) = false := beq_eq_false_iff_ne.2 he
    have hab : ¬ a = b := ne_of_getD he
    simp only [go_sem, strs, h]
    refine vDrawQ (by kernel_rfl) (by kernel_rfl) ?_
    simp only [go_sem, getD_str hka, getD_str hkb, h, i1, i2, he', hab]
  ·have hab : decide (a = b) = true := decide_eq_true (eq_of_getD (d := []) hl fun j hj => hall j (by omega))
   simp only [go_sem, strs, h, hab]
 ·have hl' : ((a.length : Int) != (b.length : Int)) = true := bne_iff_ne.2 (by omega)
  have hab : ¬ a = b := fun e => hl (by rw [e])
  refine PL.Pure.of_v Tryz.func54 (by decide) rfl Tryz.ntmps54 Tryz.results54 (by simp) rfl ?_
  simp only [go_sem, strs, hl', hab]
end Go.Proofs.YthingdchjkhfbaaGreat
set_option linter.unusedSimpArgs false
set_option linter.unusedVariables false
set_option linter.unusedSimpArgs false
set_option linter.unusedVariables false
namespace Go.Proofs.YthingdchjkhfbaaGreat
open Go.PL
def idx {α : Type} (p : α → Bool) (l : List α) : Int := match l.findIdx? p with | some i => (i : Int) | none => -1
theorem idx_found {α : Type} {p : α → Bool} {l : List α} {k : Nat} {d : α} (hk : k < l.length) (h : ∀ j, j < k → p (l.getD j d) = false) (hp : p (l.getD k d) = true) : idx p l = k := by
 have : l.findIdx? p = some k := by
  rw [List.findIdx?_eq_some_iff_getElem]
  refine ⟨hk, ?_, fun j hj => ?_⟩
  ·simpa [List.getD_eq_getElem?_getD, hk] using hp
  ·have := h j hj
   simp [List.getD_eq_getElem?_getD, show j < l.length by omega] at this
   simp [this]
 simp [idx, this]
theorem idx_none {α : Type} {p : α → Bool} {l : List α} {d : α} (h : ∀ j, j < l.length → p (l.getD j d) = false) : idx p l = -1 := by
 have : l.findIdx? p = none := by
  rw [List.findIdx?_eq_none_iff]
  intro x hx
  obtain ⟨j, hj, rfl⟩ := List.getElem_of_mem hx
  have := h j hj
  simpa [List.getD_eq_getElem?_getD, hj] using this
 simp [idx, this]
theorem below_succ {p : Nat → Prop} {k : Nat} (h : ∀ j, j < k → p j) (hk : p k) : ∀ j, j < k + 1 → p j := fun j hj => by
 rcases Nat.lt_or_ge j k with h1 | h1
 ·exact h j h1
 ·obtain rfl : j = k := by omega
  exact hk
theorem en_ext {a b : En} (h1 : a.at' = b.at') (h2 : a.n = b.n) (h3 : a.l = b.l) : a = b := by
 cases a; cases b; simp_all
set_option maxRecDepth 20000 in
set_option maxHeartbeats 4000000 in
theorem SameEntries_pure (a b : List En) (ha : a.length ≤ maxLen) (hb : b.length ≤ maxLen) (ha' : ∀ e ∈ a, e.l.length ≤ maxLen) (hb' : ∀ e ∈ b, e.l.length ≤ maxLen) : PL.Pure Tryz.prog 27 [ents a, ents b] (.bool (decide (a = b))) := by
 by_cases hl : a.length = b.length
 ·have hl' : ((a.length : Int) != (b.length : Int)) = false := by rw [hl]; exact bne_self_eq_false _
  refine PL.Pure.of_v Tryz.func27 (by decide) rfl Tryz.ntmps27 Tryz.results27 (by simp) rfl ?_
  simp only [go_sem, ents, hl']
  refine vLoopM (ι := { k : Nat // k ≤ a.length ∧ ∀ j, j < k → a.getD j default = b.getD j default }) 55 (fun x => [(0, ents a), (1, ents b), (5, .int .i64 (x.1 : Int))]) (fun x => []) (fun x => []) (fun x => a.length - x.1) ⟨0, by omega, fun j hj => by omega⟩
   ⟨rfl, (fcs rfl (fcs rfl (fcs rfl fnl))), fnl, fnl⟩ (fun x => ⟨(fcs rfl (fcs rfl (fcs rfl fnl))), fnl⟩) (fun x => ?_)
  obtain ⟨k, hk, hall⟩ := x
  simp only
  by_cases h : (k : Int) < (a.length : Int)
  ·have hka : k < a.length := by omega
   have hkb : k < b.length := by omega
   have w1 := w64s hka ha
   have i1 : (0 : Int) ≤ (k : Int) := by omega
   have i2 : (k : Int) < (b.length : Int) := by omega
   have hc := RSame_pure _ _ (ha' _ (getD_mem' (d := default) hka)) (hb' _ (getD_mem' (d := default) hkb))
   by_cases e1 : (a.getD k default).at' = (b.getD k default).at'
   ·have e1' := decide_eq_true e1
    by_cases e2 : (a.getD k default).n = (b.getD k default).n
    ·have e2' : ((a.getD k default).n != (b.getD k default).n) = false := by rw [e2]; exact bne_self_eq_false _
     by_cases e3 : (a.getD k default).l = (b.getD k default).l
     ·rw [decide_eq_true e3] at hc
      simp only [go_sem, ents, h]
      refine vDrawQ (by kernel_rfl) (by kernel_rfl) ?_
      simp only [go_sem, getD_ent hka, getD_ent hkb, ent, h, i1, i2, ref_fold, e1', e2']
      refine vCall_of (hc) ?_ ?_ ?_; iterate 2 simp only [go_sem, strs]
      simp only [go_sem, w1]
      exact ⟨⟨k + 1, by omega, below_succ hall (en_ext e1 e2 e3)⟩, by show a.length - (k + 1) < a.length - k; omega, ⟨rfl, (fcs rfl (fcs rfl (fcs rfl fnl))), fnl, fnl⟩⟩
     ·rw [decide_eq_false e3] at hc
      have hab : ¬ a = b := fun e => e3 (by rw [e])
      simp only [go_sem, ents, h]
      refine vDrawQ (by kernel_rfl) (by kernel_rfl) ?_
      simp only [go_sem, getD_ent hka, getD_ent hkb, ent, h, i1, i2, ref_fold, e1', e2']
      refine vCall_of (hc) ?_ ?_ ?_; iterate 2 simp only [go_sem, strs]
      simp only [go_sem, hab]
    ·have e2' : ((a.getD k default).n != (b.getD k default).n) = true := bne_iff_ne.2 e2
     have hab : ¬ a = b := fun e => e2 (by rw [e])
     simp only [go_sem, ents, h]
     refine vDrawQ (by kernel_rfl) (by kernel_rfl) ?_
     simp only [go_sem, getD_ent hka, getD_ent hkb, ent, h, i1, i2, ref_fold, e1', e2', hab]
   ·have e1' := decide_eq_false e1
    have hab : ¬ a = b := fun e => e1 (by rw [e])
    simp only [go_sem, ents, h]
    refine vDrawQ (by kernel_rfl) (by kernel_rfl) ?_
    simp only [go_sem, getD_ent hka, getD_ent hkb, ent, h, i1, i2, ref_fold, e1', hab]
  ·have hab : decide (a = b) = true := decide_eq_true (eq_of_getD (d := default) hl fun j hj => hall j (by omega))
   simp only [go_sem, ents, h, hab]
 ·have hl' : ((a.length : Int) != (b.length : Int)) = true := bne_iff_ne.2 (by omega)
  have hab : ¬ a = b := fun e => hl (by rw [e])
  refine PL.Pure.of_v Tryz.func27 (by decide) rfl Tryz.ntmps27 Tryz.results27 (by simp) rfl ?_
  simp only [go_sem, ents, hl', hab]
end Go.Proofs.YthingdchjkhfbaaGreat
set_option linter.unusedSimpArgs false
set_option linter.unusedVariables false
set_option linter.unusedSimpArgs false
set_option linter.unusedVariables false
namespace Go.Proofs.YthingdchjkhfbaaGreat
open Go.PL
theorem any_true {α : Type} {p : α → Bool} {l : List α} {k : Nat} {d : α} (hk : k < l.length) (h : p (l.getD k d) = true) : l.any p = true :=
 List.any_eq_true.2 ⟨_, getD_mem' hk, h⟩
theorem any_false {α : Type} {p : α → Bool} {l : List α} {d : α} (h : ∀ j, j < l.length → p (l.getD j d) = false) : l.any p = false := by
 rw [List.any_eq_false]
 intro x hx
 obtain ⟨j, hj, rfl⟩ := List.getElem_of_mem hx
 have := h j hj
 simpa [List.getD_eq_getElem?_getD, hj] using this
def longB (n : Nat) (s : Str) : Bool := decide ((n : Int) < (s.length : Int))
def Fine (d : Dc) : Prop := d.head.length ≤ maxLen ∧ d.rows.length ≤ maxLen ∧ (∀ e ∈ d.head, e.l.length ≤ maxLen) ∧ ∀ r ∈ d.rows, r.l.length ≤ maxLen ∧ ∀ e ∈ r.l, e.l.length ≤ maxLen
end Go.Proofs.YthingdchjkhfbaaGreat
set_option linter.unusedSimpArgs false
set_option linter.unusedVariables false
set_option linter.unusedSimpArgs false
set_option linter.unusedVariables false
namespace Go.Proofs.YthingdchjkhfbaaGreat
open Go.PL
@[go_sem] theorem arr_empty {α : Type} : (#[] : Array α).isEmpty = true := rfl
theorem idx_cases {α : Type} (p : α → Bool) (l : List α) : idx p l = -1 ∨ ∃ k : Nat, k < l.length ∧ idx p l = k := by
 unfold idx
 cases h : l.findIdx? p with
 | none => exact .inl rfl
 | some k =>
  rw [List.findIdx?_eq_some_iff_getElem] at h
  exact .inr ⟨k, h.1, rfl⟩
theorem room_small {n b : Nat} (hn : n ≤ 100000000000) (hb : b ≤ 1000) : Room n b := by
 refine ⟨?_, by unfold maxLen; omega⟩
 calc n * b ≤ 100000000000 * 1000 := Nat.mul_le_mul hn hb
  _ ≤ 140737488355328 := by decide
@[go_sem] theorem sized_nil (n : Nat) : Sized n [] = True := by simp [Sized]
@[go_sem] theorem sized_cons (n : Nat) (e : PV) (l : List PV) : Sized n (e :: l) = (e.cells.length = n ∧ Sized n l) := by simp [Sized]
@[go_sem] theorem atoms_nil : Atoms [] = True := by simp [Atoms]
@[go_sem] theorem atoms_cons (e : PV) (l : List PV) : Atoms (e :: l) = (e.cells.all PV.atom = true ∧ Atoms l) := by simp [Atoms]
theorem sized_str (l : List Str) : Sized 1 (l.map .str) := fun e he => by
 obtain ⟨x, _, rfl⟩ := List.mem_map.1 he; rfl
theorem atoms_str (l : List Str) : Atoms (l.map .str) := fun e he => by
 obtain ⟨x, _, rfl⟩ := List.mem_map.1 he; rfl
set_option maxHeartbeats 1000000 in
theorem seek1_pure (r : Rw) (it : Str) : PL.Pure Tryz.prog 98 [row r, .rptr [.str it]] (.bool (r.item == it)) := by
 refine PL.Pure.of_v Tryz.func98 (by decide) rfl Tryz.ntmps98 Tryz.results98 (by simp) rfl ?_
 simp only [go_sem, row]
set_option maxHeartbeats 1000000 in
theorem seek2_pure (e : En) (r : Rf) : PL.Pure Tryz.prog 100 [ent e, .rptr [.int .i64 r.sc, .str r.gr, .str r.nm]] (.bool (decide (e.at' = r))) := by
 refine PL.Pure.of_v Tryz.func100 (by decide) rfl Tryz.ntmps100 Tryz.results100 (by simp) rfl ?_
 simp only [go_sem, ent, ref_fold]
set_option maxHeartbeats 1000000 in
theorem IndexRow_pure (l : List Rw) (g : FuncId) (cs : List PV) (p : Rw → Bool) (hl : l.length ≤ maxLen) (hp : ∀ r ∈ l, PL.Pure Tryz.prog g [row r, .rptr cs] (.bool (p r))) :
  PL.Pure Tryz.prog 97 [.sl .no (l.map row), .fn g [.rptr cs]] (.int .i64 (idx p l)) := by
 refine PL.Pure.of_v Tryz.func97 (by decide) rfl Tryz.ntmps97 Tryz.results97 (by simp) rfl ?_
 simp only [go_sem]
 refine vLoopM (ι := { k : Nat // k ≤ l.length ∧ ∀ j, j < k → p (l.getD j default) = false }) 19 (fun x => [(0, .sl .no (l.map row)), (1, .fn g [.rptr cs]), (7, .int .i64 (l.length : Int)), (8, .int .i64 (x.1 : Int))]) (fun x => []) (fun x => []) (fun x => l.length - x.1) ⟨0, by omega, fun j hj => by omega⟩
  ⟨rfl, (fcs rfl (fcs rfl (fcs rfl (fcs rfl fnl)))), fnl, fnl⟩ (fun x => ⟨(fcs rfl (fcs rfl (fcs rfl (fcs rfl fnl)))), fnl⟩) (fun x => ?_)
 obtain ⟨k, hk, hall⟩ := x
 simp only
 by_cases h : (k : Int) < (l.length : Int)
 ·have hka : k < l.length := by omega
  have w1 := w64s hka hl
  have i1 : (0 : Int) ≤ (k : Int) := by omega
  have hc := hp _ (getD_mem' (d := default) hka)
  cases he : p (l.getD k default)
  ·rw [he] at hc
   simp only [go_sem, h, getD_row hka, row, i1]
   refine vCall_of (hc) ?_ ?_ ?_; iterate 2 simp only [go_sem, row]
   simp only [go_sem, w1]
   exact ⟨⟨k + 1, by omega, below_succ hall he⟩, by show l.length - (k + 1) < l.length - k; omega, ⟨rfl, (fcs rfl (fcs rfl (fcs rfl (fcs rfl fnl)))), fnl, fnl⟩⟩
  ·rw [he] at hc
   have hx := idx_found (p := p) hka hall he
   simp only [go_sem, h, getD_row hka, row, i1]
   refine vCall_of (hc) ?_ ?_ ?_; iterate 2 simp only [go_sem, row]
   simp only [go_sem, hx]
 ·have hx := idx_none (p := p) (d := default) (l := l) (fun j hj => hall j (by omega))
  simp only [go_sem, h, hx]
set_option maxHeartbeats 1000000 in
theorem IndexEnt_pure (l : List En) (g : FuncId) (cs : List PV) (p : En → Bool) (hl : l.length ≤ maxLen) (hp : ∀ r ∈ l, PL.Pure Tryz.prog g [ent r, .rptr cs] (.bool (p r))) :
  PL.Pure Tryz.prog 99 [.sl .no (l.map ent), .fn g [.rptr cs]] (.int .i64 (idx p l)) := by
 refine PL.Pure.of_v Tryz.func99 (by decide) rfl Tryz.ntmps99 Tryz.results99 (by simp) rfl ?_
 simp only [go_sem]
 refine vLoopM (ι := { k : Nat // k ≤ l.length ∧ ∀ j, j < k → p (l.getD j default) = false }) 19 (fun x => [(0, .sl .no (l.map ent)), (1, .fn g [.rptr cs]), (7, .int .i64 (l.length : Int)), (8, .int .i64 (x.1 : Int))]) (fun x => []) (fun x => []) (fun x => l.length - x.1) ⟨0, by omega, fun j hj => by omega⟩
  ⟨rfl, (fcs rfl (fcs rfl (fcs rfl (fcs rfl fnl)))), fnl, fnl⟩ (fun x => ⟨(fcs rfl (fcs rfl (fcs rfl (fcs rfl fnl)))), fnl⟩) (fun x => ?_)
 obtain ⟨k, hk, hall⟩ := x
 simp only
 by_cases h : (k : Int) < (l.length : Int)
 ·have hka : k < l.length := by omega
  have w1 := w64s hka hl
  have i1 : (0 : Int) ≤ (k : Int) := by omega
  have hc := hp _ (getD_mem' (d := default) hka)
  cases he : p (l.getD k default)
  ·rw [he] at hc
   simp only [go_sem, h, getD_ent hka, ent, i1]
   refine vCall_of (hc) ?_ ?_ ?_; iterate 2 simp only [go_sem, ent]
   simp only [go_sem, w1]
   exact ⟨⟨k + 1, by omega, below_succ hall he⟩, by show l.length - (k + 1) < l.length - k; omega, ⟨rfl, (fcs rfl (fcs rfl (fcs rfl (fcs rfl fnl)))), fnl, fnl⟩⟩
  ·rw [he] at hc
   have hx := idx_found (p := p) hka hall he
   simp only [go_sem, h, getD_ent hka, ent, i1]
   refine vCall_of (hc) ?_ ?_ ?_; iterate 2 simp only [go_sem, ent]
   simp only [go_sem, hx]
 ·have hx := idx_none (p := p) (d := default) (l := l) (fun j hj => hall j (by omega))
  simp only [go_sem, h, hx]
theorem didsL_str (l : List Str) : PV.didsL (l.map .str) = [] := by
 induction l with
 | nil => rfl
 | cons t l ih => simp only [List.map_cons, PV.didsL, ih, PV.dids, List.append_nil]
theorem ent_dids (e : En) : (ent e).dids = [] := by simp only [ent, PV.dids, PV.didsL, didsL_str, List.append_nil]
set_option maxHeartbeats 1000000 in
theorem ownEntry_pure (e : En) (he : e.l.length ≤ 1000000) : PL.Pure Tryz.prog 53 [ent e] (ent e) := by
 have hr := room_small (show e.l.length ≤ 100000000000 by omega) (show 16 ≤ 1000 by omega)
 refine PL.Pure.of_v Tryz.func53 (by decide) rfl Tryz.ntmps53 Tryz.results53 (by simp) (ent_dids _) ?_
 simp only [go_sem, ent, sized_str, atoms_str, hr]
end Go.Proofs.YthingdchjkhfbaaGreat
