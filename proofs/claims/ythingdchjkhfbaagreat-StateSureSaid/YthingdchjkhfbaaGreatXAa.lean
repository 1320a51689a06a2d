/- Facts on the table of types of this seat, printed by program: one rule a fact. -/
import Derived.Test.YthingdchjkhfbaaGreatProg
import Derived.Test.YthingdchjkhfbaaGreatPlH
import Derived.KernelRfl
namespace Go.Proofs.YthingdchjkhfbaaGreat
set_option maxHeartbeats 64000000
set_option maxRecDepth 20000
set_option linter.unusedVariables false
set_option linter.unusedSimpArgs false
open Go.PL
@[go_sem] theorem ZD0:tkn Tryz.prog 2=true:=by kernel_rfl
@[go_sem] theorem ZD4:tsz Tryz.prog 2=1:=by kernel_rfl
@[go_sem] theorem ZCR:Zan Tryz.prog 2=false:=by kernel_rfl
@[go_sem] theorem ZD1:tkn Tryz.prog 3=true:=by kernel_rfl
@[go_sem] theorem ZD5:tsz Tryz.prog 3=1:=by kernel_rfl
@[go_sem] theorem ZCS:Zan Tryz.prog 3=false:=by kernel_rfl
@[go_sem] theorem ZD2:tkn Tryz.prog 4=true:=by kernel_rfl
@[go_sem] theorem ZD6:tsz Tryz.prog 4=1:=by kernel_rfl
@[go_sem] theorem ZCT:Zan Tryz.prog 4=false:=by kernel_rfl
@[go_sem] theorem ZC7:Zp2 Tryz.prog 4= .bool:=by kernel_rfl
@[go_sem] theorem ZD3:tkn Tryz.prog 9=true:=by kernel_rfl
@[go_sem] theorem ZD7:tsz Tryz.prog 9=1:=by kernel_rfl
@[go_sem] theorem ZCU:Zan Tryz.prog 9=false:=by kernel_rfl
@[go_sem] theorem ZDZ:tix Tryz.prog 9= .str:=by kernel_rfl
@[go_sem] theorem ZDy:ZmY Tryz.prog 9= .str:=by kernel_rfl
@[go_sem] theorem ZC8:tix Tryz.prog 22= .slc 20 true:=by kernel_rfl
@[go_sem] theorem ZCl:ZmY Tryz.prog 22= .slc:=by kernel_rfl
@[go_sem] theorem ZBh:Zcg Tryz.prog 22=some ⟨77,20,264⟩:=by kernel_rfl
@[go_sem] theorem ZC9:tix Tryz.prog 23= .slc 15 true:=by kernel_rfl
@[go_sem] theorem ZCm:ZmY Tryz.prog 23= .slc:=by kernel_rfl
@[go_sem] theorem ZBi:Zcg Tryz.prog 23=some ⟨37,15,176⟩:=by kernel_rfl
@[go_sem] theorem ZDh:tkn Tryz.prog 25=true:=by kernel_rfl
@[go_sem] theorem ZDz:tsz Tryz.prog 25=2:=by kernel_rfl
@[go_sem] theorem Zyt:Zan Tryz.prog 25=true:=by kernel_rfl
@[go_sem] theorem ZBv:ZcK Tryz.prog 25=some [.int .i64 0,.int .i64 0]:=by kernel_rfl
@[go_sem] theorem ZAa:ZcN Tryz.prog 25 0=some (0,1,false):=by kernel_rfl
@[go_sem] theorem ZAb:ZcN Tryz.prog 25 1=some (1,1,false):=by kernel_rfl
@[go_sem] theorem ZCV:tbd Tryz.prog 25= .str [(0,1),(1,1)] [.int .i64 0,.int .i64 0]:=by kernel_rfl
@[go_sem] theorem Zzo:Zj1 Tryz.prog 25=some [.int,.int]:=by kernel_rfl
@[go_sem] theorem ZCb:Zp2 Tryz.prog 30= .ptr:=by kernel_rfl
@[go_sem] theorem ZDi:tkn Tryz.prog 34=true:=by kernel_rfl
@[go_sem] theorem ZDA:tsz Tryz.prog 34=3:=by kernel_rfl
@[go_sem] theorem ZBS:Zan Tryz.prog 34=true:=by kernel_rfl
@[go_sem] theorem ZBw:ZcK Tryz.prog 34=some [.int .i64 0,.str [],.str []]:=by kernel_rfl
@[go_sem] theorem ZAc:ZcN Tryz.prog 34 0=some (0,1,false):=by kernel_rfl
@[go_sem] theorem ZAd:ZcN Tryz.prog 34 1=some (1,1,false):=by kernel_rfl
@[go_sem] theorem ZAe:ZcN Tryz.prog 34 2=some (2,1,false):=by kernel_rfl
@[go_sem] theorem ZCW:tbd Tryz.prog 34= .str [(0,1),(1,1),(2,1)] [.int .i64 0,.str [],.str []]:=by kernel_rfl
@[go_sem] theorem Zzp:Zj1 Tryz.prog 34=some [.int,.str,.str]:=by kernel_rfl
@[go_sem] theorem ZDj:tkn Tryz.prog 35=true:=by kernel_rfl
@[go_sem] theorem ZDB:tsz Tryz.prog 35=1:=by kernel_rfl
@[go_sem] theorem ZBT:Zan Tryz.prog 35=false:=by kernel_rfl
@[go_sem] theorem ZDa:tix Tryz.prog 35= .slc 2 true:=by kernel_rfl
@[go_sem] theorem ZCn:ZmY Tryz.prog 35= .slc:=by kernel_rfl
@[go_sem] theorem ZBj:Zcg Tryz.prog 35=some ⟨25,2,16⟩:=by kernel_rfl
@[go_sem] theorem ZDk:tkn Tryz.prog 37=true:=by kernel_rfl
@[go_sem] theorem ZDC:tsz Tryz.prog 37=15:=by kernel_rfl
@[go_sem] theorem Zyu:Zan Tryz.prog 37=true:=by kernel_rfl
@[go_sem] theorem ZBx:ZcK Tryz.prog 37=some [.int .i64 0,.int .i64 0,.int .i64 0,.int .i64 0,.int .i64 0,.str [],.int .i64 0,.str [],.int .i64 0,.str [],.str [],.int .i64 0,.bool false,.str [],.sl .nil []]:=by kernel_rfl
@[go_sem] theorem ZAf:ZcN Tryz.prog 37 0=some (0,2,true):=by kernel_rfl
@[go_sem] theorem ZAg:ZcN Tryz.prog 37 1=some (2,2,true):=by kernel_rfl
@[go_sem] theorem ZAh:ZcN Tryz.prog 37 2=some (4,1,false):=by kernel_rfl
@[go_sem] theorem ZAi:ZcN Tryz.prog 37 3=some (5,1,false):=by kernel_rfl
@[go_sem] theorem ZAj:ZcN Tryz.prog 37 4=some (6,1,false):=by kernel_rfl
@[go_sem] theorem ZAk:ZcN Tryz.prog 37 5=some (7,1,false):=by kernel_rfl
@[go_sem] theorem ZAl:ZcN Tryz.prog 37 6=some (8,3,true):=by kernel_rfl
@[go_sem] theorem ZAm:ZcN Tryz.prog 37 7=some (11,1,false):=by kernel_rfl
@[go_sem] theorem ZAn:ZcN Tryz.prog 37 8=some (12,1,false):=by kernel_rfl
@[go_sem] theorem ZAo:ZcN Tryz.prog 37 9=some (13,1,false):=by kernel_rfl
@[go_sem] theorem Zzn:ZcN Tryz.prog 37 10=some (14,1,false):=by kernel_rfl
@[go_sem] theorem ZCX:tbd Tryz.prog 37= .str [(0,2),(2,2),(4,1),(5,1),(6,1),(7,1),(8,3),(11,1),(12,1),(13,1),(14,1)] [.int .i64 0,.int .i64 0,.int .i64 0,.int .i64 0,.int .i64 0,.str [],.int .i64 0,.str [],.int .i64 0,.str [],.str [],.int .i64 0,.bool false,.str [],.sl .nil []]:=by kernel_rfl
@[go_sem] theorem ZDl:tkn Tryz.prog 38=true:=by kernel_rfl
@[go_sem] theorem ZDD:tsz Tryz.prog 38=1:=by kernel_rfl
@[go_sem] theorem ZBU:Zan Tryz.prog 38=false:=by kernel_rfl
@[go_sem] theorem ZDb:tix Tryz.prog 38= .slc 5 true:=by kernel_rfl
@[go_sem] theorem ZCo:ZmY Tryz.prog 38= .slc:=by kernel_rfl
@[go_sem] theorem ZBk:Zcg Tryz.prog 38=some ⟨66,5,72⟩:=by kernel_rfl
@[go_sem] theorem ZDm:tkn Tryz.prog 39=true:=by kernel_rfl
@[go_sem] theorem ZDE:tsz Tryz.prog 39=1:=by kernel_rfl
@[go_sem] theorem ZBV:Zan Tryz.prog 39=false:=by kernel_rfl
@[go_sem] theorem ZDc:tix Tryz.prog 39= .slc 2 true:=by kernel_rfl
@[go_sem] theorem ZCp:ZmY Tryz.prog 39= .slc:=by kernel_rfl
@[go_sem] theorem ZBl:Zcg Tryz.prog 39=some ⟨91,2,40⟩:=by kernel_rfl
@[go_sem] theorem ZDn:tkn Tryz.prog 41=true:=by kernel_rfl
@[go_sem] theorem ZDF:tsz Tryz.prog 41=2:=by kernel_rfl
@[go_sem] theorem ZBW:Zan Tryz.prog 41=true:=by kernel_rfl
@[go_sem] theorem ZBy:ZcK Tryz.prog 41=some [.sl .nil [],.sl .nil []]:=by kernel_rfl
@[go_sem] theorem ZAp:ZcN Tryz.prog 41 0=some (0,1,false):=by kernel_rfl
@[go_sem] theorem ZAq:ZcN Tryz.prog 41 1=some (1,1,false):=by kernel_rfl
@[go_sem] theorem ZCY:tbd Tryz.prog 41= .str [(0,1),(1,1)] [.sl .nil [],.sl .nil []]:=by kernel_rfl
@[go_sem] theorem ZDo:tkn Tryz.prog 56=true:=by kernel_rfl
@[go_sem] theorem ZDG:tsz Tryz.prog 56=1:=by kernel_rfl
@[go_sem] theorem ZBX:Zan Tryz.prog 56=false:=by kernel_rfl
@[go_sem] theorem ZBz:ZcK Tryz.prog 56=some [.sl .nil []]:=by kernel_rfl
@[go_sem] theorem ZDd:tix Tryz.prog 56= .slc 7 true:=by kernel_rfl
@[go_sem] theorem ZCq:ZmY Tryz.prog 56= .slc:=by kernel_rfl
@[go_sem] theorem ZBm:Zcg Tryz.prog 56=some ⟨63,7,96⟩:=by kernel_rfl
@[go_sem] theorem ZDp:tkn Tryz.prog 61=true:=by kernel_rfl
@[go_sem] theorem ZDH:tsz Tryz.prog 61=1:=by kernel_rfl
@[go_sem] theorem ZBY:Zan Tryz.prog 61=false:=by kernel_rfl
@[go_sem] theorem ZDe:tix Tryz.prog 61= .slc 1 false:=by kernel_rfl
@[go_sem] theorem ZCr:ZmY Tryz.prog 61= .slc:=by kernel_rfl
@[go_sem] theorem ZBn:Zcg Tryz.prog 61=some ⟨9,1,16⟩:=by kernel_rfl
@[go_sem] theorem ZDq:tkn Tryz.prog 63=true:=by kernel_rfl
@[go_sem] theorem ZDI:tsz Tryz.prog 63=7:=by kernel_rfl
@[go_sem] theorem ZBZ:Zan Tryz.prog 63=true:=by kernel_rfl
@[go_sem] theorem ZBA:ZcK Tryz.prog 63=some [.int .i64 0,.str [],.str [],.int .i64 0,.str [],.sl .nil [],.int .i64 0]:=by kernel_rfl
@[go_sem] theorem ZAr:ZcN Tryz.prog 63 0=some (0,3,true):=by kernel_rfl
@[go_sem] theorem ZAs:ZcN Tryz.prog 63 1=some (3,1,false):=by kernel_rfl
@[go_sem] theorem ZAt:ZcN Tryz.prog 63 2=some (4,1,false):=by kernel_rfl
@[go_sem] theorem ZAu:ZcN Tryz.prog 63 3=some (5,1,false):=by kernel_rfl
@[go_sem] theorem ZAv:ZcN Tryz.prog 63 4=some (6,1,false):=by kernel_rfl
@[go_sem] theorem ZCZ:tbd Tryz.prog 63= .str [(0,3),(3,1),(4,1),(5,1),(6,1)] [.int .i64 0,.str [],.str [],.int .i64 0,.str [],.sl .nil [],.int .i64 0]:=by kernel_rfl
@[go_sem] theorem ZDr:tkn Tryz.prog 66=true:=by kernel_rfl
@[go_sem] theorem ZDJ:tsz Tryz.prog 66=5:=by kernel_rfl
@[go_sem] theorem ZB0:Zan Tryz.prog 66=true:=by kernel_rfl
@[go_sem] theorem ZBB:ZcK Tryz.prog 66=some [.int .i64 0,.str [],.str [],.int .i64 0,.sl .nil []]:=by kernel_rfl
@[go_sem] theorem ZAw:ZcN Tryz.prog 66 0=some (0,3,true):=by kernel_rfl
@[go_sem] theorem ZAx:ZcN Tryz.prog 66 1=some (3,1,false):=by kernel_rfl
@[go_sem] theorem ZAy:ZcN Tryz.prog 66 2=some (4,1,false):=by kernel_rfl
@[go_sem] theorem ZC0:tbd Tryz.prog 66= .str [(0,3),(3,1),(4,1)] [.int .i64 0,.str [],.str [],.int .i64 0,.sl .nil []]:=by kernel_rfl
@[go_sem] theorem ZDs:tkn Tryz.prog 73=true:=by kernel_rfl
@[go_sem] theorem ZDK:tsz Tryz.prog 73=1:=by kernel_rfl
@[go_sem] theorem ZB1:Zan Tryz.prog 73=false:=by kernel_rfl
@[go_sem] theorem ZDf:tix Tryz.prog 73= .slc 2 true:=by kernel_rfl
@[go_sem] theorem ZCs:ZmY Tryz.prog 73= .slc:=by kernel_rfl
@[go_sem] theorem ZBo:Zcg Tryz.prog 73=some ⟨170,2,32⟩:=by kernel_rfl
@[go_sem] theorem ZDt:tkn Tryz.prog 75=true:=by kernel_rfl
@[go_sem] theorem ZDL:tsz Tryz.prog 75=16:=by kernel_rfl
@[go_sem] theorem ZB2:Zan Tryz.prog 75=true:=by kernel_rfl
@[go_sem] theorem ZBC:ZcK Tryz.prog 75=some [.int .i64 0,.int .i64 0,.str [],.str [],.str [],.str [],.int .i64 0,.int .i64 0,.str [],.str [],.int .i64 0,.str [],.sl .nil [],.int .i64 0,.sl .nil [],.sl .nil []]:=by kernel_rfl
@[go_sem] theorem ZAz:ZcN Tryz.prog 75 0=some (0,1,false):=by kernel_rfl
@[go_sem] theorem ZAA:ZcN Tryz.prog 75 1=some (1,3,true):=by kernel_rfl
@[go_sem] theorem ZAB:ZcN Tryz.prog 75 2=some (4,1,false):=by kernel_rfl
@[go_sem] theorem ZAC:ZcN Tryz.prog 75 3=some (5,1,false):=by kernel_rfl
@[go_sem] theorem ZAD:ZcN Tryz.prog 75 4=some (6,1,false):=by kernel_rfl
@[go_sem] theorem ZAE:ZcN Tryz.prog 75 5=some (7,7,true):=by kernel_rfl
@[go_sem] theorem ZAF:ZcN Tryz.prog 75 6=some (14,1,false):=by kernel_rfl
@[go_sem] theorem ZAG:ZcN Tryz.prog 75 7=some (15,1,false):=by kernel_rfl
@[go_sem] theorem ZC1:tbd Tryz.prog 75= .str [(0,1),(1,3),(4,1),(5,1),(6,1),(7,7),(14,1),(15,1)] [.int .i64 0,.int .i64 0,.str [],.str [],.str [],.str [],.int .i64 0,.int .i64 0,.str [],.str [],.int .i64 0,.str [],.sl .nil [],.int .i64 0,.sl .nil [],.sl .nil []]:=by kernel_rfl
@[go_sem] theorem ZDu:tkn Tryz.prog 77=true:=by kernel_rfl
@[go_sem] theorem ZDM:tsz Tryz.prog 77=20:=by kernel_rfl
@[go_sem] theorem Zyv:Zan Tryz.prog 77=true:=by kernel_rfl
@[go_sem] theorem ZBD:ZcK Tryz.prog 77=some [.int .i64 0,.int .i64 0,.int .i64 0,.int .i64 0,.int .i64 0,.int .i64 0,.str [],.str [],.str [],.str [],.int .i64 0,.int .i64 0,.str [],.str [],.int .i64 0,.str [],.sl .nil [],.int .i64 0,.sl .nil [],.sl .nil []]:=by kernel_rfl
@[go_sem] theorem ZAH:ZcN Tryz.prog 77 0=some (0,2,true):=by kernel_rfl
@[go_sem] theorem ZAI:ZcN Tryz.prog 77 1=some (2,2,true):=by kernel_rfl
@[go_sem] theorem ZAJ:ZcN Tryz.prog 77 2=some (4,16,true):=by kernel_rfl
@[go_sem] theorem ZC2:tbd Tryz.prog 77= .str [(0,2),(2,2),(4,16)] [.int .i64 0,.int .i64 0,.int .i64 0,.int .i64 0,.int .i64 0,.int .i64 0,.str [],.str [],.str [],.str [],.int .i64 0,.int .i64 0,.str [],.str [],.int .i64 0,.str [],.sl .nil [],.int .i64 0,.sl .nil [],.sl .nil []]:=by kernel_rfl
@[go_sem] theorem ZDv:tkn Tryz.prog 82=true:=by kernel_rfl
@[go_sem] theorem ZDN:tsz Tryz.prog 82=1:=by kernel_rfl
@[go_sem] theorem ZB3:Zan Tryz.prog 82=false:=by kernel_rfl
@[go_sem] theorem ZBE:ZcK Tryz.prog 82=some [.nilmap]:=by kernel_rfl
@[go_sem] theorem ZCu:Zw0 Tryz.prog 82=some ([.str,.int,.str,.str],.sl .nil []):=by kernel_rfl
@[go_sem] theorem ZDw:tkn Tryz.prog 85=true:=by kernel_rfl
@[go_sem] theorem ZDO:tsz Tryz.prog 85=4:=by kernel_rfl
@[go_sem] theorem ZB4:Zan Tryz.prog 85=true:=by kernel_rfl
@[go_sem] theorem ZBF:ZcK Tryz.prog 85=some [.str [],.int .i64 0,.str [],.str []]:=by kernel_rfl
@[go_sem] theorem ZC3:tbd Tryz.prog 85= .str [(0,1),(1,3)] [.str [],.int .i64 0,.str [],.str []]:=by kernel_rfl
@[go_sem] theorem ZDx:tkn Tryz.prog 91=true:=by kernel_rfl
@[go_sem] theorem ZDP:tsz Tryz.prog 91=2:=by kernel_rfl
@[go_sem] theorem ZB5:Zan Tryz.prog 91=true:=by kernel_rfl
@[go_sem] theorem ZBG:ZcK Tryz.prog 91=some [.str [],.sl .nil []]:=by kernel_rfl
@[go_sem] theorem ZAK:ZcN Tryz.prog 91 0=some (0,1,false):=by kernel_rfl
@[go_sem] theorem ZAL:ZcN Tryz.prog 91 1=some (1,1,false):=by kernel_rfl
@[go_sem] theorem ZC4:tbd Tryz.prog 91= .str [(0,1),(1,1)] [.str [],.sl .nil []]:=by kernel_rfl
@[go_sem] theorem ZDg:tix Tryz.prog 96= .slc 16 true:=by kernel_rfl
@[go_sem] theorem ZCt:ZmY Tryz.prog 96= .slc:=by kernel_rfl
@[go_sem] theorem ZBp:Zcg Tryz.prog 96=some ⟨75,16,232⟩:=by kernel_rfl
@[go_sem] theorem ZCf:tkn Tryz.prog 104=true:=by kernel_rfl
@[go_sem] theorem ZCv:tsz Tryz.prog 104=23:=by kernel_rfl
@[go_sem] theorem ZBd:Zan Tryz.prog 104=true:=by kernel_rfl
@[go_sem] theorem ZAP:ZcK Tryz.prog 104=some [.int .i64 0,.int .i64 0,.int .i64 0,.int .i64 0,.int .i64 0,.int .i64 0,.str [],.str [],.str [],.str [],.int .i64 0,.int .i64 0,.str [],.str [],.int .i64 0,.str [],.sl .nil [],.int .i64 0,.sl .nil [],.sl .nil [],.int .i64 0,.sl .nil [],.int .i64 0]:=by kernel_rfl
@[go_sem] theorem Zze:ZcN Tryz.prog 104 0=some (0,20,true):=by kernel_rfl
@[go_sem] theorem Zzf:ZcN Tryz.prog 104 1=some (20,1,false):=by kernel_rfl
@[go_sem] theorem Zzg:ZcN Tryz.prog 104 2=some (21,1,false):=by kernel_rfl
@[go_sem] theorem Zzh:ZcN Tryz.prog 104 3=some (22,1,false):=by kernel_rfl
@[go_sem] theorem ZB6:tbd Tryz.prog 104= .str [(0,20),(20,1),(21,1),(22,1)] [.int .i64 0,.int .i64 0,.int .i64 0,.int .i64 0,.int .i64 0,.int .i64 0,.str [],.str [],.str [],.str [],.int .i64 0,.int .i64 0,.str [],.str [],.int .i64 0,.str [],.sl .nil [],.int .i64 0,.sl .nil [],.sl .nil [],.int .i64 0,.sl .nil [],.int .i64 0]:=by kernel_rfl
@[go_sem] theorem ZCc:tix Tryz.prog 107= .slc 3 true:=by kernel_rfl
@[go_sem] theorem ZBr:ZmY Tryz.prog 107= .slc:=by kernel_rfl
@[go_sem] theorem Zz8:Zcg Tryz.prog 107=some ⟨34,3,40⟩:=by kernel_rfl
@[go_sem] theorem ZCg:tkn Tryz.prog 114=true:=by kernel_rfl
@[go_sem] theorem ZCw:tsz Tryz.prog 114=1:=by kernel_rfl
@[go_sem] theorem ZBe:Zan Tryz.prog 114=false:=by kernel_rfl
@[go_sem] theorem ZBq:Zp2 Tryz.prog 114= .map:=by kernel_rfl
@[go_sem] theorem ZAM:Zp5 Tryz.prog 114=true:=by kernel_rfl
@[go_sem] theorem ZBt:Zw0 Tryz.prog 114=some ([.int,.int],.agg [.int .i64 0,.int .i64 0,.int .i64 0,.int .i64 0,.int .i64 0,.int .i64 0,.str [],.str [],.str [],.str [],.int .i64 0,.int .i64 0,.str [],.str [],.int .i64 0,.str [],.sl .nil [],.int .i64 0,.sl .nil [],.sl .nil [],.int .i64 0,.sl .nil [],.int .i64 0]):=by kernel_rfl
@[go_sem] theorem Zzi:ZcN Tryz.prog 116 0=some (0,1,false):=by kernel_rfl
@[go_sem] theorem ZB7:tbd Tryz.prog 116= .str [(0,1)] [.nilmap]:=by kernel_rfl
@[go_sem] theorem ZBu:Zw0 Tryz.prog 124=some ([.int,.int],.agg []):=by kernel_rfl
@[go_sem] theorem ZCh:tkn Tryz.prog 125=true:=by kernel_rfl
@[go_sem] theorem ZCx:tsz Tryz.prog 125=0:=by kernel_rfl
@[go_sem] theorem ZAQ:ZcK Tryz.prog 125=some []:=by kernel_rfl
@[go_sem] theorem ZB8:tbd Tryz.prog 125= .str [] []:=by kernel_rfl
@[go_sem] theorem ZCd:tix Tryz.prog 143= .slc 3 true:=by kernel_rfl
@[go_sem] theorem ZBs:ZmY Tryz.prog 143= .slc:=by kernel_rfl
@[go_sem] theorem Zz9:Zcg Tryz.prog 143=some ⟨147,3,24⟩:=by kernel_rfl
@[go_sem] theorem ZCi:tkn Tryz.prog 147=true:=by kernel_rfl
@[go_sem] theorem ZCy:tsz Tryz.prog 147=3:=by kernel_rfl
@[go_sem] theorem ZBf:Zan Tryz.prog 147=true:=by kernel_rfl
@[go_sem] theorem ZAR:ZcK Tryz.prog 147=some [.int .i64 0,.int .i64 0,.bool false]:=by kernel_rfl
@[go_sem] theorem Zzj:ZcN Tryz.prog 147 0=some (0,2,true):=by kernel_rfl
@[go_sem] theorem Zzk:ZcN Tryz.prog 147 1=some (2,1,false):=by kernel_rfl
@[go_sem] theorem ZB9:tbd Tryz.prog 147= .str [(0,2),(2,1)] [.int .i64 0,.int .i64 0,.bool false]:=by kernel_rfl
@[go_sem] theorem ZCj:tkn Tryz.prog 170=true:=by kernel_rfl
@[go_sem] theorem ZCz:tsz Tryz.prog 170=2:=by kernel_rfl
@[go_sem] theorem ZwX:Zan Tryz.prog 170=true:=by kernel_rfl
@[go_sem] theorem ZAS:ZcK Tryz.prog 170=some [.str [],.str []]:=by kernel_rfl
@[go_sem] theorem Zzl:ZcN Tryz.prog 170 0=some (0,1,false):=by kernel_rfl
@[go_sem] theorem Zzm:ZcN Tryz.prog 170 1=some (1,1,false):=by kernel_rfl
@[go_sem] theorem Zyx:Zj1 Tryz.prog 170=some [.str,.str]:=by kernel_rfl
@[go_sem] theorem ZCk:tkn Tryz.prog 244=true:=by kernel_rfl
@[go_sem] theorem ZCA:tsz Tryz.prog 244=2:=by kernel_rfl
@[go_sem] theorem ZBg:Zan Tryz.prog 244=true:=by kernel_rfl
@[go_sem] theorem ZAT:ZcK Tryz.prog 244=some [.flt .f64 0,.flt .f64 0]:=by kernel_rfl
@[go_sem] theorem ZCe:tix Tryz.prog 244= .arr 2 1 false:=by kernel_rfl
@[go_sem] theorem ZCa:tbd Tryz.prog 244= .arr 1 [.flt .f64 0,.flt .f64 0]:=by kernel_rfl
@[go_sem] theorem Zz7:tcv Tryz.prog 3 183= .int .u64:=by kernel_rfl
@[go_sem] theorem Zz6:tcv Tryz.prog 183 3= .int .i64:=by kernel_rfl
open Go.PL
attribute [go_sem] reduceIte Nat.reduceEqDiff reduceCtorEq Nat.reduceLT Nat.reduceAdd Nat.reduceSub Nat.reduceMul Nat.reduceLeDiff Int.reduceLT Int.reduceLE Int.reduceToNat Int.reduceEq Int.reduceAdd Int.reduceSub Int.reduceNeg Int.reduceBNe Int.reduceBEq
attribute [go_sem] true_or or_true List.getElem?_cons_zero List.getElem?_cons_succ List.getElem?_nil decide_true decide_false Bool.not_true Bool.not_false imp_self false_implies true_implies List.all_cons List.all_nil Bool.and_true Bool.false_eq_true Nat.zero_add Nat.add_zero Option.some.injEq true_and and_true List.getD_cons_zero List.getD_cons_succ List.length_cons List.length_nil ne_eq not_false_eq_true implies_true and_self List.take List.drop List.map_cons List.map_nil List.reverse_cons List.reverse_nil List.nil_append PV.bool.injEq List.length_map Int.toNat_natCast Nat.mul_one beq_self_eq_true bne_self_eq_false Bool.or_self Bool.false_or Bool.true_or Bool.or_true Bool.or_false
theorem w64 {x:Int} (h: -9223372036854775808≤x∧x≤9223372036854775807):IntKind.i64.wrap x=x:=IntWalk.i64_in _ (by omega)
theorem Zd:maxLen=9223372036854775807:=by decide
theorem Zcd {k n:Nat} (h:k<n) (hn:n≤maxLen):IntKind.i64.wrap ((k:Int)+1)=((k+1:Nat):Int):=by
 rw[Zd]at hn;rw[w64 (by omega)];rfl
abbrev Str:=List UInt8
structure Rf where
 sc:Int
 gr:Str
 nm:Str
 deriving DecidableEq,Inhabited
structure En where
 at':Rf
 n:Int
 l:List Str
 deriving DecidableEq,Inhabited
structure Rw where
 item:Str
 l:List En
 deriving DecidableEq,Inhabited
structure Dc where
 head:List En
 rows:List Rw
 deriving DecidableEq,Inhabited
def ZaM (l:List Str):PV:= .sl .no (l.map .str)
def ref (r:Rf):PV:= .agg [.int .i64 r.sc,.str r.gr,.str r.nm]
def ent (e:En):PV:= .agg [.int .i64 e.at'.sc,.str e.at'.gr,.str e.at'.nm,.int .i64 e.n,.sl .no (e.l.map .str)]
def Zaj (l:List En):PV:= .sl .no (l.map ent)
def row (r:Rw):PV:= .agg [.str r.item,.sl .no (r.l.map ent)]
def doc (d:Dc):PV:= .agg [.sl .no (d.head.map ent),.sl .no (d.rows.map row)]
theorem Zt (a b:Rf):(a.sc==b.sc&&(a.gr==b.gr&&a.nm==b.nm))=decide (a=b):=by
 cases a;cases b;rw[Bool.eq_iff_iff];simp
theorem ZR {l:List Str} {i:Nat} (h:i<l.length):(l.map PV.str).getD i .any= .str (l.getD i []):=by
 simp[List.getD_eq_getElem?_getD,h]
theorem ZbL {l:List En} {i:Nat} (h:i<l.length):(l.map ent).getD i .any=ent (l.getD i default):=by
 simp[List.getD_eq_getElem?_getD,h]
theorem Zcv {l:List Rw} {i:Nat} (h:i<l.length):(l.map row).getD i .any=row (l.getD i default):=by
 simp[List.getD_eq_getElem?_getD,h]
theorem ZC {α:Type} {l:List α} {i:Nat} {d:α} (h:i<l.length):l.getD i d∈l:=by
 rw[List.getD_eq_getElem?_getD,List.getElem?_eq_getElem h];exact List.getElem_mem h
theorem Zcl {α:Type} {a b:List α} {d:α} (hl:a.length=b.length) (h:∀j,j<a.length→a.getD j d=b.getD j d):a=b:=by
 apply List.ext_getElem hl;intro i h1 h2;have:=h i h1;simpa[List.getD_eq_getElem?_getD,h1,h2]using this
theorem Zef {α:Type} {a b:List α} {d:α} {j:Nat} (h:a.getD j d≠b.getD j d):a≠b:=fun e=>h (by rw[e])
theorem ZkE (a b:List Str) (ha:a.length≤maxLen) (hb:b.length≤maxLen):PL.Pure Tryz.prog 54 [ZaM a,ZaM b] (.bool (decide (a=b))):=by
 by_cases hl:a.length=b.length
 ·have hl':((a.length:Int) !=(b.length:Int))=false:=by rw[hl];exact bne_self_eq_false _
  refine pov Tryz.func54 (by decide) rfl Tryz.ntmps54 Tryz.results54 (by simp) rfl ?_;simp only[go_sem,ZaM,hl'];refine ZI (ι:= { k:Nat // k≤a.length∧ ∀j,j<k→a.getD j []=b.getD j [] }) 26 (fun x=> [(0,ZaM a),(1,ZaM b),(5,.int .i64 (x.1:Int))]) (fun x=> []) (fun x=> []) (fun x=>a.length-x.1) ⟨0,by omega,fun j hj=>by omega⟩
   ⟨rfl,(Fc3 rfl rfl rfl),fnl,fnl⟩ (fun x=>⟨(Fc3 rfl rfl rfl),fnl⟩) (fun x=> ?_)
  obtain⟨k,hk,hall⟩:=x;simp only
  by_cases h:(k:Int)<(a.length:Int)
  ·have hka:k<a.length:=by omega
   have hkb:k<b.length:=by omega
   have w1:=Zcd hka ha;have i1:(0:Int)≤(k:Int):=by omega
   have i2:(k:Int)<(b.length:Int):=by omega
   by_cases he:a.getD k []=b.getD k []
   ·have he':(a.getD k []==b.getD k [])=true:=beq_iff_eq.2 he;simp only[go_sem,ZaM,h];refine Ze (by kernel_rfl) (by kernel_rfl) ?_;simp only[go_sem,ZR hka,ZR hkb,h,i1,i2,he',w1];exact⟨⟨k+1,by omega,fun j hj=>by
     rcases Nat.lt_or_ge j k with h1|h1
     ·exact hall j h1
     ·obtain rfl:j=k:=by omega
      exact he⟩,by show a.length-(k+1)<a.length-k;omega,⟨rfl,(Fc3 rfl rfl rfl),fnl,fnl⟩⟩
   ·have he':(a.getD k []==b.getD k [])=false:=beq_eq_false_iff_ne.2 he;have hab:¬a=b:=Zef he;simp only[go_sem,ZaM,h];refine Ze (by kernel_rfl) (by kernel_rfl) ?_;simp only[go_sem,ZR hka,ZR hkb,h,i1,i2,he',hab]
  ·have hab:decide (a=b)=true:=decide_eq_true (Zcl (d:= []) hl fun j hj=>hall j (by omega));simp only[go_sem,ZaM,h,hab]
 ·have hl':((a.length:Int) !=(b.length:Int))=true:=bne_iff_ne.2 (by omega);have hab:¬a=b:=fun e=>hl (by rw[e])
  refine pov Tryz.func54 (by decide) rfl Tryz.ntmps54 Tryz.results54 (by simp) rfl ?_;simp only[go_sem,ZaM,hl',hab]
open Go.PL
def idx {α:Type} (p:α→Bool) (l:List α):Int:=match l.findIdx? p with|some i=>(i:Int)|none=> -1
theorem ZcB {α:Type} {p:α→Bool} {l:List α} {k:Nat} {d:α} (hk:k<l.length) (h:∀j,j<k→p (l.getD j d)=false) (hp:p (l.getD k d)=true):idx p l=k:=by
 have:l.findIdx? p=some k:=by
  rw[List.findIdx?_eq_some_iff_getElem];refine⟨hk,?_,fun j hj=> ?_⟩
  ·simpa[List.getD_eq_getElem?_getD,hk]using hp
  ·have:=h j hj;simp[List.getD_eq_getElem?_getD,show j<l.length by omega]at this;simp[this]
 simp[idx,this]
theorem ZfT {α:Type} {p:α→Bool} {l:List α} {d:α} (h:∀j,j<l.length→p (l.getD j d)=false):idx p l= -1:=by
 have:l.findIdx? p=none:=by
  rw[List.findIdx?_eq_none_iff];intro x hx;obtain⟨j,hj,rfl⟩:=List.getElem_of_mem hx;have:=h j hj;simpa[List.getD_eq_getElem?_getD,hj]using this
 simp[idx,this]
theorem Zp {p:Nat→Prop} {k:Nat} (h:∀j,j<k→p j) (hk:p k):∀j,j<k+1→p j:=fun j hj=>by
 rcases Nat.lt_or_ge j k with h1|h1
 ·exact h j h1
 ·obtain rfl:j=k:=by omega
  exact hk
theorem ZzA {a b:En} (h1:a.at'=b.at') (h2:a.n=b.n) (h3:a.l=b.l):a=b:=by
 cases a;cases b;simp_all
theorem ZcO (a b:List En) (ha:a.length≤maxLen) (hb:b.length≤maxLen) (ha':∀e∈a,e.l.length≤maxLen) (hb':∀e∈b,e.l.length≤maxLen):PL.Pure Tryz.prog 27 [Zaj a,Zaj b] (.bool (decide (a=b))):=by
 by_cases hl:a.length=b.length
 ·have hl':((a.length:Int) !=(b.length:Int))=false:=by rw[hl];exact bne_self_eq_false _
  refine pov Tryz.func27 (by decide) rfl Tryz.ntmps27 Tryz.results27 (by simp) rfl ?_;simp only[go_sem,Zaj,hl'];refine ZI (ι:= { k:Nat // k≤a.length∧ ∀j,j<k→a.getD j default=b.getD j default }) 55 (fun x=> [(0,Zaj a),(1,Zaj b),(5,.int .i64 (x.1:Int))]) (fun x=> []) (fun x=> []) (fun x=>a.length-x.1) ⟨0,by omega,fun j hj=>by omega⟩
   ⟨rfl,(Fc3 rfl rfl rfl),fnl,fnl⟩ (fun x=>⟨(Fc3 rfl rfl rfl),fnl⟩) (fun x=> ?_)
  obtain⟨k,hk,hall⟩:=x;simp only
  by_cases h:(k:Int)<(a.length:Int)
  ·have hka:k<a.length:=by omega
   have hkb:k<b.length:=by omega
   have w1:=Zcd hka ha;have i1:(0:Int)≤(k:Int):=by omega
   have i2:(k:Int)<(b.length:Int):=by omega
   have hc:=ZkE _ _ (ha' _ (ZC (d:=default) hka)) (hb' _ (ZC (d:=default) hkb))
   by_cases e1:(a.getD k default).at'=(b.getD k default).at'
   ·have e1':=decide_eq_true e1
    by_cases e2:(a.getD k default).n=(b.getD k default).n
    ·have e2':((a.getD k default).n !=(b.getD k default).n)=false:=by rw[e2];exact bne_self_eq_false _
     by_cases e3:(a.getD k default).l=(b.getD k default).l
     ·rw[decide_eq_true e3]at hc;simp only[go_sem,Zaj,h];refine Ze (by kernel_rfl) (by kernel_rfl) ?_;simp only[go_sem,ZbL hka,ZbL hkb,ent,h,i1,i2,Zt,e1',e2'];refine Za (hc) ?_ ?_ ?_;iterate 2 simp only[go_sem,ZaM]
      simp only[go_sem,w1];exact⟨⟨k+1,by omega,Zp hall (ZzA e1 e2 e3)⟩,by show a.length-(k+1)<a.length-k;omega,⟨rfl,(Fc3 rfl rfl rfl),fnl,fnl⟩⟩
     ·rw[decide_eq_false e3]at hc;have hab:¬a=b:=fun e=>e3 (by rw[e])
      simp only[go_sem,Zaj,h];refine Ze (by kernel_rfl) (by kernel_rfl) ?_;simp only[go_sem,ZbL hka,ZbL hkb,ent,h,i1,i2,Zt,e1',e2'];refine Za (hc) ?_ ?_ ?_;iterate 2 simp only[go_sem,ZaM]
      simp only[go_sem,hab]
    ·have e2':((a.getD k default).n !=(b.getD k default).n)=true:=bne_iff_ne.2 e2;have hab:¬a=b:=fun e=>e2 (by rw[e])
     simp only[go_sem,Zaj,h];refine Ze (by kernel_rfl) (by kernel_rfl) ?_;simp only[go_sem,ZbL hka,ZbL hkb,ent,h,i1,i2,Zt,e1',e2',hab]
   ·have e1':=decide_eq_false e1;have hab:¬a=b:=fun e=>e1 (by rw[e])
    simp only[go_sem,Zaj,h];refine Ze (by kernel_rfl) (by kernel_rfl) ?_;simp only[go_sem,ZbL hka,ZbL hkb,ent,h,i1,i2,Zt,e1',hab]
  ·have hab:decide (a=b)=true:=decide_eq_true (Zcl (d:=default) hl fun j hj=>hall j (by omega));simp only[go_sem,Zaj,h,hab]
 ·have hl':((a.length:Int) !=(b.length:Int))=true:=bne_iff_ne.2 (by omega);have hab:¬a=b:=fun e=>hl (by rw[e])
  refine pov Tryz.func27 (by decide) rfl Tryz.ntmps27 Tryz.results27 (by simp) rfl ?_;simp only[go_sem,Zaj,hl',hab]
open Go.PL
theorem ZeA {α:Type} {p:α→Bool} {l:List α} {k:Nat} {d:α} (hk:k<l.length) (h:p (l.getD k d)=true):l.any p=true:=
 List.any_eq_true.2 ⟨_,ZC hk,h⟩
theorem Zd5 {α:Type} {p:α→Bool} {l:List α} {d:α} (h:∀j,j<l.length→p (l.getD j d)=false):l.any p=false:=by
 rw[List.any_eq_false];intro x hx;obtain⟨j,hj,rfl⟩:=List.getElem_of_mem hx;have:=h j hj;simpa[List.getD_eq_getElem?_getD,hj]using this
def ZbH (n:Nat) (s:Str):Bool:=decide ((n:Int)<(s.length:Int))
def ZCO (e:En):Bool:=ZbH 200 e.at'.gr||(ZbH 200 e.at'.nm||(decide ((410:Int)<(e.l.length:Int))||e.l.any (ZbH 200)))
def ZtP (l:List En):Bool:=decide ((40:Int)<(l.length:Int))||l.any ZCO
def ZsW (d:Dc):Prop:=d.head.length≤maxLen∧d.rows.length≤maxLen∧(∀e∈d.head,e.l.length≤maxLen)∧ ∀r∈d.rows,r.l.length≤maxLen∧ ∀e∈r.l,e.l.length≤maxLen
open Go.PL
@[go_sem] theorem Zzv {α:Type}:(#[]:Array α).isEmpty=true:=rfl
theorem ZcA {α:Type} (p:α→Bool) (l:List α):idx p l= -1∨ ∃k:Nat,k<l.length∧idx p l=k:=by
 unfold idx;cases h:l.findIdx? p with
 |none=>exact .inl rfl
 |some k=>
  rw[List.findIdx?_eq_some_iff_getElem]at h;exact .inr ⟨k,h.1,rfl⟩
theorem Zbf {n b:Nat} (hn:n≤100000000000) (hb:b≤1000):ZrF n b:=by
 refine⟨?_,by unfold maxLen;omega⟩
 calc n*b≤100000000000*1000:=Nat.mul_le_mul hn hb
  _≤140737488355328:=by decide
@[go_sem] theorem Zz5 (n:Nat):Sized n []=True:=by simp[Sized]
@[go_sem] theorem Zzc (n:Nat) (e:PV) (l:List PV):Sized n (e::l)=(e.cells.length=n∧Sized n l):=by simp[Sized]
@[go_sem] theorem Zzw:Zcy []=True:=by simp[Zcy]
@[go_sem] theorem Zy6 (e:PV) (l:List PV):Zcy (e::l)=(e.cells.all PV.atom=true∧Zcy l):=by simp[Zcy]
theorem ZaJ (l:List Str):Sized 1 (l.map .str):=fun e he=>by
 obtain⟨x,_,rfl⟩:=List.mem_map.1 he;rfl
theorem ZiY (l:List Str):Zcy (l.map .str):=fun e he=>by
 obtain⟨x,_,rfl⟩:=List.mem_map.1 he;rfl
theorem Zsq (r:Rw) (it:Str):PL.Pure Tryz.prog 98 [row r,.rptr [.str it]] (.bool (r.item==it)):=by
 refine pov Tryz.func98 (by decide) rfl Tryz.ntmps98 Tryz.results98 (by simp) rfl ?_;simp only[go_sem,row]
theorem Zlx (e:En) (r:Rf):PL.Pure Tryz.prog 100 [ent e,.rptr [.int .i64 r.sc,.str r.gr,.str r.nm]] (.bool (decide (e.at'=r))):=by
 refine pov Tryz.func100 (by decide) rfl Tryz.ntmps100 Tryz.results100 (by simp) rfl ?_;simp only[go_sem,ent,Zt]
theorem ZlO (l:List Rw) (g:FuncId) (cs:List PV) (p:Rw→Bool) (hl:l.length≤maxLen) (hp:∀r∈l,PL.Pure Tryz.prog g [row r,.rptr cs] (.bool (p r))):
  PL.Pure Tryz.prog 97 [.sl .no (l.map row),.fn g [.rptr cs]] (.int .i64 (idx p l)):=by
 refine pov Tryz.func97 (by decide) rfl Tryz.ntmps97 Tryz.results97 (by simp) rfl ?_;simp only[go_sem];refine ZI (ι:= { k:Nat // k≤l.length∧ ∀j,j<k→p (l.getD j default)=false }) 19 (fun x=> [(0,.sl .no (l.map row)),(1,.fn g [.rptr cs]),(7,.int .i64 (l.length:Int)),(8,.int .i64 (x.1:Int))]) (fun x=> []) (fun x=> []) (fun x=>l.length-x.1) ⟨0,by omega,fun j hj=>by omega⟩
  ⟨rfl,(Fc4 rfl rfl rfl rfl),fnl,fnl⟩ (fun x=>⟨(Fc4 rfl rfl rfl rfl),fnl⟩) (fun x=> ?_)
 obtain⟨k,hk,hall⟩:=x;simp only
 by_cases h:(k:Int)<(l.length:Int)
 ·have hka:k<l.length:=by omega
  have w1:=Zcd hka hl;have i1:(0:Int)≤(k:Int):=by omega
  have hc:=hp _ (ZC (d:=default) hka);cases he:p (l.getD k default)
  ·rw[he]at hc;simp only[go_sem,h,Zcv hka,row,i1];refine Za (hc) ?_ ?_ ?_;iterate 2 simp only[go_sem,row]
   simp only[go_sem,w1];exact⟨⟨k+1,by omega,Zp hall he⟩,by show l.length-(k+1)<l.length-k;omega,⟨rfl,(Fc4 rfl rfl rfl rfl),fnl,fnl⟩⟩
  ·rw[he]at hc;have hx:=ZcB (p:=p) hka hall he;simp only[go_sem,h,Zcv hka,row,i1];refine Za (hc) ?_ ?_ ?_;iterate 2 simp only[go_sem,row]
   simp only[go_sem,hx]
 ·have hx:=ZfT (p:=p) (d:=default) (l:=l) (fun j hj=>hall j (by omega));simp only[go_sem,h,hx]
theorem Zgv (l:List En) (g:FuncId) (cs:List PV) (p:En→Bool) (hl:l.length≤maxLen) (hp:∀r∈l,PL.Pure Tryz.prog g [ent r,.rptr cs] (.bool (p r))):
  PL.Pure Tryz.prog 99 [.sl .no (l.map ent),.fn g [.rptr cs]] (.int .i64 (idx p l)):=by
 refine pov Tryz.func99 (by decide) rfl Tryz.ntmps99 Tryz.results99 (by simp) rfl ?_;simp only[go_sem];refine ZI (ι:= { k:Nat // k≤l.length∧ ∀j,j<k→p (l.getD j default)=false }) 19 (fun x=> [(0,.sl .no (l.map ent)),(1,.fn g [.rptr cs]),(7,.int .i64 (l.length:Int)),(8,.int .i64 (x.1:Int))]) (fun x=> []) (fun x=> []) (fun x=>l.length-x.1) ⟨0,by omega,fun j hj=>by omega⟩
  ⟨rfl,(Fc4 rfl rfl rfl rfl),fnl,fnl⟩ (fun x=>⟨(Fc4 rfl rfl rfl rfl),fnl⟩) (fun x=> ?_)
 obtain⟨k,hk,hall⟩:=x;simp only
 by_cases h:(k:Int)<(l.length:Int)
 ·have hka:k<l.length:=by omega
  have w1:=Zcd hka hl;have i1:(0:Int)≤(k:Int):=by omega
  have hc:=hp _ (ZC (d:=default) hka);cases he:p (l.getD k default)
  ·rw[he]at hc;simp only[go_sem,h,ZbL hka,ent,i1];refine Za (hc) ?_ ?_ ?_;iterate 2 simp only[go_sem,ent]
   simp only[go_sem,w1];exact⟨⟨k+1,by omega,Zp hall he⟩,by show l.length-(k+1)<l.length-k;omega,⟨rfl,(Fc4 rfl rfl rfl rfl),fnl,fnl⟩⟩
  ·rw[he]at hc;have hx:=ZcB (p:=p) hka hall he;simp only[go_sem,h,ZbL hka,ent,i1];refine Za (hc) ?_ ?_ ?_;iterate 2 simp only[go_sem,ent]
   simp only[go_sem,hx]
 ·have hx:=ZfT (p:=p) (d:=default) (l:=l) (fun j hj=>hall j (by omega));simp only[go_sem,h,hx]
theorem Zb5 (l:List Str):PV.didsL (l.map .str)= []:=by
 induction l with
 |nil=>rfl
 |cons t l ih=>simp only[List.map_cons,PV.didsL,ih,PV.dids,List.append_nil]
theorem ZcY (e:En):(ent e).dids= []:=by simp only[ent,PV.dids,PV.didsL,Zb5,List.append_nil]
theorem ZeN (e:En) (he:e.l.length≤1000000):PL.Pure Tryz.prog 53 [ent e] (ent e):=by
 have hr:=Zbf (show e.l.length≤100000000000 by omega) (show 16≤1000 by omega);refine pov Tryz.func53 (by decide) rfl Tryz.ntmps53 Tryz.results53 (by simp) (ZcY _) ?_;simp only[go_sem,ent,ZaJ,ZiY,hr]
end Go.Proofs.YthingdchjkhfbaaGreat
