/- Lemmas of the proof. -/
import Derived.Test.YtadgngamdofhiaaGreatPlH
import Derived.Test.YtadgngamdofhiaaGreatProg
import Derived.KernelRfl
import Derived.Laws.LoneSync
import Derived.Shelf.Slices.CompactS
import Derived.Shelf.Sort.Plain
import Derived.Shelf.Slices.In.SortNone
import Derived.RangeFuncBox
import Derived.WalkKit
import Derived.OwnWalkIn
import Derived.TacticsInMore
import Derived.LoopNIn
import Derived.LoopIn
import Derived.Test.YtadgngamdofhiaaGreatRows
import Derived.ProofKit
set_option maxHeartbeats 64000000
set_option maxRecDepth 20000
set_option linter.unusedVariables false
set_option linter.unusedSectionVars false
set_option linter.unusedSimpArgs false
open Inhabited renaming default→Jd
open Option renaming some→Hs
open Bool renaming true→Ht,false→Hf
open Go.Proofs.Tryz
open Go Go.PL
open Bool renaming false_and→Jc,eq_iff_iff→Jf,true_and→Ji,and_self→Jm,and_eq_true→Jn,or_eq_true→Js,or_eq_false_iff→Jv,and_false→Jw,false_eq_true→JA,not_false→JF,not_true→JU,false_or→JV,true_or→JY,not_eq_true'→J5,or_true→Kb,and_eq_false_iff→Kc,true_eq_false→Ki,or_self→Kj,and_true→Ks,or_false→Kt
open Decidable renaming byContradiction→Kr
open Int renaming natCast_nonneg→Ja,toNat_natCast→JQ,lt_trichotomy→J6,compare_eq_lt→J7,compare_eq_eq→J8,compare_eq_gt→J9
open List renaming getD_eq_getElem?_getD→Jb,append_nil→Je,getElem?_eq_getElem→Jk,getElem_of_mem→Jl,length_take→Jo,findIdx?_eq_some_iff_getElem→Jp,map_cons→Jq,range→Jr,mem_map→Ju,all_eq_true→Jz,findIdx?_eq_none_iff→JB,length_map→JC,take_succ_eq_append_getElem→JD,take_length→JG,length_append→JI,all_eq_false→JJ,mem_range→JK,pairwise_iff_getElem→JM,mem_cons→JN,filter_append→JO,pairwise_cons→JP,any_eq_true→JR,filter_cons→JS,find?_eq_some_iff_getElem→JT,eq_nil_of_length_eq_zero→JW,filter_nil→JX,find?_eq_none→JZ,eraseIdx_of_length_le→J2,drop_eq_getElem_cons→J3,any_eq_false→J4,length_filter_le→Kd,getD_cons_zero→Kg,Pairwise→Kh,length_cons→Km,take→Kn,getElem_mem→Ko,map_take→Ku,finRange→Kv
open Nat renaming zero_le→Jg,not_lt_zero→Jh,sub_zero→JH,lt_or_ge→Kk,lt_trichotomy→Kl,le_trans→Kw
open Op renaming bytesLess→Jy,negFloat→Ka
open PV renaming didsL→Jj,dids→Jt,ids→JE,idsL→JL,givableL→Ke,nomapL→Kf,giveL→Kq,str→Ky,agg→Kz,sl→KA
open Sem renaming run_bind→Kx
namespace Go.Proofs.YtadgngamdofhiaaGreat
open Go.PL
@[go_sem] theorem ZyS:tkn prog 2=true:=by kernel_rfl
@[go_sem] theorem ZyW:tsz prog 2=1:=by kernel_rfl
@[go_sem] theorem Zxz:Yy prog 2=false:=by kernel_rfl
@[go_sem] theorem ZyT:tkn prog 3=true:=by kernel_rfl
@[go_sem] theorem ZyX:tsz prog 3=1:=by kernel_rfl
@[go_sem] theorem ZxA:Yy prog 3=false:=by kernel_rfl
@[go_sem] theorem ZyU:tkn prog 4=true:=by kernel_rfl
@[go_sem] theorem ZyY:tsz prog 4=1:=by kernel_rfl
@[go_sem] theorem ZxB:Yy prog 4=false:=by kernel_rfl
@[go_sem] theorem ZxP:ZeS prog 4= .bool:=by kernel_rfl
@[go_sem] theorem ZyV:tkn prog 9=true:=by kernel_rfl
@[go_sem] theorem ZyZ:tsz prog 9=1:=by kernel_rfl
@[go_sem] theorem ZxC:Yy prog 9=false:=by kernel_rfl
@[go_sem] theorem ZyR:tix prog 9= .str:=by kernel_rfl
@[go_sem] theorem Zyi:ZdA prog 9= .str:=by kernel_rfl
@[go_sem] theorem ZxQ:tix prog 22= .slc 20 true:=by kernel_rfl
@[go_sem] theorem ZwX:ZdA prog 22= .slc:=by kernel_rfl
@[go_sem] theorem ZvA:Wy prog 22=Hs ⟨78,20,264⟩:=by kernel_rfl
@[go_sem] theorem ZxR:tix prog 23= .slc 15 true:=by kernel_rfl
@[go_sem] theorem ZwY:ZdA prog 23= .slc:=by kernel_rfl
@[go_sem] theorem ZwG:ZeS prog 23= .slc:=by kernel_rfl
@[go_sem] theorem ZvB:Wy prog 23=Hs ⟨62,15,176⟩:=by kernel_rfl
@[go_sem] theorem Zx0:tkn prog 25=true:=by kernel_rfl
@[go_sem] theorem Zyj:tsz prog 25=2:=by kernel_rfl
@[go_sem] theorem Zsq:Yy prog 25=true:=by kernel_rfl
@[go_sem] theorem ZvR:WT prog 25=Hs [.int .i64 0,.int .i64 0]:=by kernel_rfl
@[go_sem] theorem Zuc:WR prog 25 0=Hs (0,1,Hf):=by kernel_rfl
@[go_sem] theorem Zud:WR prog 25 1=Hs (1,1,Hf):=by kernel_rfl
@[go_sem] theorem ZxD:tbd prog 25= .str [(0,1),(1,1)] [.int .i64 0,.int .i64 0]:=by kernel_rfl
@[go_sem] theorem Ztu:ZbP prog 25=Hs [.int,.int]:=by kernel_rfl
@[go_sem] theorem Zx1:tkn prog 27=true:=by kernel_rfl
@[go_sem] theorem Zyk:tsz prog 27=3:=by kernel_rfl
@[go_sem] theorem Zsr:Yy prog 27=true:=by kernel_rfl
@[go_sem] theorem ZvS:WT prog 27=Hs [.int .i64 0,.str [],.str []]:=by kernel_rfl
@[go_sem] theorem Zue:WR prog 27 0=Hs (0,1,Hf):=by kernel_rfl
@[go_sem] theorem Zuf:WR prog 27 1=Hs (1,1,Hf):=by kernel_rfl
@[go_sem] theorem Zug:WR prog 27 2=Hs (2,1,Hf):=by kernel_rfl
@[go_sem] theorem ZxE:tbd prog 27= .str [(0,1),(1,1),(2,1)] [.int .i64 0,.str [],.str []]:=by kernel_rfl
@[go_sem] theorem Ztv:ZbP prog 27=Hs [.int,.str,.str]:=by kernel_rfl
@[go_sem] theorem ZwH:ZeS prog 32= .ptr:=by kernel_rfl
@[go_sem] theorem ZxS:tix prog 35= .slc 3 true:=by kernel_rfl
@[go_sem] theorem ZwZ:ZdA prog 35= .slc:=by kernel_rfl
@[go_sem] theorem ZvC:Wy prog 35=Hs ⟨70,3,40⟩:=by kernel_rfl
@[go_sem] theorem Zx2:tkn prog 36=true:=by kernel_rfl
@[go_sem] theorem Zyl:tsz prog 36=1:=by kernel_rfl
@[go_sem] theorem Zwm:Yy prog 36=false:=by kernel_rfl
@[go_sem] theorem ZvT:WT prog 36=Hs [.int .i64 0]:=by kernel_rfl
@[go_sem] theorem Zx3:tkn prog 48=true:=by kernel_rfl
@[go_sem] theorem Zym:tsz prog 48=1:=by kernel_rfl
@[go_sem] theorem Zwn:Yy prog 48=false:=by kernel_rfl
@[go_sem] theorem ZxT:tix prog 48= .slc 5 true:=by kernel_rfl
@[go_sem] theorem Zw0:ZdA prog 48= .slc:=by kernel_rfl
@[go_sem] theorem ZwI:ZeS prog 48= .slc:=by kernel_rfl
@[go_sem] theorem ZvD:Wy prog 48=Hs ⟨65,5,72⟩:=by kernel_rfl
@[go_sem] theorem Zx4:tkn prog 49=true:=by kernel_rfl
@[go_sem] theorem Zyn:tsz prog 49=1:=by kernel_rfl
@[go_sem] theorem Zwo:Yy prog 49=false:=by kernel_rfl
@[go_sem] theorem ZxU:tix prog 49= .slc 2 true:=by kernel_rfl
@[go_sem] theorem Zw1:ZdA prog 49= .slc:=by kernel_rfl
@[go_sem] theorem ZvE:Wy prog 49=Hs ⟨109,2,40⟩:=by kernel_rfl
@[go_sem] theorem Zx5:tkn prog 51=true:=by kernel_rfl
@[go_sem] theorem Zyo:tsz prog 51=2:=by kernel_rfl
@[go_sem] theorem Zwp:Yy prog 51=true:=by kernel_rfl
@[go_sem] theorem ZvU:WT prog 51=Hs [.sl .nil [],.sl .nil []]:=by kernel_rfl
@[go_sem] theorem Zuh:WR prog 51 0=Hs (0,1,Hf):=by kernel_rfl
@[go_sem] theorem Zui:WR prog 51 1=Hs (1,1,Hf):=by kernel_rfl
@[go_sem] theorem ZxF:tbd prog 51= .str [(0,1),(1,1)] [.sl .nil [],.sl .nil []]:=by kernel_rfl
@[go_sem] theorem Zx6:tkn prog 60=true:=by kernel_rfl
@[go_sem] theorem Zyp:tsz prog 60=1:=by kernel_rfl
@[go_sem] theorem Zwq:Yy prog 60=false:=by kernel_rfl
@[go_sem] theorem ZxV:tix prog 60= .slc 2 true:=by kernel_rfl
@[go_sem] theorem Zw2:ZdA prog 60= .slc:=by kernel_rfl
@[go_sem] theorem ZvF:Wy prog 60=Hs ⟨25,2,16⟩:=by kernel_rfl
@[go_sem] theorem Zx7:tkn prog 62=true:=by kernel_rfl
@[go_sem] theorem Zyq:tsz prog 62=15:=by kernel_rfl
@[go_sem] theorem Zss:Yy prog 62=true:=by kernel_rfl
@[go_sem] theorem ZvV:WT prog 62=Hs [.int .i64 0,.int .i64 0,.int .i64 0,.int .i64 0,.int .i64 0,.str [],.int .i64 0,.str [],.int .i64 0,.str [],.str [],.int .i64 0,.bool Hf,.str [],.sl .nil []]:=by kernel_rfl
@[go_sem] theorem Zuj:WR prog 62 0=Hs (0,2,Ht):=by kernel_rfl
@[go_sem] theorem Zuk:WR prog 62 1=Hs (2,2,Ht):=by kernel_rfl
@[go_sem] theorem Zul:WR prog 62 2=Hs (4,1,Hf):=by kernel_rfl
@[go_sem] theorem Zum:WR prog 62 3=Hs (5,1,Hf):=by kernel_rfl
@[go_sem] theorem Zun:WR prog 62 4=Hs (6,1,Hf):=by kernel_rfl
@[go_sem] theorem Zuo:WR prog 62 5=Hs (7,1,Hf):=by kernel_rfl
@[go_sem] theorem Zup:WR prog 62 6=Hs (8,3,Ht):=by kernel_rfl
@[go_sem] theorem Zuq:WR prog 62 7=Hs (11,1,Hf):=by kernel_rfl
@[go_sem] theorem Zur:WR prog 62 8=Hs (12,1,Hf):=by kernel_rfl
@[go_sem] theorem Zus:WR prog 62 9=Hs (13,1,Hf):=by kernel_rfl
@[go_sem] theorem Ztt:WR prog 62 10=Hs (14,1,Hf):=by kernel_rfl
@[go_sem] theorem ZxG:tbd prog 62= .str [(0,2),(2,2),(4,1),(5,1),(6,1),(7,1),(8,3),(11,1),(12,1),(13,1),(14,1)] [.int .i64 0,.int .i64 0,.int .i64 0,.int .i64 0,.int .i64 0,.str [],.int .i64 0,.str [],.int .i64 0,.str [],.str [],.int .i64 0,.bool Hf,.str [],.sl .nil []]:=by kernel_rfl
@[go_sem] theorem Zx8:tkn prog 63=true:=by kernel_rfl
@[go_sem] theorem Zyr:tsz prog 63=1:=by kernel_rfl
@[go_sem] theorem Zwr:Yy prog 63=false:=by kernel_rfl
@[go_sem] theorem ZxW:tix prog 63= .slc 1 false:=by kernel_rfl
@[go_sem] theorem Zw3:ZdA prog 63= .slc:=by kernel_rfl
@[go_sem] theorem ZwJ:ZeS prog 63= .slc:=by kernel_rfl
@[go_sem] theorem ZvG:Wy prog 63=Hs ⟨9,1,16⟩:=by kernel_rfl
@[go_sem] theorem Zx9:tkn prog 65=true:=by kernel_rfl
@[go_sem] theorem Zys:tsz prog 65=5:=by kernel_rfl
@[go_sem] theorem Zws:Yy prog 65=true:=by kernel_rfl
@[go_sem] theorem ZvW:WT prog 65=Hs [.int .i64 0,.str [],.str [],.int .i64 0,.sl .nil []]:=by kernel_rfl
@[go_sem] theorem Zut:WR prog 65 0=Hs (0,3,Ht):=by kernel_rfl
@[go_sem] theorem Zuu:WR prog 65 1=Hs (3,1,Hf):=by kernel_rfl
@[go_sem] theorem Zuv:WR prog 65 2=Hs (4,1,Hf):=by kernel_rfl
@[go_sem] theorem ZxH:tbd prog 65= .str [(0,3),(3,1),(4,1)] [.int .i64 0,.str [],.str [],.int .i64 0,.sl .nil []]:=by kernel_rfl
@[go_sem] theorem Zya:tkn prog 67=true:=by kernel_rfl
@[go_sem] theorem Zyt:tsz prog 67=13:=by kernel_rfl
@[go_sem] theorem Zwt:Yy prog 67=true:=by kernel_rfl
@[go_sem] theorem ZvX:WT prog 67=Hs [.int .i64 0,.str [],.int .i64 0,.str [],.str [],.int .i64 0,.sl .nil [],.int .i64 0,.str [],.str [],.int .i64 0,.sl .nil [],.sl .nil []]:=by kernel_rfl
@[go_sem] theorem Zuw:WR prog 67 0=Hs (0,1,Hf):=by kernel_rfl
@[go_sem] theorem Zux:WR prog 67 1=Hs (1,1,Hf):=by kernel_rfl
@[go_sem] theorem Zuy:WR prog 67 2=Hs (2,5,Ht):=by kernel_rfl
@[go_sem] theorem Zuz:WR prog 67 3=Hs (7,5,Ht):=by kernel_rfl
@[go_sem] theorem ZuA:WR prog 67 4=Hs (12,1,Hf):=by kernel_rfl
@[go_sem] theorem ZxI:tbd prog 67= .str [(0,1),(1,1),(2,5),(7,5),(12,1)] [.int .i64 0,.str [],.int .i64 0,.str [],.str [],.int .i64 0,.sl .nil [],.int .i64 0,.str [],.str [],.int .i64 0,.sl .nil [],.sl .nil []]:=by kernel_rfl
@[go_sem] theorem Zyb:tkn prog 68=true:=by kernel_rfl
@[go_sem] theorem Zyu:tsz prog 68=1:=by kernel_rfl
@[go_sem] theorem Zwu:Yy prog 68=false:=by kernel_rfl
@[go_sem] theorem ZxX:tix prog 68= .slc 13 true:=by kernel_rfl
@[go_sem] theorem Zw4:ZdA prog 68= .slc:=by kernel_rfl
@[go_sem] theorem ZvH:Wy prog 68=Hs ⟨67,13,192⟩:=by kernel_rfl
@[go_sem] theorem Zyc:tkn prog 70=true:=by kernel_rfl
@[go_sem] theorem Zyv:tsz prog 70=3:=by kernel_rfl
@[go_sem] theorem ZvY:WT prog 70=Hs [.int .i64 0,.int .i64 0,.sl .nil []]:=by kernel_rfl
@[go_sem] theorem ZuB:WR prog 70 0=Hs (0,2,Ht):=by kernel_rfl
@[go_sem] theorem ZuC:WR prog 70 1=Hs (2,1,Hf):=by kernel_rfl
@[go_sem] theorem ZxJ:tbd prog 70= .str [(0,2),(2,1)] [.int .i64 0,.int .i64 0,.sl .nil []]:=by kernel_rfl
@[go_sem] theorem Zyd:tkn prog 73=true:=by kernel_rfl
@[go_sem] theorem Zyw:tsz prog 73=7:=by kernel_rfl
@[go_sem] theorem Zwv:Yy prog 73=true:=by kernel_rfl
@[go_sem] theorem ZvZ:WT prog 73=Hs [.int .i64 0,.str [],.str [],.int .i64 0,.str [],.sl .nil [],.int .i64 0]:=by kernel_rfl
@[go_sem] theorem ZuD:WR prog 73 0=Hs (0,3,Ht):=by kernel_rfl
@[go_sem] theorem ZuE:WR prog 73 1=Hs (3,1,Hf):=by kernel_rfl
@[go_sem] theorem ZuF:WR prog 73 2=Hs (4,1,Hf):=by kernel_rfl
@[go_sem] theorem ZuG:WR prog 73 3=Hs (5,1,Hf):=by kernel_rfl
@[go_sem] theorem ZuH:WR prog 73 4=Hs (6,1,Hf):=by kernel_rfl
@[go_sem] theorem ZxK:tbd prog 73= .str [(0,3),(3,1),(4,1),(5,1),(6,1)] [.int .i64 0,.str [],.str [],.int .i64 0,.str [],.sl .nil [],.int .i64 0]:=by kernel_rfl
@[go_sem] theorem Zye:tkn prog 74=true:=by kernel_rfl
@[go_sem] theorem Zyx:tsz prog 74=1:=by kernel_rfl
@[go_sem] theorem Zww:Yy prog 74=false:=by kernel_rfl
@[go_sem] theorem ZxY:tix prog 74= .slc 2 true:=by kernel_rfl
@[go_sem] theorem Zw5:ZdA prog 74= .slc:=by kernel_rfl
@[go_sem] theorem ZvI:Wy prog 74=Hs ⟨162,2,32⟩:=by kernel_rfl
@[go_sem] theorem Zyf:tkn prog 76=true:=by kernel_rfl
@[go_sem] theorem Zyy:tsz prog 76=16:=by kernel_rfl
@[go_sem] theorem Zwx:Yy prog 76=true:=by kernel_rfl
@[go_sem] theorem Zv0:WT prog 76=Hs [.int .i64 0,.int .i64 0,.str [],.str [],.str [],.str [],.int .i64 0,.int .i64 0,.str [],.str [],.int .i64 0,.str [],.sl .nil [],.int .i64 0,.sl .nil [],.sl .nil []]:=by kernel_rfl
@[go_sem] theorem ZuI:WR prog 76 0=Hs (0,1,Hf):=by kernel_rfl
@[go_sem] theorem ZuJ:WR prog 76 1=Hs (1,3,Ht):=by kernel_rfl
@[go_sem] theorem ZuK:WR prog 76 2=Hs (4,1,Hf):=by kernel_rfl
@[go_sem] theorem ZuL:WR prog 76 3=Hs (5,1,Hf):=by kernel_rfl
@[go_sem] theorem ZuM:WR prog 76 4=Hs (6,1,Hf):=by kernel_rfl
@[go_sem] theorem ZuN:WR prog 76 5=Hs (7,7,Ht):=by kernel_rfl
@[go_sem] theorem ZuO:WR prog 76 6=Hs (14,1,Hf):=by kernel_rfl
@[go_sem] theorem ZuP:WR prog 76 7=Hs (15,1,Hf):=by kernel_rfl
@[go_sem] theorem ZxL:tbd prog 76= .str [(0,1),(1,3),(4,1),(5,1),(6,1),(7,7),(14,1),(15,1)] [.int .i64 0,.int .i64 0,.str [],.str [],.str [],.str [],.int .i64 0,.int .i64 0,.str [],.str [],.int .i64 0,.str [],.sl .nil [],.int .i64 0,.sl .nil [],.sl .nil []]:=by kernel_rfl
@[go_sem] theorem Zyg:tkn prog 78=true:=by kernel_rfl
@[go_sem] theorem Zyz:tsz prog 78=20:=by kernel_rfl
@[go_sem] theorem Zst:Yy prog 78=true:=by kernel_rfl
@[go_sem] theorem Zv1:WT prog 78=Hs [.int .i64 0,.int .i64 0,.int .i64 0,.int .i64 0,.int .i64 0,.int .i64 0,.str [],.str [],.str [],.str [],.int .i64 0,.int .i64 0,.str [],.str [],.int .i64 0,.str [],.sl .nil [],.int .i64 0,.sl .nil [],.sl .nil []]:=by kernel_rfl
@[go_sem] theorem ZuQ:WR prog 78 0=Hs (0,2,Ht):=by kernel_rfl
@[go_sem] theorem ZuR:WR prog 78 1=Hs (2,2,Ht):=by kernel_rfl
@[go_sem] theorem ZuS:WR prog 78 2=Hs (4,16,Ht):=by kernel_rfl
@[go_sem] theorem ZxM:tbd prog 78= .str [(0,2),(2,2),(4,16)] [.int .i64 0,.int .i64 0,.int .i64 0,.int .i64 0,.int .i64 0,.int .i64 0,.str [],.str [],.str [],.str [],.int .i64 0,.int .i64 0,.str [],.str [],.int .i64 0,.str [],.sl .nil [],.int .i64 0,.sl .nil [],.sl .nil []]:=by kernel_rfl
@[go_sem] theorem Zyh:tkn prog 84=true:=by kernel_rfl
@[go_sem] theorem ZyA:tsz prog 84=1:=by kernel_rfl
@[go_sem] theorem Zwy:Yy prog 84=false:=by kernel_rfl
@[go_sem] theorem Zv2:WT prog 84=Hs [.sl .nil []]:=by kernel_rfl
@[go_sem] theorem ZxZ:tix prog 84= .slc 7 true:=by kernel_rfl
@[go_sem] theorem Zw6:ZdA prog 84= .slc:=by kernel_rfl
@[go_sem] theorem ZvJ:Wy prog 84=Hs ⟨73,7,96⟩:=by kernel_rfl
@[go_sem] theorem ZwO:tkn prog 109=true:=by kernel_rfl
@[go_sem] theorem Zw7:tsz prog 109=2:=by kernel_rfl
@[go_sem] theorem Zvt:Yy prog 109=true:=by kernel_rfl
@[go_sem] theorem ZuW:WT prog 109=Hs [.str [],.sl .nil []]:=by kernel_rfl
@[go_sem] theorem Zti:WR prog 109 0=Hs (0,1,Hf):=by kernel_rfl
@[go_sem] theorem Ztj:WR prog 109 1=Hs (1,1,Hf):=by kernel_rfl
@[go_sem] theorem Zwz:tbd prog 109= .str [(0,1),(1,1)] [.str [],.sl .nil []]:=by kernel_rfl
@[go_sem] theorem ZvO:ZqI prog 113=Hs ([.int,.int],.agg []):=by kernel_rfl
@[go_sem] theorem ZwP:tkn prog 114=true:=by kernel_rfl
@[go_sem] theorem Zw8:tsz prog 114=0:=by kernel_rfl
@[go_sem] theorem ZuX:WT prog 114=Hs []:=by kernel_rfl
@[go_sem] theorem ZwA:tbd prog 114= .str [] []:=by kernel_rfl
@[go_sem] theorem ZwQ:tkn prog 118=true:=by kernel_rfl
@[go_sem] theorem Zw9:tsz prog 118=1:=by kernel_rfl
@[go_sem] theorem Zvu:Yy prog 118=false:=by kernel_rfl
@[go_sem] theorem ZvK:ZeS prog 118= .map:=by kernel_rfl
@[go_sem] theorem ZuT:Zil prog 118=true:=by kernel_rfl
@[go_sem] theorem ZvP:ZqI prog 118=Hs ([.int,.int],.agg [.int .i64 0,.int .i64 0,.int .i64 0,.int .i64 0,.int .i64 0,.int .i64 0,.str [],.str [],.str [],.str [],.int .i64 0,.int .i64 0,.str [],.str [],.int .i64 0,.str [],.sl .nil [],.int .i64 0,.sl .nil [],.sl .nil [],.int .i64 0,.sl .nil [],.int .i64 0]):=by kernel_rfl
@[go_sem] theorem Ztk:WR prog 120 0=Hs (0,1,Hf):=by kernel_rfl
@[go_sem] theorem ZwB:tbd prog 120= .str [(0,1)] [.nilmap]:=by kernel_rfl
@[go_sem] theorem ZwR:tkn prog 127=true:=by kernel_rfl
@[go_sem] theorem Zxa:tsz prog 127=23:=by kernel_rfl
@[go_sem] theorem Zvv:Yy prog 127=true:=by kernel_rfl
@[go_sem] theorem ZuY:WT prog 127=Hs [.int .i64 0,.int .i64 0,.int .i64 0,.int .i64 0,.int .i64 0,.int .i64 0,.str [],.str [],.str [],.str [],.int .i64 0,.int .i64 0,.str [],.str [],.int .i64 0,.str [],.sl .nil [],.int .i64 0,.sl .nil [],.sl .nil [],.int .i64 0,.sl .nil [],.int .i64 0]:=by kernel_rfl
@[go_sem] theorem Ztl:WR prog 127 0=Hs (0,20,Ht):=by kernel_rfl
@[go_sem] theorem Ztm:WR prog 127 1=Hs (20,1,Hf):=by kernel_rfl
@[go_sem] theorem Ztn:WR prog 127 2=Hs (21,1,Hf):=by kernel_rfl
@[go_sem] theorem Zto:WR prog 127 3=Hs (22,1,Hf):=by kernel_rfl
@[go_sem] theorem ZwC:tbd prog 127= .str [(0,20),(20,1),(21,1),(22,1)] [.int .i64 0,.int .i64 0,.int .i64 0,.int .i64 0,.int .i64 0,.int .i64 0,.str [],.str [],.str [],.str [],.int .i64 0,.int .i64 0,.str [],.str [],.int .i64 0,.str [],.sl .nil [],.int .i64 0,.sl .nil [],.sl .nil [],.int .i64 0,.sl .nil [],.int .i64 0]:=by kernel_rfl
@[go_sem] theorem ZwS:tkn prog 131=true:=by kernel_rfl
@[go_sem] theorem Zxb:tsz prog 131=1:=by kernel_rfl
@[go_sem] theorem Zvw:Yy prog 131=false:=by kernel_rfl
@[go_sem] theorem ZuZ:WT prog 131=Hs [.nilmap]:=by kernel_rfl
@[go_sem] theorem ZvQ:ZqI prog 131=Hs ([.str,.int,.str,.str],.sl .nil []):=by kernel_rfl
@[go_sem] theorem ZwT:tkn prog 134=true:=by kernel_rfl
@[go_sem] theorem Zxc:tsz prog 134=4:=by kernel_rfl
@[go_sem] theorem Zvx:Yy prog 134=true:=by kernel_rfl
@[go_sem] theorem Zu0:WT prog 134=Hs [.str [],.int .i64 0,.str [],.str []]:=by kernel_rfl
@[go_sem] theorem ZwD:tbd prog 134= .str [(0,1),(1,3)] [.str [],.int .i64 0,.str [],.str []]:=by kernel_rfl
@[go_sem] theorem ZwU:tkn prog 162=true:=by kernel_rfl
@[go_sem] theorem Zxd:tsz prog 162=2:=by kernel_rfl
@[go_sem] theorem ZqE:Yy prog 162=true:=by kernel_rfl
@[go_sem] theorem Zu1:WT prog 162=Hs [.str [],.str []]:=by kernel_rfl
@[go_sem] theorem Ztp:WR prog 162 0=Hs (0,1,Hf):=by kernel_rfl
@[go_sem] theorem Ztq:WR prog 162 1=Hs (1,1,Hf):=by kernel_rfl
@[go_sem] theorem Zsu:ZbP prog 162=Hs [.str,.str]:=by kernel_rfl
@[go_sem] theorem ZwK:tix prog 202= .slc 3 true:=by kernel_rfl
@[go_sem] theorem ZvL:ZdA prog 202= .slc:=by kernel_rfl
@[go_sem] theorem Zt9:Wy prog 202=Hs ⟨27,3,40⟩:=by kernel_rfl
@[go_sem] theorem ZwL:tix prog 223= .slc 16 true:=by kernel_rfl
@[go_sem] theorem ZvM:ZdA prog 223= .slc:=by kernel_rfl
@[go_sem] theorem Zua:Wy prog 223=Hs ⟨76,16,232⟩:=by kernel_rfl
@[go_sem] theorem ZwM:tix prog 251= .slc 3 true:=by kernel_rfl
@[go_sem] theorem ZvN:ZdA prog 251= .slc:=by kernel_rfl
@[go_sem] theorem Zub:Wy prog 251=Hs ⟨257,3,24⟩:=by kernel_rfl
@[go_sem] theorem ZwV:tkn prog 257=true:=by kernel_rfl
@[go_sem] theorem Zxe:tsz prog 257=3:=by kernel_rfl
@[go_sem] theorem Zvy:Yy prog 257=true:=by kernel_rfl
@[go_sem] theorem Zu2:WT prog 257=Hs [.int .i64 0,.int .i64 0,.bool Hf]:=by kernel_rfl
@[go_sem] theorem Ztr:WR prog 257 0=Hs (0,2,Ht):=by kernel_rfl
@[go_sem] theorem Zts:WR prog 257 1=Hs (2,1,Hf):=by kernel_rfl
@[go_sem] theorem ZwE:tbd prog 257= .str [(0,2),(2,1)] [.int .i64 0,.int .i64 0,.bool Hf]:=by kernel_rfl
@[go_sem] theorem ZwW:tkn prog 281=true:=by kernel_rfl
@[go_sem] theorem Zxf:tsz prog 281=2:=by kernel_rfl
@[go_sem] theorem Zvz:Yy prog 281=true:=by kernel_rfl
@[go_sem] theorem Zu3:WT prog 281=Hs [.flt .f64 0,.flt .f64 0]:=by kernel_rfl
@[go_sem] theorem ZwN:tix prog 281= .arr 2 1 false:=by kernel_rfl
@[go_sem] theorem ZwF:tbd prog 281= .arr 1 [.flt .f64 0,.flt .f64 0]:=by kernel_rfl
open Go.PL
attribute [go_sem_proc] reduceIte Nat.reduceEqDiff reduceCtorEq Nat.reduceLT Nat.reduceAdd Nat.reduceSub Nat.reduceMul Nat.reduceLeDiff Int.reduceLT Int.reduceLE Int.reduceToNat Int.reduceEq Int.reduceAdd Int.reduceSub Int.reduceNeg Int.reduceBNe Int.reduceBEq
attribute [go_sem] true_or or_true List.getElem?_cons_zero List.getElem?_cons_succ List.getElem?_nil decide_true decide_false JU JF imp_self false_implies true_implies List.all_cons List.all_nil Ks JA Nat.zero_add Nat.add_zero Option.some.injEq true_and and_true Kg List.getD_cons_succ Km List.length_nil ne_eq not_false_eq_true implies_true and_self Kn List.drop Jq List.map_nil List.reverse_cons List.reverse_nil List.nil_append PV.bool.injEq JC JQ Nat.mul_one beq_self_eq_true bne_self_eq_false Kj JV JY Kb Kt
theorem mxo:prog.follows .mixedOrders=true:=by kernel_rfl
theorem vDq {id:Nat} {l:List Oper} {Q:Exit->St->Prop} {s:St} (h:@vA prog Hf ⟨@vQ ⟨Q⟩ .normal⟩ ⟨l⟩ ⟨l⟩ s) (hB:ZmB l.toArray=true:=by kernel_rfl):awp prog (.region id l.toArray Ht) Q s:=Zvc mxo hB h
abbrev Pp:=PL.Pure prog
theorem ZM {f:FuncId} {fn:Func} {c:Code} {args:List PV} {r:PV} {n:Nat} {rs:List ResultVar} (hf:prog.funcs[f]? = Hs fn) (hb:fn.body=Hs c) (hn:fn.ntmps=n) (hrs:fn.results=rs.toArray) (h:@vC prog ⟨c⟩ ⟨ZgR prog rs r⟩ (St.init args n)) (hi:r.dids= []:=by rfl) (hname:fn.name≠ "runtime.NumGoroutine" :=by decide) (hl:args.length<=n:=by simp):Pp f args r:=pov hf hname hb hn hrs hl hi h
theorem Zx {f:FuncId} {fn:Func} {c:Code} {args:List PV} {r:PV} {n:Nat} {rs:List ResultVar} (hf:prog.funcs[f]? = Hs fn) (hb:fn.body=Hs c) (hn:fn.ntmps=n) (hrs:fn.results=rs.toArray) (hi:r.dids= []) (h:@vC prog ⟨c⟩ ⟨ZgR prog rs r⟩ (St.init args n)) (hname:fn.name≠ "runtime.NumGoroutine" :=by decide) (hl:args.length<=n:=by simp):Pp f args r:=pov hf hname hb hn hrs hl hi h
theorem w64 {x:Int} (h: -9223372036854775808<=x/\x<=9223372036854775807):IntKind.i64.wrap x=x:=IntWalk.i64_in _ (by omega)
theorem nx9 {n k:Nat} (h:k<n):n-(k+1)<n-k:=by omega
theorem wk9 {k:Nat} (h:(k:Int)<9223372036854775807):IntKind.i64.wrap ((k:Int)+1)=((k+1:Nat):Int):=by
 rw[w64 (by omega)];rfl
theorem Zb:maxLen=9223372036854775807:=by decide
theorem Xi {k n:Nat} (h:k<n) (hn:n<=maxLen):IntKind.i64.wrap ((k:Int)+1)=((k+1:Nat):Int):=by
 rw[Zb]at hn;rw[w64 (by omega)];rfl
abbrev Str:=List UInt8
structure Rf where
 sc:Int
 gr:Str
 nm:Str
 deriving DecidableEq,Inhabited
structure En where
 at':Rf
 n:Int
 l:List Str
 deriving DecidableEq,Inhabited
structure Rw where
 item:Str
 l:List En
 deriving DecidableEq,Inhabited
structure Dc where
 head:List En
 rows:List Rw
 deriving DecidableEq,Inhabited
def Yo (l:List Str):PV:= .sl .no (l.map .str)
def ref (r:Rf):PV:= .agg [.int .i64 r.sc,.str r.gr,.str r.nm]
def ent (e:En):PV:= .agg [.int .i64 e.at'.sc,.str e.at'.gr,.str e.at'.nm,.int .i64 e.n,.sl .no (e.l.map .str)]
def Yd (l:List En):PV:= .sl .no (l.map ent)
def row (r:Rw):PV:= .agg [.str r.item,.sl .no (r.l.map ent)]
def doc (d:Dc):PV:= .agg [.sl .no (d.head.map ent),.sl .no (d.rows.map row)]
theorem vc1 {x:Bool} {M:KH} {g:FuncId} {args args':List PV} {K:KR} {r:PV} (h1:PL.Pure prog g args' r) (h2:K.k r M.m) (h0:Ke M.m args:=by first|(simp only[go_sem,ref,ent,Yd,doc,Yo,row];done)|exact rfl) (he:Kq M.m args=args':=by first|(simp only[go_sem,ref,ent,Yd,doc,Yo,row];done)|exact rfl):@U9 prog x M (Hs (g,args)) K:=YD h1 h0 he h2
theorem Zr (a b:Rf):(a.sc==b.sc&&(a.gr==b.gr&&a.nm==b.nm))=decide (a=b):=by
 cases a;cases b;rw[Jf];simp
theorem ZQ {l:List Str} {i:Nat} (h:i<l.length):(l.map Ky).getD i .any= .str (l.getD i []):=by
 simp[Jb,h]
theorem YS {l:List En} {i:Nat} (h:i<l.length):(l.map ent).getD i .any=ent (l.getD i Jd):=by
 simp[Jb,h]
theorem Yx {l:List Rw} {i:Nat} (h:i<l.length):(l.map row).getD i .any=row (l.getD i Jd):=by
 simp[Jb,h]
theorem Zp {α:Type} {l:List α} {i:Nat} {d:α} (h:i<l.length):l.getD i d∈l:=by
 rw[Jb,Jk h];exact Ko h
theorem W7 {α:Type} {a b:List α} {d:α} (hl:a.length=b.length) (h:∀j,j<a.length->a.getD j d=b.getD j d):a=b:=by
 apply List.ext_getElem hl;intro i h1 h2;have:=h i h1;simpa[Jb,h1,h2]using this
theorem VO {α:Type} {a b:List α} {d:α} {j:Nat} (h:a.getD j d≠b.getD j d):a≠b:=λe=>h (by rw[e])
theorem DG (a b:List Str) (ha:a.length<=maxLen) (hb:b.length<=maxLen):Pp 101 [Yo a,Yo b] (.bool (decide (a=b))):=by
 by_cases hl:a.length=b.length;have hl':((a.length:Int) !=(b.length:Int))=false:=by rw[hl];exact bne_self_eq_false _
 refine ZM func101 rfl ntmps101 results101 ?_;simp only[go_sem,Yo,hl'];refine Zs (ι:= { k:Nat // k<=a.length/\ ∀j,j<k->a.getD j []=b.getD j [] }) 26 (λx=> [(0,Yo a),(1,Yo b),(5,.int .i64 (x.1:Int))]) (λx=> []) (λx=> []) (λx=>a.length-x.1) ⟨0,by omega,λj hj=>by omega⟩
  ⟨rfl,(Fc3 rfl rfl rfl),fnl,fnl⟩ (λx=>⟨(Fc3 rfl rfl rfl),fnl⟩) (λx=> ?_)
 obtain⟨k,hk,hall⟩:=x;simp only;by_cases h:(k:Int)<(a.length:Int);have hka:k<a.length:=by omega
 have hkb:k<b.length:=by omega
 have w1:=Xi hka ha;have i1:=Ja k
 have i2:(k:Int)<(b.length:Int):=by omega
 by_cases he:a.getD k []=b.getD k [];have he':(a.getD k []==b.getD k [])=true:=beq_iff_eq.2 he;simp only[go_sem,Yo,h];refine vDq ?_;simp only[go_sem,ZQ hka,ZQ hkb,h,i1,i2,he',w1];exact⟨⟨k+1,by omega,λj hj=>by
  rcases Kk j k with h1|h1;exact hall j h1;obtain rfl:j=k:=by omega
  exact he⟩,nx9 (by omega),⟨rfl,(Fc3 rfl rfl rfl),fnl,fnl⟩⟩
 have he':(a.getD k []==b.getD k [])=false:=beq_eq_false_iff_ne.2 he;have hab:¬a=b:=VO he;simp only[go_sem,Yo,h];refine vDq ?_;simp only[go_sem,ZQ hka,ZQ hkb,h,i1,i2,he',hab];have hab:decide (a=b)=true:=decide_eq_true (W7 (d:= []) hl λj hj=>hall j (by omega));simp only[go_sem,Yo,h,hab];have hl':((a.length:Int) !=(b.length:Int))=true:=bne_iff_ne.2 (by omega);have hab:¬a=b:=λe=>hl (by rw[e])
 refine ZM func101 rfl ntmps101 results101 ?_;simp only[go_sem,Yo,hl',hab]
open Go.PL
def idx {α:Type} (p:α->Bool) (l:List α):Int:=match l.findIdx? p with|some i=>(i:Int)|none=> -1
theorem Xz {α:Type} {p:α->Bool} {l:List α} {k:Nat} {d:α} (hk:k<l.length) (h:∀j,j<k->p (l.getD j d)=Hf) (hp:p (l.getD k d)=Ht):idx p l=k:=by
 have:l.findIdx? p=Hs k:=by
  rw[Jp];refine⟨hk,?_,λj hj=> ?_⟩;simpa[Jb,hk]using hp;have:=h j hj;simp[Jb,show j<l.length by omega]at this;simp[this]
 simp[idx,this]
theorem We {α:Type} {p:α->Bool} {l:List α} {d:α} (h:∀j,j<l.length->p (l.getD j d)=Hf):idx p l= -1:=by
 have:l.findIdx? p=none:=by
  rw[JB];intro x hx;obtain⟨j,hj,rfl⟩:=Jl hx;have:=h j hj;simpa[Jb,hj]using this
 simp[idx,this]
theorem Zm {p:Nat->Prop} {k:Nat} (h:∀j,j<k->p j) (hk:p k):∀j,j<k+1->p j:=λj hj=>by
 rcases Kk j k with h1|h1;exact h j h1;obtain rfl:j=k:=by omega
 exact hk
theorem FA (l:List En) (r:Rf) (hl:l.length<=maxLen):Pp 91 [Yd l,ref r] (.int .i64 (idx (λe=>decide (e.at'=r)) l)):=by
 refine ZM func91 rfl ntmps91 results91 ?_;simp only[go_sem,Yd,ref];refine Zs (ι:= { k:Nat // k<=l.length/\ ∀j,j<k->decide ((l.getD j Jd).at'=r)=Hf }) 20 (λx=> [(0,Yd l),(3,.ptr 3 0),(5,.int .i64 (x.1:Int))]) (λx=> [(3,[.int .i64 r.sc,.str r.gr,.str r.nm],Hf)]) (λx=> []) (λx=>l.length-x.1) ⟨0,by omega,λj hj=>by omega⟩
  ⟨rfl,(Fc3 rfl rfl rfl),fcs ⟨rfl,rfl⟩ fnl,fnl⟩ (λx=>⟨(Fc3 rfl rfl rfl),(fcs rfl fnl)⟩) (λx=> ?_)
 obtain⟨k,hk,hall⟩:=x;simp only;by_cases h:(k:Int)<(l.length:Int);have hka:k<l.length:=by omega
 have w1:=Xi hka hl;have i1:=Ja k
 by_cases he:(l.getD k Jd).at'=r;have he':=decide_eq_true he;have hx:=Xz (p:=λe:En=>decide (e.at'=r)) hka hall he';simp only[go_sem,Yd,h];refine vDq ?_;simp only[go_sem,YS hka,ent,h,i1,Zr,he',hx];have he':=decide_eq_false he;simp only[go_sem,Yd,h];refine vDq ?_;simp only[go_sem,YS hka,ent,h,i1,Zr,he',w1];exact⟨⟨k+1,by omega,Zm hall he'⟩,nx9 (by omega),⟨rfl,(Fc3 rfl rfl rfl),fcs ⟨rfl,rfl⟩ fnl,fnl⟩⟩;have hx:=We (p:=λe:En=>decide (e.at'=r)) (d:=Jd) (l:=l) (λj hj=>hall j (by omega));simp only[go_sem,Yd,h,hx]
theorem DH (d:Dc) (it:Str) (hl:d.rows.length<=maxLen):Pp 87 [doc d,.str it] (.int .i64 (idx (λr=>r.item==it) d.rows)):=by
 refine ZM func87 rfl ntmps87 results87 ?_;simp only[go_sem,doc];refine Zs (ι:= { k:Nat // k<=d.rows.length/\ ∀j,j<k->((d.rows.getD j Jd).item==it)=Hf }) 22 (λx=> [(1,.str it),(2,.ptr 2 0),(5,.int .i64 (x.1:Int))]) (λx=> [(2,[.sl .no (d.head.map ent),.sl .no (d.rows.map row)],Hf)]) (λx=> []) (λx=>d.rows.length-x.1) ⟨0,by omega,λj hj=>by omega⟩
  ⟨rfl,(Fc3 rfl rfl rfl),fcs ⟨rfl,rfl⟩ fnl,fnl⟩ (λx=>⟨(Fc3 rfl rfl rfl),(fcs rfl fnl)⟩) (λx=> ?_)
 obtain⟨k,hk,hall⟩:=x;simp only;by_cases h:(k:Int)<(d.rows.length:Int);have hka:k<d.rows.length:=by omega
 have w1:=Xi hka hl;have i1:=Ja k
 cases he:((d.rows.getD k Jd).item==it);simp only[go_sem,h,Yx hka,row,i1,he,w1];exact⟨⟨k+1,by omega,Zm hall he⟩,nx9 (by omega),⟨rfl,(Fc3 rfl rfl rfl),fcs ⟨rfl,rfl⟩ fnl,fnl⟩⟩;have hx:=Xz (p:=λr:Rw=>r.item==it) hka hall he;simp only[go_sem,h,Yx hka,row,i1,he,hx];have hx:=We (p:=λr:Rw=>r.item==it) (d:=Jd) (l:=d.rows) (λj hj=>hall j (by omega));simp only[go_sem,h,hx]
theorem ZtG {a b:En} (h1:a.at'=b.at') (h2:a.n=b.n) (h3:a.l=b.l):a=b:=by
 cases a;cases b;simp_all
theorem Xw (a b:List En) (ha:a.length<=maxLen) (hb:b.length<=maxLen) (ha':∀e∈a,e.l.length<=maxLen) (hb':∀e∈b,e.l.length<=maxLen):Pp 57 [Yd a,Yd b] (.bool (decide (a=b))):=by
 by_cases hl:a.length=b.length;have hl':((a.length:Int) !=(b.length:Int))=false:=by rw[hl];exact bne_self_eq_false _
 refine ZM func57 rfl ntmps57 results57 ?_;simp only[go_sem,Yd,hl'];refine Zs (ι:= { k:Nat // k<=a.length/\ ∀j,j<k->a.getD j Jd=b.getD j Jd }) 55 (λx=> [(0,Yd a),(1,Yd b),(5,.int .i64 (x.1:Int))]) (λx=> []) (λx=> []) (λx=>a.length-x.1) ⟨0,by omega,λj hj=>by omega⟩
  ⟨rfl,(Fc3 rfl rfl rfl),fnl,fnl⟩ (λx=>⟨(Fc3 rfl rfl rfl),fnl⟩) (λx=> ?_)
 obtain⟨k,hk,hall⟩:=x;simp only;by_cases h:(k:Int)<(a.length:Int);have hka:k<a.length:=by omega
 have hkb:k<b.length:=by omega
 have w1:=Xi hka ha;have i1:=Ja k
 have i2:(k:Int)<(b.length:Int):=by omega
 have hc:=DG _ _ (ha' _ (Zp (d:=Jd) hka)) (hb' _ (Zp (d:=Jd) hkb));by_cases e1:(a.getD k Jd).at'=(b.getD k Jd).at';have e1':=decide_eq_true e1;by_cases e2:(a.getD k Jd).n=(b.getD k Jd).n;have e2':((a.getD k Jd).n !=(b.getD k Jd).n)=false:=by rw[e2];exact bne_self_eq_false _
 by_cases e3:(a.getD k Jd).l=(b.getD k Jd).l;rw[decide_eq_true e3]at hc;simp only[go_sem,Yd,h];refine vDq ?_;simp only[go_sem,YS hka,YS hkb,ent,h,i1,i2,Zr,e1',e2'];refine vc1 hc ?_;simp only[go_sem,w1];exact⟨⟨k+1,by omega,Zm hall (ZtG e1 e2 e3)⟩,nx9 (by omega),⟨rfl,(Fc3 rfl rfl rfl),fnl,fnl⟩⟩;rw[decide_eq_false e3]at hc;have hab:¬a=b:=λe=>e3 (by rw[e])
 simp only[go_sem,Yd,h];refine vDq ?_;simp only[go_sem,YS hka,YS hkb,ent,h,i1,i2,Zr,e1',e2'];refine vc1 hc ?_;simp only[go_sem,hab];have e2':((a.getD k Jd).n !=(b.getD k Jd).n)=true:=bne_iff_ne.2 e2;have hab:¬a=b:=λe=>e2 (by rw[e])
 simp only[go_sem,Yd,h];refine vDq ?_;simp only[go_sem,YS hka,YS hkb,ent,h,i1,i2,Zr,e1',e2',hab];have e1':=decide_eq_false e1;have hab:¬a=b:=λe=>e1 (by rw[e])
 simp only[go_sem,Yd,h];refine vDq ?_;simp only[go_sem,YS hka,YS hkb,ent,h,i1,i2,Zr,e1',hab];have hab:decide (a=b)=true:=decide_eq_true (W7 (d:=Jd) hl λj hj=>hall j (by omega));simp only[go_sem,Yd,h,hab];have hl':((a.length:Int) !=(b.length:Int))=true:=bne_iff_ne.2 (by omega);have hab:¬a=b:=λe=>hl (by rw[e])
 refine ZM func57 rfl ntmps57 results57 ?_;simp only[go_sem,Yd,hl',hab]
open Go.PL
theorem Ti {α:Type} {p:α->Bool} {l:List α} {k:Nat} {d:α} (hk:k<l.length) (h:p (l.getD k d)=Ht):l.any p=true:=
 JR.2 ⟨_,Zp hk,h⟩
theorem UN {α:Type} {p:α->Bool} {l:List α} {d:α} (h:∀j,j<l.length->p (l.getD j d)=Hf):l.any p=false:=by
 rw[J4];intro x hx;obtain⟨j,hj,rfl⟩:=Jl hx;have:=h j hj;simpa[Jb,hj]using this
def WM (n:Nat) (s:Str):Bool:=decide ((n:Int)<(s.length:Int))
def ZoX (d:Dc):Prop:=d.head.length<=maxLen/\d.rows.length<=maxLen/\(∀e∈d.head,e.l.length<=maxLen)/\ ∀r∈d.rows,r.l.length<=maxLen/\ ∀e∈r.l,e.l.length<=maxLen
open Go.PL
@[go_sem] theorem ZtA {α:Type}:(#[]:Array α).isEmpty=true:=rfl
theorem Y0 {α:Type} (p:α->Bool) (l:List α):idx p l= -1\/ ∃k:Nat,k<l.length/\idx p l=k:=by
 unfold idx;cases h:l.findIdx? p with
 |none=>exact .inl rfl
 |some k=>
  rw[Jp]at h;exact .inr ⟨k,h.1,rfl⟩
theorem Yw {n b:Nat} (hn:n<=100000000000) (hb:b<=1000):Zkd n b:=by
 refine⟨?_,by unfold maxLen;omega⟩
 calc n*b<=100000000000*1000:=Nat.mul_le_mul hn hb
  _<=140737488355328:=by decide
@[go_sem] theorem Zt8 (n:Nat):Sized n []=True:=by simp[Sized]
@[go_sem] theorem Ztg (n:Nat) (e:PV) (l:List PV):Sized n (e::l)=(e.cells.length=n/\Sized n l):=by simp[Sized]
@[go_sem] theorem ZtB:XO []=True:=by simp[XO]
@[go_sem] theorem Zs9 (e:PV) (l:List PV):XO (e::l)=(e.cells.all PV.atom=Ht/\XO l):=by simp[XO]
theorem ZZ (l:List Str):Sized 1 (l.map .str):=λe he=>by
 obtain⟨x,_,rfl⟩:=Ju.1 he;rfl
theorem Yz (l:List Str):XO (l.map .str):=λe he=>by
 obtain⟨x,_,rfl⟩:=Ju.1 he;rfl
theorem Zld (r:Rw) (it:Str):Pp 134 [row r,.rptr [.str it]] (.bool (r.item==it)):=by
 refine ZM func134 rfl ntmps134 results134 ?_;simp only[go_sem,row]
theorem Zdn (e:En) (r:Rf):Pp 136 [ent e,.rptr [.int .i64 r.sc,.str r.gr,.str r.nm]] (.bool (decide (e.at'=r))):=by
 refine ZM func136 rfl ntmps136 results136 ?_;simp only[go_sem,ent,Zr]
theorem ZdH (l:List Rw) (g:FuncId) (cs:List PV) (p:Rw->Bool) (hl:l.length<=maxLen) (hp:∀r∈l,Pp g [row r,.rptr cs] (.bool (p r))):
  Pp 133 [.sl .no (l.map row),.fn g [.rptr cs]] (.int .i64 (idx p l)):=by
 refine ZM func133 rfl ntmps133 results133 ?_;simp only[go_sem];refine Zs (ι:= { k:Nat // k<=l.length/\ ∀j,j<k->p (l.getD j Jd)=Hf }) 19 (λx=> [(0,.sl .no (l.map row)),(1,.fn g [.rptr cs]),(7,.int .i64 (l.length:Int)),(8,.int .i64 (x.1:Int))]) (λx=> []) (λx=> []) (λx=>l.length-x.1) ⟨0,by omega,λj hj=>by omega⟩
  ⟨rfl,(Fc4 rfl rfl rfl rfl),fnl,fnl⟩ (λx=>⟨(Fc4 rfl rfl rfl rfl),fnl⟩) (λx=> ?_)
 obtain⟨k,hk,hall⟩:=x;simp only;by_cases h:(k:Int)<(l.length:Int);have hka:k<l.length:=by omega
 have w1:=Xi hka hl;have i1:=Ja k
 have hc:=hp _ (Zp (d:=Jd) hka);cases he:p (l.getD k Jd);rw[he]at hc;simp only[go_sem,h,Yx hka,row,i1];refine vc1 hc ?_;simp only[go_sem,w1];exact⟨⟨k+1,by omega,Zm hall he⟩,nx9 (by omega),⟨rfl,(Fc4 rfl rfl rfl rfl),fnl,fnl⟩⟩;rw[he]at hc;have hx:=Xz (p:=p) hka hall he;simp only[go_sem,h,Yx hka,row,i1];refine vc1 hc ?_;simp only[go_sem,hx];have hx:=We (p:=p) (d:=Jd) (l:=l) (λj hj=>hall j (by omega));simp only[go_sem,h,hx]
theorem Gz (l:List En) (g:FuncId) (cs:List PV) (p:En->Bool) (hl:l.length<=maxLen) (hp:∀r∈l,Pp g [ent r,.rptr cs] (.bool (p r))):
  Pp 135 [.sl .no (l.map ent),.fn g [.rptr cs]] (.int .i64 (idx p l)):=by
 refine ZM func135 rfl ntmps135 results135 ?_;simp only[go_sem];refine Zs (ι:= { k:Nat // k<=l.length/\ ∀j,j<k->p (l.getD j Jd)=Hf }) 19 (λx=> [(0,.sl .no (l.map ent)),(1,.fn g [.rptr cs]),(7,.int .i64 (l.length:Int)),(8,.int .i64 (x.1:Int))]) (λx=> []) (λx=> []) (λx=>l.length-x.1) ⟨0,by omega,λj hj=>by omega⟩
  ⟨rfl,(Fc4 rfl rfl rfl rfl),fnl,fnl⟩ (λx=>⟨(Fc4 rfl rfl rfl rfl),fnl⟩) (λx=> ?_)
 obtain⟨k,hk,hall⟩:=x;simp only;by_cases h:(k:Int)<(l.length:Int);have hka:k<l.length:=by omega
 have w1:=Xi hka hl;have i1:=Ja k
 have hc:=hp _ (Zp (d:=Jd) hka);cases he:p (l.getD k Jd);rw[he]at hc;simp only[go_sem,h,YS hka,ent,i1];refine vc1 hc ?_;simp only[go_sem,w1];exact⟨⟨k+1,by omega,Zm hall he⟩,nx9 (by omega),⟨rfl,(Fc4 rfl rfl rfl rfl),fnl,fnl⟩⟩;rw[he]at hc;have hx:=Xz (p:=p) hka hall he;simp only[go_sem,h,YS hka,ent,i1];refine vc1 hc ?_;simp only[go_sem,hx];have hx:=We (p:=p) (d:=Jd) (l:=l) (λj hj=>hall j (by omega));simp only[go_sem,h,hx]
theorem WF (l:List Str):Jj (l.map .str)= []:=by
 induction l with
 |nil=>rfl
 |cons t l ih=>simp only[Jq,Jj,ih,Jt,Je]
theorem Xq (e:En):(ent e).dids= []:=by simp only[ent,Jt,Jj,WF,Je]
theorem Db (e:En) (he:e.l.length<=1000000):Pp 89 [ent e] (ent e):=by
 have hr:=Yw (show e.l.length<=100000000000 by omega) (show 16<=1000 by omega);refine Zx func89 rfl ntmps89 results89 (Xq _) ?_;simp only[go_sem,ent,ZZ,Yz,hr]
open Go.PL
def atE (r:Rf):En->Bool:=λe=>decide (e.at'=r)
def atR (it:Str):Rw->Bool:=λr=>r.item==it
def ZnZ (d:Dc) (it:Str) (r:Rf):Int×Int×Int:=
 if it= []then(if idx (atE r) d.head<0 then(0,0,6)else(-1,idx (atE r) d.head,0))
 else if idx (atR it) d.rows<0 then(0,0,12)
 else if idx (atE r) (d.rows.getD (idx (atR it) d.rows).toNat Jd).l<0 then(0,0,6)
 else(idx (atR it) d.rows,idx (atE r) (d.rows.getD (idx (atR it) d.rows).toNat Jd).l,0)
def ZpX (x:Int×Int×Int):PV:= .tup [.int .i64 x.1,.int .i64 x.2.1,.int .i64 x.2.2]
attribute [go_sem] J5
theorem Zhq {s:Str} (h:s= []):(s== [])=true:=by rw[h];rfl
theorem ZdZ {s:Str} (h:¬s= []):(s== [])=false:=beq_eq_false_iff_ne.2 h
theorem Zn0 (d:Dc) (it:Str) (r:Rf) (hf:ZoX d):Pp 88 [doc d,.str it,ref r] (ZpX (ZnZ d it r)):=by
 obtain⟨f1,f2,f3,f4⟩:=hf;by_cases hi:it= []
 ·have hi':=Zhq hi;have hc:=Gz d.head 136 [.int .i64 r.sc,.str r.gr,.str r.nm] (atE r) f1 (λe _=>Zdn e r);by_cases h1:idx (atE r) d.head<0
  all_goals
   refine ZM func88 rfl ntmps88 results88 ?_;simp only[go_sem,doc,ref,hi'];refine vc1 hc ?_;simp only[go_sem,h1,ZpX,ZnZ,hi]
 have hi':=ZdZ hi;have hc:=ZdH d.rows 134 [.str it] (atR it) f2 (λe _=>Zld e it);by_cases h1:idx (atR it) d.rows<0;refine ZM func88 rfl ntmps88 results88 ?_;simp only[go_sem,doc,ref,hi'];refine vc1 hc ?_;simp only[go_sem,h1,ZpX,ZnZ,hi];rcases Y0 (atR it) d.rows with h2|⟨k,hk,h2⟩;omega;have hc2:=Gz (d.rows.getD k Jd).l 136 [.int .i64 r.sc,.str r.gr,.str r.nm] (atE r) (f4 _ (Zp hk)).1 (λe _=>Zdn e r);have i1:=Ja k
 have i2:(k:Int)<(d.rows.length:Int):=by omega
 have i3:¬(k:Int)<0:=by omega
 rw[h2]at hc;by_cases h3:idx (atE r) (d.rows.getD k Jd).l<0
 all_goals
  refine ZM func88 rfl ntmps88 results88 ?_;simp only[go_sem,doc,ref,hi'];refine vc1 hc ?_;simp only[go_sem,i1,i2,i3,Yx hk,row];refine vc1 hc2 ?_;simp only[go_sem,h3,ZpX,ZnZ,hi,h2,i3]
def ZhC (d:Dc) (it:Str) (r:Rf):En×Int:=
 if it= []then(if idx (atE r) d.head<0 then(Jd,6)else(d.head.getD (idx (atE r) d.head).toNat Jd,0))
 else if idx (atR it) d.rows<0 then(Jd,12)
 else if idx (atE r) (d.rows.getD (idx (atR it) d.rows).toNat Jd).l<0 then(Jd,6)
 else((d.rows.getD (idx (atR it) d.rows).toNat Jd).l.getD (idx (atE r) (d.rows.getD (idx (atR it) d.rows).toNat Jd).l).toNat Jd,0)
def ZaT (x:En×Int):PV:= .tup [ent x.1,.int .i64 x.2]
theorem X1 (x:En×Int):(ZaT x).dids= []:=by simp only[ZaT,Jt,Jj,Xq,Je]
theorem W6:ent Jd= .agg [.int .i64 0,.str [],.str [],.int .i64 0,.sl .no []]:=rfl
def Ztw (d:Dc):Prop:=(∀e∈d.head,e.l.length<=1000000)/\ ∀r∈d.rows,∀e∈r.l,e.l.length<=1000000
theorem Zat (d:Dc) (it:Str) (r:Rf) (hf:ZoX d) (hs:Ztw d):Pp 38 [doc d,.str it,ref r] (ZaT (ZhC d it r)):=by
 have hc:=Zn0 d it r hf;obtain⟨f1,f2,f3,f4⟩:=hf;unfold ZnZ at hc;unfold ZhC;by_cases hi:it= [];rw[if_pos hi]at hc ⊢;rcases Y0 (atE r) d.head with h2|⟨k,hk,h2⟩;rw[h2]at hc ⊢;refine Zx func38 rfl ntmps38 results38 (X1 _) ?_;simp only[go_sem,doc,ref];refine vc1 hc ?_;simp only[go_sem,ZpX,ZaT,W6];have i1:=Ja k
 have i2:(k:Int)<(d.head.length:Int):=by omega
 have i3:¬(k:Int)<0:=by omega
 have ho:=Db (d.head.getD k Jd) (hs.1 _ (Zp hk));rw[h2,if_neg i3]at hc;rw[h2,if_neg i3];refine Zx func38 rfl ntmps38 results38 (X1 _) ?_;simp only[go_sem,doc,ref];refine vc1 hc ?_;simp only[go_sem,ZpX,i1,i2,YS hk,ent];refine vc1 ho ?_;simp only[go_sem,ZaT,ent];rw[if_neg hi]at hc ⊢;rcases Y0 (atR it) d.rows with h2|⟨k,hk,h2⟩;rw[h2]at hc ⊢;refine Zx func38 rfl ntmps38 results38 (X1 _) ?_;simp only[go_sem,doc,ref];refine vc1 hc ?_;simp only[go_sem,ZpX,ZaT,W6];have i1:=Ja k
 have i2:(k:Int)<(d.rows.length:Int):=by omega
 have i3:¬(k:Int)<0:=by omega
 rw[h2,if_neg i3]at hc;rw[h2,if_neg i3];simp only[JQ]at hc ⊢;rcases Y0 (atE r) (d.rows.getD k Jd).l with h4|⟨n,hn,h4⟩;rw[h4]at hc ⊢;refine Zx func38 rfl ntmps38 results38 (X1 _) ?_;simp only[go_sem,doc,ref];refine vc1 hc ?_;simp only[go_sem,ZpX,ZaT,W6];have j1:=Ja n
 have j2:(n:Int)<((d.rows.getD k Jd).l.length:Int):=by omega
 have j3:¬(n:Int)<0:=by omega
 have ho:=Db ((d.rows.getD k Jd).l.getD n Jd) (hs.2 _ (Zp hk) _ (Zp hn));rw[h4,if_neg j3]at hc;rw[h4,if_neg j3];refine Zx func38 rfl ntmps38 results38 (X1 _) ?_;simp only[go_sem,doc,ref];refine vc1 hc ?_;simp only[go_sem,ZpX,i1,i2,i3,Yx hk,row,j1,j2,YS hn,ent];refine vc1 ho ?_;simp only[go_sem,ZaT,ent]
theorem Zj3 (d:Dc) (it:Str) (r:Rf) (hf:ZoX d):Pp 41 [doc d,.str it,ref r] (ZaT (ZhC d it r)):=by
 obtain⟨f1,f2,f3,f4⟩:=hf;unfold ZhC;by_cases hi:it= [];rw[if_pos hi];have hi':=Zhq hi;have hc:=FA d.head r f1;rcases Y0 (atE r) d.head with h2|⟨k,hk,h2⟩;rw[h2];have hc:Pp 91 [Yd d.head,ref r] (.int .i64 (-1)):=by rw[<-h2];exact hc
 refine Zx func41 rfl ntmps41 results41 (X1 _) ?_;simp only[go_sem,doc,ref,hi'];refine vc1 hc ?_;simp only[go_sem,ZaT,W6];have i1:=Ja k
 have i2:(k:Int)<(d.head.length:Int):=by omega
 have i3:¬(k:Int)<0:=by omega
 have hc:Pp 91 [Yd d.head,ref r] (.int .i64 k):=by rw[<-h2];exact hc
 rw[h2,if_neg i3];refine Zx func41 rfl ntmps41 results41 (X1 _) ?_;simp only[go_sem,doc,ref,hi'];refine vc1 hc ?_;simp only[go_sem,i1,i2,i3,YS hk,ent,ZaT];rw[if_neg hi];have hi':=ZdZ hi;have hc:=DH d it f2;rcases Y0 (atR it) d.rows with h2|⟨k,hk,h2⟩;rw[h2];have hc:Pp 87 [doc d,.str it] (.int .i64 (-1)):=by rw[<-h2];exact hc
 refine Zx func41 rfl ntmps41 results41 (X1 _) ?_;simp only[go_sem,doc,ref,hi'];refine vc1 hc ?_;simp only[go_sem,ZaT,W6];have i1:=Ja k
 have i2:(k:Int)<(d.rows.length:Int):=by omega
 have i3:¬(k:Int)<0:=by omega
 have hc:Pp 87 [doc d,.str it] (.int .i64 k):=by rw[<-h2];exact hc
 rw[h2,if_neg i3];simp only[JQ];have hc2:=FA (d.rows.getD k Jd).l r (f4 _ (Zp hk)).1;rcases Y0 (atE r) (d.rows.getD k Jd).l with h4|⟨n,hn,h4⟩;rw[h4];have hc2:Pp 91 [Yd (d.rows.getD k Jd).l,ref r] (.int .i64 (-1)):=by rw[<-h4];exact hc2
 refine Zx func41 rfl ntmps41 results41 (X1 _) ?_;simp only[go_sem,doc,ref,hi'];refine vc1 hc ?_;simp only[go_sem,i1,i2,i3,Yx hk,row];refine vc1 hc2 ?_;simp only[go_sem,ZaT,W6];have j1:=Ja n
 have j2:(n:Int)<((d.rows.getD k Jd).l.length:Int):=by omega
 have j3:¬(n:Int)<0:=by omega
 have hc2:Pp 91 [Yd (d.rows.getD k Jd).l,ref r] (.int .i64 n):=by rw[<-h4];exact hc2
 rw[h4,if_neg j3];refine Zx func41 rfl ntmps41 results41 (X1 _) ?_;simp only[go_sem,doc,ref,hi'];refine vc1 hc ?_;simp only[go_sem,i1,i2,i3,Yx hk,row];refine vc1 hc2 ?_;simp only[go_sem,j1,j2,j3,YS hn,ent,ZaT]
open Go.PL
structure Fd where
 at':Rf
 kind:Int
 df:Str
 cases':List Str
 worth:Int
 deriving DecidableEq,Inhabited
def fld (f:Fd):PV:= .agg [.int .i64 f.at'.sc,.str f.at'.gr,.str f.at'.nm,.int .i64 f.kind,.str f.df,.sl .no (f.cases'.map .str),.int .i64 f.worth]
def Zh (l:List Fd):PV:= .sl .no (l.map fld)
theorem vc2 {x:Bool} {M:KH} {g:FuncId} {args args':List PV} {K:KR} {r:PV} (h1:PL.Pure prog g args' r) (h2:K.k r M.m) (h0:Ke M.m args:=by first|(simp only[go_sem,ref,ent,Yd,doc,Yo,row,Zh,fld];done)|exact rfl) (he:Kq M.m args=args':=by first|(simp only[go_sem,ref,ent,Yd,doc,Yo,row,Zh,fld];done)|exact rfl):@U9 prog x M (Hs (g,args)) K:=YD h1 h0 he h2
theorem Zy {l:List Fd} {i:Nat} (h:i<l.length):(l.map fld).getD i .any=fld (l.getD i Jd):=by
 simp[Jb,h]
def Z6 (f:Fd):En:=⟨f.at',0,if f.kind=1\/f.kind=4 then []else [f.df]⟩
attribute [go_sem] Zbr
theorem Zkj (f:Fd):Pp 113 [fld f] (ent (Z6 f)):=by
 by_cases h1:f.kind=1;have h1':(f.kind !=1)=false:=by rw[h1];rfl
 refine Zx func113 rfl ntmps113 results113 (Xq _) ?_;simp only[go_sem,fld,ent,Z6,h1'];simp[h1];have h1':(f.kind !=1)=true:=bne_iff_ne.2 h1;by_cases h2:f.kind=4;have h2':(f.kind !=4)=false:=by rw[h2];rfl
 refine Zx func113 rfl ntmps113 results113 (Xq _) ?_;simp only[go_sem,fld,ent,Z6,h1',h2'];simp[h2];have h2':(f.kind !=4)=true:=bne_iff_ne.2 h2;refine Zx func113 rfl ntmps113 results113 (Xq _) ?_;simp only[go_sem,fld,ent,Z6,h1',h2',h1,h2,or_self]
theorem Sk (l:List En):Sized 5 (l.map ent):=λe he=>by
 obtain⟨x,_,rfl⟩:=Ju.1 he;rfl
theorem Zfl (l:List En):XO (l.map ent):=λe he=>by
 obtain⟨x,_,rfl⟩:=Ju.1 he;rfl
theorem Zlf (e:En):Sized 5 [Kz [.int .i64 e.at'.sc,.str e.at'.gr,.str e.at'.nm,.int .i64 e.n,.sl .no (e.l.map .str)]]:=Sk [e]
theorem Zko (e:En):XO [Kz [.int .i64 e.at'.sc,.str e.at'.gr,.str e.at'.nm,.int .i64 e.n,.sl .no (e.l.map .str)]]:=Zfl [e]
theorem Z0 {α:Type} {l:List α} {k:Nat} (h:k<l.length) {d:α}:l.take (k+1)=l.take k++ [l.getD k d]:=by
 rw[JD h,Jb,Jk h];rfl
theorem GS (l:List En):Jj (l.map ent)= []:=by
 induction l with
 |nil=>rfl
 |cons e l ih=>rw[Jq,Jj,ih,Xq];rfl
theorem UU (l:List En):(Yd l).dids= []:=by simp only[Yd,Jt,GS]
def Tx:List Fd:= [⟨⟨0,[],[99,111,117,112,111,110]⟩,2,[],[],0⟩,⟨⟨1,[],[110,111,116,101]⟩,2,[],[],0⟩,⟨⟨1,[],[113,116,121]⟩,1,[],[],1⟩,
 ⟨⟨1,[],[115,105,122,101]⟩,3,[109,101,100,105,117,109],[[115,109,97,108,108],[109,101,100,105,117,109],[108,97,114,103,101]],0⟩,⟨⟨1,[],[116,97,103,115]⟩,4,[],[],0⟩]
theorem YP (l:List Fd):Sized 7 (l.map fld):=λe he=>by
 obtain⟨x,_,rfl⟩:=Ju.1 he;rfl
theorem Zfv (l:List Fd):Jj (l.map fld)= []:=by
 induction l with
 |nil=>rfl
 |cons e l ih=>rw[Jq,Jj,ih];simp only[fld,Jt,Jj,WF,Je]
theorem Vp (l:List Fd):(Zh l).dids= []:=by simp only[Zh,Jt,Zfv]
theorem Zfa:Pp 127 [] (Zh Tx):=by
 refine Zx func127 rfl ntmps127 results127 (Vp _) ?_;simp (config:= { maxSteps:=2000000 }) only[go_sem,Yw,Zh,fld,Tx]
open Go.PL
@[go_sem] theorem ZyK:((0:Nat):Int)=0:=rfl
@[go_sem] theorem ZyL:((1:Nat):Int)=1:=rfl
attribute [go_sem] Int.cast_ofNat_Int
def nm (s:Str) (i:Nat):Int:=((s.getD i 0).toNat:Int)
def ZkY (s:Str) (i:Nat):Bool:=decide (97<=nm s i/\nm s i<=122)||(decide (48<=nm s i/\nm s i<=57)&&decide (i≠0))
def Yj (s:Str):Bool:=decide (1<=s.length/\s.length<=12)&&(Jr s.length).all (ZkY s)
theorem VC (s:Str) (i:Nat):((s.getD i 0).toNat:Int)=nm s i:=rfl
theorem Xv (s:Str):Pp 67 [.str s] (.bool (Yj s)):=by
 by_cases h1:(s.length:Int)<1;have hx:Yj s=false:=by simp only[Yj,show ¬(1<=s.length/\s.length<=12)by omega,decide_false,Jc]
 refine ZM func67 rfl ntmps67 results67 ?_;simp only[go_sem,h1,hx];by_cases h2:(12:Int)<(s.length:Int);have hx:Yj s=false:=by simp only[Yj,show ¬(1<=s.length/\s.length<=12)by omega,decide_false,Jc]
 refine ZM func67 rfl ntmps67 results67 ?_;simp only[go_sem,h1,h2,hx];have hn:Yj s=(Jr s.length).all (ZkY s):=by simp only[Yj,show(1<=s.length/\s.length<=12)by omega,and_self,decide_true,Ji]
 refine ZM func67 rfl ntmps67 results67 ?_;simp only[go_sem,h1,h2];refine Zs (ι:= { k:Nat // k<=s.length/\ ∀j,j<k->ZkY s j=Ht }) 50 (λx=> [(0,.str s),(15,.int .i64 (s.length:Int)),(16,.int .i64 (x.1:Int))]) (λx=> []) (λx=> []) (λx=>s.length-x.1) ⟨0,by omega,λj hj=>by omega⟩
  ⟨rfl,(Fc3 rfl rfl rfl),fnl,fnl⟩ (λx=>⟨(Fc3 rfl rfl rfl),fnl⟩) (λx=> ?_)
 obtain⟨k,hk,hall⟩:=x;simp only;by_cases h:(k:Int)<(s.length:Int);have hka:k<s.length:=by omega
 have w1:=wk9 (k:=k) (by omega)
 have i1:=Ja k
 cases ho:ZkY s k;have hx:Yj s=false:=by
  rw[hn,JJ];exact⟨k,by simpa using hka,by simp[ho]⟩
 simp only[ZkY,Jv,decide_eq_false_iff_not,Kc]at ho;by_cases g1:97<=nm s k;have g2:¬nm s k<=122:=by omega
 have g3:48<=nm s k:=by omega
 have g4:¬nm s k<=57:=by omega
 simp only[go_sem,h,i1,VC,g1,g2,g3,g4,hx];by_cases g3:48<=nm s k;by_cases g4:nm s k<=57;have hk0:((k:Int)==0)=true:=by
  rw[beq_iff_eq];rcases ho.2 with h'|h'<;>omega
 simp only[go_sem,h,i1,VC,g1,g3,g4,hk0,hx];simp only[go_sem,h,i1,VC,g1,g3,g4,hx];simp only[go_sem,h,i1,VC,g1,g3,hx];have nx:∀j,j<k+1->ZkY s j=true:=Zm hall ho;simp only[ZkY,Js,decide_eq_true_eq,Jn]at ho;by_cases g1:97<=nm s k;have g2:nm s k<=122:=by omega
 have g3:48<=nm s k:=by omega
 have g4:¬nm s k<=57:=by omega
 simp only[go_sem,h,i1,VC,g1,g2,g3,g4,w1];exact⟨⟨k+1,by omega,nx⟩,nx9 (by omega),⟨rfl,(Fc3 rfl rfl rfl),fnl,fnl⟩⟩;have g3:48<=nm s k:=by omega
 have g4:nm s k<=57:=by omega
 have hk0:((k:Int)==0)=false:=beq_eq_false_iff_ne.2 (by omega);simp only[go_sem,h,i1,VC,g1,g3,g4,hk0,w1];exact⟨⟨k+1,by omega,nx⟩,nx9 (by omega),⟨rfl,(Fc3 rfl rfl rfl),fnl,fnl⟩⟩;have hx:Yj s=true:=by
  rw[hn,Jz];intro j hj;exact hall j (by have:=JK.1 hj;omega)
 simp only[go_sem,h,hx]
def X6 (r:Rf):Bool:=(decide (r.sc=0)||decide (r.sc=1))&&(Yj r.nm&&(decide (r.gr= [])||Yj r.gr))
theorem DE (r:Rf):Pp 151 [ref r] (.bool (X6 r)):=by
 have hN:=Xv r.nm;have hG:=Xv r.gr;by_cases hs:r.sc=0\/r.sc=1;have hs':(decide (r.sc=0)||decide (r.sc=1))=true:=by simpa using hs
 have key:Pp 151 [ref r] (.bool (Yj r.nm&&(decide (r.gr= [])||Yj r.gr))):=by
  cases hn:Yj r.nm;rw[hn]at hN;rcases hs with h0|h1;have q:(r.sc !=0)=false:=by rw[h0];rfl
  refine ZM func151 rfl ntmps151 results151 ?_;simp only[go_sem,ref,q];refine vc1 hN ?_;simp only[go_sem,Jc];have q:(r.sc !=0)=true:=by rw[h1];rfl
  have q1:(r.sc !=1)=false:=by rw[h1];rfl
  refine ZM func151 rfl ntmps151 results151 ?_;simp only[go_sem,ref,q,q1];refine vc1 hN ?_;simp only[go_sem,Jc];rw[hn]at hN;by_cases hg:r.gr= [];have hg':=Zhq hg;rcases hs with h0|h1;have q:(r.sc !=0)=false:=by rw[h0];rfl
  refine ZM func151 rfl ntmps151 results151 ?_;simp only[go_sem,ref,q];refine vc1 hN ?_;simp only[go_sem,Ji,hg',decide_eq_true hg];have q:(r.sc !=0)=true:=by rw[h1];rfl
  have q1:(r.sc !=1)=false:=by rw[h1];rfl
  refine ZM func151 rfl ntmps151 results151 ?_;simp only[go_sem,ref,q,q1];refine vc1 hN ?_;simp only[go_sem,Ji,hg',decide_eq_true hg];have hg':=ZdZ hg;rcases hs with h0|h1;have q:(r.sc !=0)=false:=by rw[h0];rfl
  refine ZM func151 rfl ntmps151 results151 ?_;simp only[go_sem,ref,q];refine vc1 hN ?_;simp only[go_sem,hg'];refine vc1 hG ?_;simp only[go_sem,Ji,decide_eq_false hg];have q:(r.sc !=0)=true:=by rw[h1];rfl
  have q1:(r.sc !=1)=false:=by rw[h1];rfl
  refine ZM func151 rfl ntmps151 results151 ?_;simp only[go_sem,ref,q,q1];refine vc1 hN ?_;simp only[go_sem,hg'];refine vc1 hG ?_;simp only[go_sem,Ji,decide_eq_false hg]
 simp only[X6,hs',Ji];exact key;have q:(r.sc !=0)=true:=bne_iff_ne.2 (by omega);have q1:(r.sc !=1)=true:=bne_iff_ne.2 (by omega);have hx:X6 r=false:=by
  have:(decide (r.sc=0)||decide (r.sc=1))=false:=by simp;omega
  simp only[X6,this,Jc]
 refine ZM func151 rfl ntmps151 results151 ?_;simp only[go_sem,ref,q,q1,hx]
theorem GE (s:Str):Pp 153 [.str s] (.bool (decide ((s.length:Int)<=40))):=by
 refine ZM func153 rfl ntmps153 results153 ?_;simp only[go_sem]
open Go.PL
theorem Uj (l:List Str):(Yo l).dids= []:=by simp only[Yo,Jt,WF]
open Go.PL
theorem Y7 (s:Str):Pp 45 [.str s] (.bool (Yj s)):=by
 by_cases h1:(s.length:Int)<1;have hx:Yj s=false:=by simp only[Yj,show ¬(1<=s.length/\s.length<=12)by omega,decide_false,Jc]
 refine ZM func45 rfl ntmps45 results45 ?_;simp only[go_sem,h1,hx];by_cases h2:(12:Int)<(s.length:Int);have hx:Yj s=false:=by simp only[Yj,show ¬(1<=s.length/\s.length<=12)by omega,decide_false,Jc]
 refine ZM func45 rfl ntmps45 results45 ?_;simp only[go_sem,h1,h2,hx];have hn:Yj s=(Jr s.length).all (ZkY s):=by simp only[Yj,show(1<=s.length/\s.length<=12)by omega,and_self,decide_true,Ji]
 refine ZM func45 rfl ntmps45 results45 ?_;simp only[go_sem,h1,h2];refine Zs (ι:= { k:Nat // k<=s.length/\ ∀j,j<k->ZkY s j=Ht }) 50 (λx=> [(0,.str s),(3,.int .i64 (x.1:Int))]) (λx=> []) (λx=> []) (λx=>s.length-x.1) ⟨0,by omega,λj hj=>by omega⟩
  ⟨rfl,(Fc2 rfl rfl),fnl,fnl⟩ (λx=>⟨(Fc2 rfl rfl),fnl⟩) (λx=> ?_)
 obtain⟨k,hk,hall⟩:=x;simp only;by_cases h:(k:Int)<(s.length:Int);have hka:k<s.length:=by omega
 have w1:=wk9 (k:=k) (by omega)
 have i1:=Ja k
 cases ho:ZkY s k;have hx:Yj s=false:=by
  rw[hn,JJ];exact⟨k,by simpa using hka,by simp[ho]⟩
 simp only[ZkY,Jv,decide_eq_false_iff_not,Kc]at ho;by_cases g1:97<=nm s k;have g2:¬nm s k<=122:=by omega
 have g3:48<=nm s k:=by omega
 have g4:¬nm s k<=57:=by omega
 simp only[go_sem,h,i1,VC,g1,g2,g3,g4,hx];by_cases g3:48<=nm s k;by_cases g4:nm s k<=57;have hk0:((k:Int)==0)=true:=by
  rw[beq_iff_eq];rcases ho.2 with h'|h'<;>omega
 simp only[go_sem,h,i1,VC,g1,g3,g4,hk0,hx];simp only[go_sem,h,i1,VC,g1,g3,g4,hx];simp only[go_sem,h,i1,VC,g1,g3,hx];have nx:∀j,j<k+1->ZkY s j=true:=Zm hall ho;simp only[ZkY,Js,decide_eq_true_eq,Jn]at ho;by_cases g1:97<=nm s k;have g2:nm s k<=122:=by omega
 have g3:48<=nm s k:=by omega
 have g4:¬nm s k<=57:=by omega
 simp only[go_sem,h,i1,VC,g1,g2,g3,g4,w1];exact⟨⟨k+1,by omega,nx⟩,nx9 (by omega),⟨rfl,(Fc2 rfl rfl),fnl,fnl⟩⟩;have g3:48<=nm s k:=by omega
 have g4:nm s k<=57:=by omega
 have hk0:((k:Int)==0)=false:=beq_eq_false_iff_ne.2 (by omega);simp only[go_sem,h,i1,VC,g1,g3,g4,hk0,w1];exact⟨⟨k+1,by omega,nx⟩,nx9 (by omega),⟨rfl,(Fc2 rfl rfl),fnl,fnl⟩⟩;have hx:Yj s=true:=by
  rw[hn,Jz];intro j hj;exact hall j (by have:=JK.1 hj;omega)
 simp only[go_sem,h,hx]
theorem ZnN (r:Rf):X6 r=(decide (0<=r.sc)&&(decide (r.sc<=1)&&(Yj r.nm&&(decide (r.gr= [])||Yj r.gr)))):=by
 have:(decide (r.sc=0)||decide (r.sc=1))=(decide (0<=r.sc)&&decide (r.sc<=1)):=by
  rw[Jf];simp;omega
 rw[X6,this,Bool.and_assoc]
theorem S7 (r:Rf):Pp 143 [ref r] (.bool (X6 r)):=by
 rw[ZnN];have hN:=Y7 r.nm;have hG:=Y7 r.gr;refine ZM func143 rfl ntmps143 results143 ?_;simp only[go_sem,ref];repeat' ((first|(first|apply ZC|apply ZB|apply ZO)<;>intro h|refine vc1 hN ?_|refine vc1 hG ?_|refine vDq ?_)<;>first|simp only[go_sem,h]|simp only[go_sem]|skip)
 all_goals (simp_all)
theorem TP (l:List Str) (s:Str) (hl:l.length<=maxLen):Pp 187 [Yo l,.str s] (.bool (l.any (· == s))):=by
 refine ZM func187 rfl ntmps187 results187 ?_;simp only[go_sem,Yo];refine Zs (ι:= { k:Nat // k<=l.length/\ ∀j,j<k->(l.getD j []==s)=Hf }) 18 (λx=> [(0,Yo l),(1,.str s),(5,.int .i64 (x.1:Int))]) (λx=> []) (λx=> []) (λx=>l.length-x.1) ⟨0,by omega,λj hj=>by omega⟩
  ⟨rfl,(Fc3 rfl rfl rfl),fnl,fnl⟩ (λx=>⟨(Fc3 rfl rfl rfl),fnl⟩) (λx=> ?_)
 obtain⟨k,hk,hall⟩:=x;simp only;by_cases h:(k:Int)<(l.length:Int);have hka:k<l.length:=by omega
 have w1:=Xi hka hl;have i1:=Ja k
 cases he:(l.getD k []==s);simp only[go_sem,Yo,h,ZQ hka,i1,he,w1];exact⟨⟨k+1,by omega,Zm hall he⟩,nx9 (by omega),⟨rfl,(Fc3 rfl rfl rfl),fnl,fnl⟩⟩;have hx:=Ti (p:=(· == s)) hka he;simp only[go_sem,Yo,h,ZQ hka,i1,he,hx];have hx:=UN (p:=(· == s)) (d:= []) (l:=l) (λj hj=>hall j (by omega));simp only[go_sem,Yo,h,hx]
def Va (a b:Rf):Bool:=if a.sc≠b.sc then decide (a.sc<b.sc)else if a.gr≠b.gr then ZH a.gr b.gr else ZH a.nm b.nm
theorem Zcx (a b:Rf):Pp 181 [ref a,ref b] (.bool (Va a b)):=by
 refine ZM func181 rfl ntmps181 results181 ?_;simp only[go_sem,ref];repeat' ((first|(first|apply ZC|apply ZB|apply ZO)<;>intro h|refine vDq ?_)<;>first|simp only[go_sem,h]|simp only[go_sem]|skip)
 all_goals (simp_all[Va])
open Go.PL
attribute [go_sem] Option.map_some Option.map_none Option.isNone_none
theorem Zaj (l:List Str) (k:Nat):Kn k (l.map Ky)=(l.take k).map Ky:=by rw[Ku]
def UP (l:List Str) (i:Nat):Bool:=Yj (l.getD i [])&& !((l.take i).any (· == l.getD i []))
def ZaM (l:List Str):Bool:=(Jr l.length).all (UP l)
theorem Ur {l:List Str} {k:Nat} (hk:k<l.length) (h:UP l k=Hf):ZaM l=false:=by
 rw[ZaM,JJ];exact⟨k,by simpa using hk,by simp[h]⟩
theorem ZaN {l:List Str} (h:∀j,j<l.length->UP l j=Ht):ZaM l=true:=by
 rw[ZaM,Jz];intro j hj;exact h j (JK.1 hj)
def Zch (f:Fd):Bool:=ZaM f.cases'&&(decide ((f.cases'.length:Int)<7)&&f.cases'.any (· == f.df))
def Zih (f:Fd):Bool:= !decide (0<(f.cases'.length:Int))&&((decide (f.kind=2)&&decide ((f.df.length:Int)<41))||(decide (f.kind=4)&&decide (f.df= [])))
def Z1 (f:Fd):Bool:=
 X6 f.at'&&(if f.kind=1 then decide (f.df= [])&&(decide ((f.cases'.length:Int)=0)&&(decide (0<f.worth)&&decide (f.worth<1048577)))
  else decide (f.worth=0)&&(if f.kind=3 then Zch f else Zih f))
theorem VW (f:Fd) (hl:f.cases'.length<=maxLen):Pp 142 [fld f] (.bool (Z1 f)):=by
 have hP:=S7 f.at';by_cases h3:f.kind=3;have k1:(f.kind==1)=false:=by rw[h3];rfl
 have k3:(f.kind==3)=true:=by rw[h3];rfl
 cases hp:X6 f.at';rw[hp]at hP;refine ZM func142 rfl ntmps142 results142 ?_;simp only[go_sem,fld];refine vc1 hP ?_;simp only[go_sem,Z1,hp,Jc];rw[hp]at hP;by_cases hw:f.worth=0;have hw':(f.worth !=0)=false:=by rw[hw];rfl
 have hx:Z1 f=Zch f:=by
  simp only[Z1,hp,h3,hw,Ji,decide_true,if_true];rfl
 rw[hx];refine ZM func142 rfl ntmps142 results142 ?_;simp only[go_sem,fld];refine vc1 hP ?_;simp only[go_sem,k1,k3,hw'];refine Zs (ι:= { k:Nat // k<=f.cases'.length/\ ∀j,j<k->UP f.cases' j=Ht }) 96 (λx=> [(1,.ptr 1 0),(3,.int .i64 (x.1:Int))]) (λx=> [(1,[.int .i64 f.at'.sc,.str f.at'.gr,.str f.at'.nm,.int .i64 f.kind,.str f.df,.sl .no (f.cases'.map .str),.int .i64 f.worth],Hf)]) (λx=> []) (λx=>f.cases'.length-x.1) ⟨0,by omega,λj hj=>by omega⟩
  ⟨rfl,(Fc2 rfl rfl),fcs ⟨rfl,rfl⟩ fnl,fnl⟩ (λx=>⟨(Fc2 rfl rfl),(fcs rfl fnl)⟩) (λx=> ?_)
 obtain⟨k,hk,hall⟩:=x;simp only;by_cases h:(k:Int)<(f.cases'.length:Int);have hka:k<f.cases'.length:=by omega
 have w1:=Xi hka hl;have i1:=Ja k
 have i2:(k:Int)<=(f.cases'.length:Int):=by omega
 have hN:=Y7 (f.cases'.getD k []);have hT:(f.cases'.take k).length<=maxLen:=by rw[Jo];omega
 have hH:=TP (f.cases'.take k) (f.cases'.getD k []) hT;cases hn:Yj (f.cases'.getD k []);rw[hn]at hN;have hz:Zch f=false:=by simp only[Zch,Ur hka (by simp only[UP,hn,Jc]),Jc]
 simp only[go_sem,h,i1];refine vDq ?_;simp only[go_sem,ZQ hka,h,i1];refine vc1 hN ?_;simp only[go_sem,hz];rw[hn]at hN;cases hh:(f.cases'.take k).any (· == f.cases'.getD k []);rw[hh]at hH;have ok:UP f.cases' k=true:=by simp only[UP,hn,hh,JF,Jm]
 simp only[go_sem,h,i1];refine vDq ?_;simp only[go_sem,ZQ hka,h,i1];refine vc1 hN ?_;simp only[go_sem,ZQ hka,h,i1,i2,cut,JH,Zaj,ZZ];refine vc1 hH ?_;simp only[go_sem,w1];exact⟨⟨k+1,by omega,Zm hall ok⟩,nx9 (by omega),⟨rfl,(Fc2 rfl rfl),fcs ⟨rfl,rfl⟩ fnl,fnl⟩⟩;rw[hh]at hH;have hz:Zch f=false:=by simp only[Zch,Ur hka (by simp only[UP,hn,hh,JU,Jw]),Jc]
 simp only[go_sem,h,i1];refine vDq ?_;simp only[go_sem,ZQ hka,h,i1];refine vc1 hN ?_;simp only[go_sem,ZQ hka,h,i1,i2,cut,JH,Zaj,ZZ];refine vc1 hH ?_;simp only[go_sem,hz];have hc:=ZaN (l:=f.cases') (λj hj=>hall j (by omega));have hH:=TP f.cases' f.df hl;by_cases h7:(f.cases'.length:Int)<7;simp only[go_sem,h,h7];refine vc1 hH ?_;simp only[go_sem,Zch,hc,h7,Ji];simp only[go_sem,h,h7,Zch,hc,Ji,Jc];have hw':(f.worth !=0)=true:=bne_iff_ne.2 hw;have hx:Z1 f=false:=by
  simp only[Z1,hp,h3,hw,Ji,decide_false,Jc];rfl
 refine ZM func142 rfl ntmps142 results142 ?_;simp only[go_sem,fld];refine vc1 hP ?_;simp only[go_sem,k1,k3,hw',hx];have k3:(f.kind==3)=false:=beq_eq_false_iff_ne.2 h3;have hx:Z1 f=(X6 f.at'&&(if f.kind=1 then decide (f.df= [])&&(decide ((f.cases'.length:Int)=0)&&(decide (0<f.worth)&&decide (f.worth<1048577)))else decide (f.worth=0)&&Zih f)):=by
  simp only[Z1,h3,if_false]
 rw[hx];refine ZM func142 rfl ntmps142 results142 ?_;simp only[go_sem,fld];refine vc1 hP ?_;simp only[go_sem];repeat' ((first|(first|apply ZC|apply ZB|apply ZO)<;>intro h|refine vDq ?_)<;>first|simp only[go_sem,h,k3]|simp only[go_sem,k3]|skip)
 all_goals (simp_all[Zih])
 all_goals (cases f.df<;>simp)
def Xy (f:Fd) (s:Str):Bool:=(Z1 f&& !decide (f.kind=1))&&(if f.kind=3 then f.cases'.any (· == s)else decide ((s.length:Int)<41))
theorem Zcu (f:Fd) (s:Str) (hl:f.cases'.length<=maxLen):Pp 223 [fld f,.str s] (.bool (Xy f s)):=by
 have hR:=VW f hl;have hH:=TP f.cases' s hl;refine ZM func223 rfl ntmps223 results223 ?_;simp only[go_sem,fld];repeat' ((first|(first|apply ZC|apply ZB|apply ZO)<;>intro h|refine vc2 hR ?_|refine vc2 hH ?_|refine vDq ?_)<;>first|simp only[go_sem,h]|simp only[go_sem]|skip)
 all_goals (simp_all[Xy])
open Go.PL
theorem ZiG {α:Type} {p:α->Bool} {l:List α} {d:α} (h:∀j,j<l.length->p (l.getD j d)=Ht):l.all p=true:=by
 rw[Jz];intro x hx;obtain⟨j,hj,rfl⟩:=Jl hx;have:=h j hj;simpa[Jb,hj]using this
theorem Zfg {α:Type} {p:α->Bool} {l:List α} {k:Nat} {d:α} (hk:k<l.length) (h:p (l.getD k d)=Hf):l.all p=false:=by
 rw[JJ];exact⟨l.getD k d,Zp hk,by rw[h];simp⟩
theorem ZU {p:Nat->Bool} {n k:Nat} (hk:k<n) (h:p k=Hf):(Jr n).all p=false:=by
 rw[JJ];exact⟨k,by simpa using hk,by simp[h]⟩
theorem X7 {p:Nat->Bool} {n:Nat} (h:∀j,j<n->p j=Ht):(Jr n).all p=true:=by
 rw[Jz];intro j hj;exact h j (JK.1 hj)
def ZkA (e:En):Bool:=decide (-4503599627370497<e.n)&&(decide (e.n<4503599627370497)&&((e.l.length:Int)==0))
def Gb (f:Fd) (e:En):Bool:=if f.kind=4 then !decide (400<(e.l.length:Int))else decide ((e.l.length:Int)=1)
def T1 (f:Fd) (e:En):Bool:=e.l.all (Xy f)&&decide (e.n=0)
def XG (f:Fd) (e:En):Bool:=(Z1 f&&decide (e.at'=f.at'))&&(if f.kind=1 then ZkA e else Gb f e&&T1 f e)
theorem Zg6 (f:Fd) (e:En) (hl:f.cases'.length<=maxLen) (he:e.l.length<=maxLen):Pp 182 [fld f,ent e] (.bool (XG f e)):=by
 have hR:=VW f hl;cases hr:Z1 f;rw[hr]at hR;refine ZM func182 rfl ntmps182 results182 ?_;simp only[go_sem,fld,ent];refine vc2 hR ?_;simp only[go_sem,XG,hr,Jc];rw[hr]at hR;by_cases ha:e.at'=f.at';have ha':=decide_eq_true ha;by_cases h1:f.kind=1
 ·have k1:(f.kind==1)=true:=by rw[h1];rfl
  have hx:XG f e=ZkA e:=by simp only[XG,hr,ha',Jm,Ji,h1,if_true]
  rw[hx];refine ZM func182 rfl ntmps182 results182 ?_;simp only[go_sem,fld,ent];refine vc2 hR ?_;simp only[go_sem,Zr,ha',k1];repeat' ((first|(first|apply ZC|apply ZB|apply ZO)<;>intro h|refine vDq ?_)<;>first|simp only[go_sem,h]|simp only[go_sem]|skip)
  all_goals (simp_all[ZkA];try omega)
 have k1:(f.kind==1)=false:=beq_eq_false_iff_ne.2 h1;have hx:XG f e=(Gb f e&&T1 f e):=by simp only[XG,hr,ha',Jm,Ji,h1,if_false]
 rw[hx];cases hc:Gb f e;have hz:(Hf&&T1 f e)=false:=rfl;by_cases h4:f.kind=4;have k4:(f.kind==4)=true:=by rw[h4];rfl
 have k5:(f.kind !=4)=false:=by rw[h4];rfl
 have g:400<(e.l.length:Int):=by simpa[Gb,h4]using hc
 refine ZM func182 rfl ntmps182 results182 ?_;simp only[go_sem,fld,ent];refine vc2 hR ?_;simp only[go_sem,Zr,ha',k1,k4,g,Jc];have k4:(f.kind==4)=false:=beq_eq_false_iff_ne.2 h4;have k5:(f.kind !=4)=true:=bne_iff_ne.2 h4;have g:((e.l.length:Int) !=1)=true:=by
  rw[bne_iff_ne];simpa[Gb,h4]using hc
 refine ZM func182 rfl ntmps182 results182 ?_;simp only[go_sem,fld,ent];refine vc2 hR ?_;simp only[go_sem,Zr,ha',k1,k4,k5,g,Jc]
 ·rw[Ji];have go:∀(_:(f.kind==4)=Ht/\ ¬400<(e.l.length:Int)/\(f.kind !=4)=Hf\/(f.kind==4)=Hf/\(f.kind !=4)=Ht/\((e.l.length:Int) !=1)=Hf),Pp 182 [fld f,ent e] (.bool (T1 f e)):=by
   intro hk;have lp:∀(Q:Exit->St->Prop) (s:St) (c:Code),True:=λ_ _ _=>trivial
   rcases hk with ⟨k4,g,k5⟩|⟨k4,k5,g⟩
   all_goals
    refine ZM func182 rfl ntmps182 results182 ?_;simp only[go_sem,fld,ent];refine vc2 hR ?_;simp only[go_sem,Zr,ha',k1,k4,k5,g];refine Zs (ι:= { k:Nat // k<=e.l.length/\ ∀j,j<k->Xy f (e.l.getD j [])=Ht }) 71 (λx=> [(2,.ptr 2 0),(3,.ptr 3 0),(5,.int .i64 (x.1:Int))]) (λx=> [(2,[.int .i64 f.at'.sc,.str f.at'.gr,.str f.at'.nm,.int .i64 f.kind,.str f.df,.sl .no (f.cases'.map .str),.int .i64 f.worth],Hf),(3,[.int .i64 e.at'.sc,.str e.at'.gr,.str e.at'.nm,.int .i64 e.n,.sl .no (e.l.map .str)],Hf)]) (λx=> []) (λx=>e.l.length-x.1) ⟨0,by omega,λj hj=>by omega⟩
     ⟨rfl,(Fc3 rfl rfl rfl),Fc2 ⟨rfl,rfl⟩ ⟨rfl,rfl⟩,fnl⟩ (λx=>⟨(Fc3 rfl rfl rfl),(Fc2 rfl rfl)⟩) (λx=> ?_)
    obtain⟨k,hk,hall⟩:=x;simp only
    by_cases h:(k:Int)<(e.l.length:Int)
    ·have hka:k<e.l.length:=by omega
     have w1:=Xi hka he;have i1:=Ja k
     have hF:=Zcu f (e.l.getD k []) hl;cases hf:Xy f (e.l.getD k [])
     ·rw[hf]at hF;have hz:T1 f e=false:=by simp only[T1,Zfg hka hf,Jc]
      simp only[go_sem,h];refine vDq ?_;simp only[go_sem,ZQ hka,h,i1];refine vc2 hF ?_;simp only[go_sem,hz]
     ·rw[hf]at hF;simp only[go_sem,h];refine vDq ?_;simp only[go_sem,ZQ hka,h,i1];refine vc2 hF ?_;simp only[go_sem,w1];exact⟨⟨k+1,by omega,Zm hall hf⟩,nx9 (by omega),⟨rfl,(Fc3 rfl rfl rfl),Fc2 ⟨rfl,rfl⟩ ⟨rfl,rfl⟩,fnl⟩⟩
    ·have hz:T1 f e=(e.n==0):=by
      simp only[T1,ZiG (p:=Xy f) (d:= []) (l:=e.l) (λj hj=>hall j (by omega)),Ji];rfl
     simp only[go_sem,h,hz]
  refine go ?_;by_cases h4:f.kind=4;left;exact⟨by rw[h4];rfl,by simpa[Gb,h4]using hc,by rw[h4];rfl⟩;right;refine⟨beq_eq_false_iff_ne.2 h4,bne_iff_ne.2 h4,?_⟩;have:(e.l.length:Int)=1:=by simpa[Gb,h4]using hc
  rw[this];rfl
 have ha':=decide_eq_false ha;refine ZM func182 rfl ntmps182 results182 ?_;simp only[go_sem,fld,ent];refine vc2 hR ?_;simp only[go_sem,Zr,ha',XG,hr,Jw,Jc]
open Go.PL
def VI (l:List Fd) (i:Nat):Bool:=Z1 (l.getD i Jd)&&(decide (i=0)||Va (l.getD (i-1) Jd).at' (l.getD i Jd).at')
def Z5 (l:List Fd):Bool:= !decide (16<(l.length:Int))&&(Jr l.length).all (VI l)
theorem Uo (l:List Fd) (hl:l.length<=maxLen) (hl':∀f∈l,f.cases'.length<=maxLen):Pp 130 [Zh l] (.bool (Z5 l)):=by
 by_cases h16:16<(l.length:Int);refine ZM func130 rfl ntmps130 results130 ?_;simp only[go_sem,Zh,h16,Z5,Jc];have hx:Z5 l=(Jr l.length).all (VI l):=by simp only[Z5,h16,decide_false,JF,Ji]
 rw[hx];refine ZM func130 rfl ntmps130 results130 ?_;simp only[go_sem,Zh,h16];refine Zs (ι:= { k:Nat // k<=l.length/\ ∀j,j<k->VI l j=Ht }) 38 (λx=> [(0,Zh l),(3,.int .i64 (x.1:Int))]) (λx=> []) (λx=> []) (λx=>l.length-x.1) ⟨0,by omega,λj hj=>by omega⟩
  ⟨rfl,(Fc2 rfl rfl),fnl,fnl⟩ (λx=>⟨(Fc2 rfl rfl),fnl⟩) (λx=> ?_)
 obtain⟨k,hk,hall⟩:=x;simp only;by_cases h:(k:Int)<(l.length:Int);have hka:k<l.length:=by omega
 have w1:=Xi hka hl;have i1:=Ja k
 have hR:=VW (l.getD k Jd) (hl' _ (Zp hka));cases hr:Z1 (l.getD k Jd);rw[hr]at hR;have hz:=ZU (p:=VI l) hka (by simp only[VI,hr,Jc]);simp only[go_sem,Zh,h];refine vDq ?_;simp only[go_sem,Zy hka,fld,h,i1];refine vc2 hR ?_;simp only[go_sem,hz];rw[hr]at hR;by_cases h0:0<(k:Int);have hk1:k-1<l.length:=by omega
 have w2:IntKind.i64.wrap ((k:Int)-1)=((k-1:Nat):Int):=by
  rw[Zb]at hl;rw[w64 (by omega)];omega
 have j1:(0:Int)<=((k-1:Nat):Int):=by omega
 have j2:((k-1:Nat):Int)<(l.length:Int):=by omega
 have hL:=Zcx (l.getD (k-1) Jd).at' (l.getD k Jd).at';cases hb:Va (l.getD (k-1) Jd).at' (l.getD k Jd).at';rw[hb]at hL;have hz:=ZU (p:=VI l) hka (by simp only[VI,hb,decide_eq_false (show ¬k=0 by omega),Kj,Jw]);simp only[go_sem,Zh,h];refine vDq ?_;simp only[go_sem,Zy hka,fld,h,i1];refine vc2 hR ?_;simp only[go_sem,h0,w2,Zy hk1,Zy hka,fld,h,i1,j1,j2];refine vc1 hL ?_;simp only[go_sem,hz];rw[hb]at hL;have ok:VI l k=true:=by simp only[VI,hr,hb,Kb,Jm]
 simp only[go_sem,Zh,h];refine vDq ?_;simp only[go_sem,Zy hka,fld,h,i1];refine vc2 hR ?_;simp only[go_sem,h0,w2,Zy hk1,Zy hka,fld,h,i1,j1,j2];refine vc1 hL ?_;simp only[go_sem,w1];exact⟨⟨k+1,by omega,Zm hall ok⟩,nx9 (by omega),⟨rfl,(Fc2 rfl rfl),fnl,fnl⟩⟩;have ok:VI l k=true:=by simp only[VI,hr,decide_eq_true (show k=0 by omega),JY,Jm]
 simp only[go_sem,Zh,h];refine vDq ?_;simp only[go_sem,Zy hka,fld,h,i1];refine vc2 hR ?_;simp only[go_sem,h0,w1];exact⟨⟨k+1,by omega,Zm hall ok⟩,nx9 (by omega),⟨rfl,(Fc2 rfl rfl),fnl,fnl⟩⟩;have hz:=X7 (p:=VI l) (n:=l.length) (λj hj=>hall j (by omega));simp only[go_sem,Zh,h,hz]
def ZY (l:List Fd) (sc:Int):List Fd:=l.filter λf=>f.at'.sc==sc
theorem Zr0 (l:List Fd) (f:Fd):l.map fld++ [Kz [.int .i64 f.at'.sc,.str f.at'.gr,.str f.at'.nm,.int .i64 f.kind,.str f.df,.sl .no (f.cases'.map .str),.int .i64 f.worth]]=(l++ [f]).map fld:=by simp[fld]
theorem S8 (l:List Fd) (sc:Int) (hl:l.length<=1000000):Pp 49 [Zh l,.int .i64 sc] (Zh (ZY l sc)):=by
 have hm:l.length<=maxLen:=by rw[Zb];omega
 refine Zx func49 rfl ntmps49 results49 (Vp _) ?_;simp only[go_sem,Zh];refine ZL 5 7 28 0 7 73 [] rfl rfl rfl ?_;refine Zs (ι:= { k:Nat // k<=l.length }) 30 (λx=> [(0,Zh l),(1,.int .i64 sc),(5,.sl (.row 28) ((ZY (l.take x.1) sc).map fld)),(6,.int .i64 (x.1:Int))]) (λx=> []) (λx=> [(28,.live (ZY (l.take x.1) sc).length 7 73)]) (λx=>l.length-x.1) ⟨0,by omega⟩
  ⟨rfl,(Fc4 rfl rfl rfl rfl),fnl,(fcs rfl fnl)⟩ (λx=>⟨Fc4 rfl rfl (by simp[JE,ZX]) rfl,fnl⟩) (λx=> ?_)
 obtain⟨k,hk⟩:=x;simp only;by_cases h:(k:Int)<(l.length:Int);have hka:k<l.length:=by omega
 have w1:=Xi hka hm;have i1:=Ja k
 have hlen:(ZY (l.take k) sc).length<=(l.take k).length:=Kd _ _;have hlen2:(l.take k).length<=k:=List.length_take_le _ _;have hr:=Yw (show(ZY (l.take k) sc).length+1<=100000000000 by omega) (show 96<=1000 by omega);cases he:((l.getD k Jd).at'.sc==sc);have hs:ZY (l.take (k+1)) sc=ZY (l.take k) sc:=by
  rw[Z0 hka (d:=Jd)];simp only[ZY,JO,JS,he,JA,if_false,JX,Je]
 simp only[go_sem,Zh,h,Zy hka,fld,i1,he,w1];exact⟨⟨k+1,by omega⟩,nx9 (by omega),⟨rfl,Fc4 rfl rfl (by show KA _ _=KA _ _;rw[hs]) rfl,fnl,fcs (by show Hs _=Hs _;rw[hs]) fnl⟩⟩;have hs:ZY (l.take (k+1)) sc=ZY (l.take k) sc++ [l.getD k Jd]:=by
  rw[Z0 hka (d:=Jd)];simp only[ZY,JO,JS,he,if_true,JX]
 simp only[go_sem,Zh,h,Zy hka,fld,i1,he,YP,hr,w1];exact⟨⟨k+1,by omega⟩,nx9 (by omega),⟨rfl,Fc4 rfl rfl (by show KA _ _=KA _ _;rw[hs,<-Zr0]) rfl,fnl,fcs (by show Hs _=Hs _;rw[hs,JI];rfl) fnl⟩⟩;obtain rfl:k=l.length:=by omega
 simp only[go_sem,h,Zh,JG]
def Yr (l:List Fd) (es:List En):Bool:=decide (l.length=es.length)&&(Jr l.length).all (λi=>XG (l.getD i Jd) (es.getD i Jd))
theorem GC (l:List Fd) (es:List En) (hl:l.length<=maxLen) (hes:es.length<=maxLen) (hl':∀f∈l,f.cases'.length<=maxLen) (hes':∀e∈es,e.l.length<=maxLen):Pp 131 [Zh l,Yd es] (.bool (Yr l es)):=by
 by_cases he:l.length=es.length;have he':((l.length:Int) !=(es.length:Int))=false:=by rw[he];exact bne_self_eq_false _
 have hx:Yr l es=(Jr l.length).all (λi=>XG (l.getD i Jd) (es.getD i Jd)):=by simp only[Yr,he,decide_true,Ji]
 rw[hx];refine ZM func131 rfl ntmps131 results131 ?_;simp only[go_sem,Zh,Yd,he'];refine Zs (ι:= { k:Nat // k<=l.length/\ ∀j,j<k->XG (l.getD j Jd) (es.getD j Jd)=Ht }) 27 (λx=> [(0,Zh l),(1,Yd es),(5,.int .i64 (x.1:Int))]) (λx=> []) (λx=> []) (λx=>l.length-x.1) ⟨0,by omega,λj hj=>by omega⟩
  ⟨rfl,(Fc3 rfl rfl rfl),fnl,fnl⟩ (λx=>⟨(Fc3 rfl rfl rfl),fnl⟩) (λx=> ?_)
 obtain⟨k,hk,hall⟩:=x;simp only;by_cases h:(k:Int)<(l.length:Int);have hka:k<l.length:=by omega
 have hkb:k<es.length:=by omega
 have w1:=Xi hka hl;have i1:=Ja k
 have i2:(k:Int)<(es.length:Int):=by omega
 have hF:=Zg6 (l.getD k Jd) (es.getD k Jd) (hl' _ (Zp hka)) (hes' _ (Zp hkb));cases hf:XG (l.getD k Jd) (es.getD k Jd);rw[hf]at hF;have hz:=ZU (p:=λi=>XG (l.getD i Jd) (es.getD i Jd)) hka hf;simp only[go_sem,Zh,Yd,h];refine vDq ?_;simp only[go_sem,Zy hka,YS hkb,fld,ent,h,i1,i2];refine vc2 hF ?_;simp only[go_sem,hz];rw[hf]at hF;simp only[go_sem,Zh,Yd,h];refine vDq ?_;simp only[go_sem,Zy hka,YS hkb,fld,ent,h,i1,i2];refine vc2 hF ?_;simp only[go_sem,w1];exact⟨⟨k+1,by omega,Zm hall hf⟩,nx9 (by omega),⟨rfl,(Fc3 rfl rfl rfl),fnl,fnl⟩⟩;have hz:=X7 (p:=λi=>XG (l.getD i Jd) (es.getD i Jd)) (n:=l.length) (λj hj=>hall j (by omega));simp only[go_sem,Zh,Yd,h,hz];have he':((l.length:Int) !=(es.length:Int))=true:=bne_iff_ne.2 (by omega);refine ZM func131 rfl ntmps131 results131 ?_;simp only[go_sem,Zh,Yd,he',Yr,he,Jc]
open Go.PL
def ZcV (f:Fd):Bool:=WM 200 f.at'.gr||(WM 200 f.at'.nm||(WM 200 f.df||decide (20<(f.cases'.length:Int))))
def FG (f:Fd):Bool:=ZcV f||f.cases'.any (WM 200)
theorem Ze4 (f:Fd) (hl:f.cases'.length<=maxLen):Pp 58 [fld f] (.bool (FG f)):=by
 have top:∀b,ZcV f=b->(∀(_:b=Ht),FG f=Ht):=λb hb h=>by simp only[FG,hb,h,JY]
 cases ht:ZcV f;have hx:FG f=f.cases'.any (WM 200):=by simp only[FG,ht,JV]
 rw[hx];simp only[ZcV,WM,Jv,decide_eq_false_iff_not]at ht;obtain⟨t1,t2,t3,t4⟩:=ht;have t1:¬(200:Int)<(f.at'.gr.length:Int):=by omega
 have t2:¬(200:Int)<(f.at'.nm.length:Int):=by omega
 have t3:¬(200:Int)<(f.df.length:Int):=by omega
 refine ZM func58 rfl ntmps58 results58 ?_;simp only[go_sem,fld,t1,t2,t3,t4];refine Zs (ι:= { k:Nat // k<=f.cases'.length/\ ∀j,j<k->WM 200 (f.cases'.getD j [])=Hf }) 42 (λx=> [(1,.ptr 1 0),(3,.int .i64 (x.1:Int))]) (λx=> [(1,[.int .i64 f.at'.sc,.str f.at'.gr,.str f.at'.nm,.int .i64 f.kind,.str f.df,.sl .no (f.cases'.map .str),.int .i64 f.worth],Hf)]) (λx=> []) (λx=>f.cases'.length-x.1) ⟨0,by omega,λj hj=>by omega⟩
  ⟨rfl,(Fc2 rfl rfl),fcs ⟨rfl,rfl⟩ fnl,fnl⟩ (λx=>⟨(Fc2 rfl rfl),(fcs rfl fnl)⟩) (λx=> ?_)
 obtain⟨k,hk,hall⟩:=x;simp only;by_cases h:(k:Int)<(f.cases'.length:Int);have hka:k<f.cases'.length:=by omega
 have w1:=Xi hka hl;have i1:=Ja k
 by_cases g:(200:Int)<((f.cases'.getD k []).length:Int);have hz:=Ti (p:=WM 200) hka (d:= []) (by simp only[WM,decide_eq_true_eq];omega);simp only[go_sem,h,ZQ hka,i1,g,hz];simp only[go_sem,h,ZQ hka,i1,g,w1];exact⟨⟨k+1,by omega,Zm hall (by simp only[WM,decide_eq_false_iff_not];omega)⟩,nx9 (by omega),⟨rfl,(Fc2 rfl rfl),fcs ⟨rfl,rfl⟩ fnl,fnl⟩⟩;have hz:=UN (p:=WM 200) (d:= []) (l:=f.cases') (λj hj=>hall j (by omega));simp only[go_sem,h,hz];have hx:=top _ ht rfl;rw[hx];simp only[ZcV,WM,Js,decide_eq_true_eq]at ht;by_cases t1:(200:Int)<(f.at'.gr.length:Int);refine ZM func58 rfl ntmps58 results58 ?_;simp only[go_sem,fld,t1];by_cases t2:(200:Int)<(f.at'.nm.length:Int);refine ZM func58 rfl ntmps58 results58 ?_;simp only[go_sem,fld,t1,t2];by_cases t3:(200:Int)<(f.df.length:Int);refine ZM func58 rfl ntmps58 results58 ?_;simp only[go_sem,fld,t1,t2,t3];have t4:(20:Int)<(f.cases'.length:Int):=by omega
 refine ZM func58 rfl ntmps58 results58 ?_;simp only[go_sem,fld,t1,t2,t3,t4]
open Go.PL
structure Pr where
 fr':Str
 to':Str
 deriving DecidableEq,Inhabited
structure Ln where
 kind:Int
 at':Rf
 nm:Str
 ot:Str
 fac:Int
 fd:Fd
 fo:List Pr
 ba:List Pr
 deriving DecidableEq,Inhabited
structure Tg where
 r:Int
 n:Int
 deriving DecidableEq,Inhabited
structure Eg where
 id:Tg
 par:Tg
 ln:Ln
 deriving DecidableEq,Inhabited
structure Lg where
 id:Tg
 down:Bool
 deriving DecidableEq,Inhabited
def pr (p:Pr):PV:= .agg [.str p.fr',.str p.to']
def prs (l:List Pr):PV:= .sl .no (l.map pr)
def refs (l:List Rf):PV:= .sl .no (l.map ref)
def lns (x:Ln):PV:= .agg [.int .i64 x.kind,.int .i64 x.at'.sc,.str x.at'.gr,.str x.at'.nm,.str x.nm,.str x.ot,.int .i64 x.fac,.int .i64 x.fd.at'.sc,.str x.fd.at'.gr,.str x.fd.at'.nm,.int .i64 x.fd.kind,.str x.fd.df,.sl .no (x.fd.cases'.map .str),.int .i64 x.fd.worth,.sl .no (x.fo.map pr),.sl .no (x.ba.map pr)]
def tg (t:Tg):PV:= .agg [.int .i64 t.r,.int .i64 t.n]
def tgs (l:List Tg):PV:= .sl .no (l.map tg)
def lg (t:Lg):PV:= .agg [.int .i64 t.id.r,.int .i64 t.id.n,.bool t.down]
def lgs (l:List Lg):PV:= .sl .no (l.map lg)
def eg (e:Eg):PV:= .agg [.int .i64 e.id.r,.int .i64 e.id.n,.int .i64 e.par.r,.int .i64 e.par.n,.int .i64 e.ln.kind,.int .i64 e.ln.at'.sc,.str e.ln.at'.gr,.str e.ln.at'.nm,.str e.ln.nm,.str e.ln.ot,.int .i64 e.ln.fac,.int .i64 e.ln.fd.at'.sc,.str e.ln.fd.at'.gr,.str e.ln.fd.at'.nm,.int .i64 e.ln.fd.kind,.str e.ln.fd.df,.sl .no (e.ln.fd.cases'.map .str),.int .i64 e.ln.fd.worth,.sl .no (e.ln.fo.map pr),.sl .no (e.ln.ba.map pr)]
def egs (l:List Eg):PV:= .sl .no (l.map eg)
theorem vc3 {x:Bool} {M:KH} {g:FuncId} {args args':List PV} {K:KR} {r:PV} (h1:PL.Pure prog g args' r) (h2:K.k r M.m) (h0:Ke M.m args:=by first|(simp only[go_sem,ref,ent,Yd,doc,Yo,row,Zh,fld,lns,tg,refs,prs,pr,eg,egs,tgs,lg,lgs];done)|exact rfl) (he:Kq M.m args=args':=by first|(simp only[go_sem,ref,ent,Yd,doc,Yo,row,Zh,fld,lns,tg,refs,prs,pr,eg,egs,tgs,lg,lgs];done)|exact rfl):@U9 prog x M (Hs (g,args)) K:=YD h1 h0 he h2
theorem XR {α:Type} {enc:α->PV} {l:List α} {i:Nat} {d:α} (h:i<l.length):(l.map enc).getD i .any=enc (l.getD i d):=by
 simp[Jb,h]
theorem Yp {l:List Pr} {i:Nat} (h:i<l.length):(l.map pr).getD i .any=pr (l.getD i Jd):=XR h
theorem Ym {l:List Rf} {i:Nat} (h:i<l.length):(l.map ref).getD i .any=ref (l.getD i Jd):=XR h
theorem Z7 {l:List Tg} {i:Nat} (h:i<l.length):(l.map tg).getD i .any=tg (l.getD i Jd):=XR h
theorem ZmS {l:List Lg} {i:Nat} (h:i<l.length):(l.map lg).getD i .any=lg (l.getD i Jd):=XR h
theorem XW {l:List Eg} {i:Nat} (h:i<l.length):(l.map eg).getD i .any=eg (l.getD i Jd):=XR h
theorem Zew (a b:Pr):(a.fr'==b.fr'&&a.to'==b.to')=decide (a=b):=by
 cases a;cases b;rw[Jf];simp
theorem Z4 (a b:Tg):(a.r==b.r&&a.n==b.n)=decide (a=b):=by
 cases a;cases b;rw[Jf];simp
theorem Zcp (a b:List Str) (ha:a.length<=maxLen) (hb:b.length<=maxLen):Pp 172 [Yo a,Yo b] (.bool (decide (a=b))):=by
 by_cases hl:a.length=b.length;have hl':((a.length:Int) !=(b.length:Int))=false:=by rw[hl];exact bne_self_eq_false _
 refine ZM func172 rfl ntmps172 results172 ?_;simp only[go_sem,Yo,hl'];refine Zs (ι:= { x:Nat // x<=(a).length/\(∀j,j<x->a.getD j []=b.getD j []) }) 26 (λx=> [(0,Yo a),(1,Yo b),(12,.int .i64 (a.length:Int)),(13,.int .i64 (x.1:Int))]) (λx=> []) (λx=> []) (λx=>(a).length-x.1) ⟨0,Jg _,λj hj=>absurd hj (Jh j)⟩ ⟨rfl,(Fc4 rfl rfl rfl rfl),fnl,fnl⟩ (λx=>⟨(Fc4 rfl rfl rfl rfl),fnl⟩) (λx=> ?_);obtain⟨k,hk,hI⟩:=x;simp only at hk hI ⊢;by_cases h:(k:Int)<(a.length:Int)
 (have hka:k<(a).length:=by omega);(have w1:=Xi hka (ha));(have i1:=Ja k)
 have hkb:k<b.length:=by omega
 have i2:(k:Int)<(b.length:Int):=by omega
 by_cases he:a.getD k []=b.getD k []
 ·have he':(a.getD k []==b.getD k [])=true:=beq_iff_eq.2 he;simp only[go_sem,Yo,h];refine vDq ?_;simp only[go_sem,ZQ hka,ZQ hkb,h,i1,i2,he',w1];exact⟨⟨k+1,by(try simp only);omega,Zm hI he⟩,by show(a).length-(k+1)<(a).length-k;omega,⟨rfl,(Fc4 rfl rfl rfl rfl),fnl,fnl⟩⟩
 have he':(a.getD k []==b.getD k [])=false:=beq_eq_false_iff_ne.2 he;have hab:¬a=b:=VO he;simp only[go_sem,Yo,h];refine vDq ?_;simp only[go_sem,ZQ hka,ZQ hkb,h,i1,i2,he',hab];have hab:decide (a=b)=true:=decide_eq_true (W7 (d:= []) hl λj hj=>hI j (by omega));simp only[go_sem,Yo,h,hab];have hl':((a.length:Int) !=(b.length:Int))=true:=bne_iff_ne.2 (by omega);have hab:¬a=b:=λe=>hl (by rw[e])
 refine ZM func172 rfl ntmps172 results172 ?_;simp only[go_sem,Yo,hl',hab]
theorem ZlQ (a b:List Tg) (ha:a.length<=maxLen) (hb:b.length<=maxLen):Pp 230 [tgs a,tgs b] (.bool (decide (a=b))):=by
 by_cases hl:a.length=b.length;have hl':((a.length:Int) !=(b.length:Int))=false:=by rw[hl];exact bne_self_eq_false _
 refine ZM func230 rfl ntmps230 results230 ?_;simp only[go_sem,tgs,hl'];refine Zs (ι:= { x:Nat // x<=(a).length/\(∀j,j<x->a.getD j Jd=b.getD j Jd) }) 26 (λx=> [(0,tgs a),(1,tgs b),(12,.int .i64 (a.length:Int)),(13,.int .i64 (x.1:Int))]) (λx=> []) (λx=> []) (λx=>(a).length-x.1) ⟨0,Jg _,λj hj=>absurd hj (Jh j)⟩ ⟨rfl,(Fc4 rfl rfl rfl rfl),fnl,fnl⟩ (λx=>⟨(Fc4 rfl rfl rfl rfl),fnl⟩) (λx=> ?_);obtain⟨k,hk,hI⟩:=x;simp only at hk hI ⊢;by_cases h:(k:Int)<(a.length:Int)
 (have hka:k<(a).length:=by omega);(have w1:=Xi hka (ha));(have i1:=Ja k)
 have hkb:k<b.length:=by omega
 have i2:(k:Int)<(b.length:Int):=by omega
 by_cases he:a.getD k Jd=b.getD k Jd
 ·have he':decide (a.getD k Jd=b.getD k Jd)=true:=decide_eq_true he;simp only[go_sem,tgs,h];refine vDq ?_;simp only[go_sem,Z7 hka,Z7 hkb,h,i1,i2,tg,Z4,he',w1];exact⟨⟨k+1,by(try simp only);omega,Zm hI he⟩,by show(a).length-(k+1)<(a).length-k;omega,⟨rfl,(Fc4 rfl rfl rfl rfl),fnl,fnl⟩⟩
 have he':decide (a.getD k Jd=b.getD k Jd)=false:=decide_eq_false he;have hab:¬a=b:=VO he;simp only[go_sem,tgs,h];refine vDq ?_;simp only[go_sem,Z7 hka,Z7 hkb,h,i1,i2,tg,Z4,he',hab];have hab:decide (a=b)=true:=decide_eq_true (W7 (d:=Jd) hl λj hj=>hI j (by omega));simp only[go_sem,tgs,h,hab];have hl':((a.length:Int) !=(b.length:Int))=true:=bne_iff_ne.2 (by omega);have hab:¬a=b:=λe=>hl (by rw[e])
 refine ZM func230 rfl ntmps230 results230 ?_;simp only[go_sem,tgs,hl',hab]
theorem ZeW (a b:List Pr) (ha:a.length<=maxLen) (hb:b.length<=maxLen):Pp 156 [prs a,prs b] (.bool (decide (a=b))):=by
 by_cases hl:a.length=b.length;have hl':((a.length:Int) !=(b.length:Int))=false:=by rw[hl];exact bne_self_eq_false _
 refine ZM func156 rfl ntmps156 results156 ?_;simp only[go_sem,prs,hl'];refine Zs (ι:= { x:Nat // x<=(a).length/\(∀j,j<x->a.getD j Jd=b.getD j Jd) }) 26 (λx=> [(0,prs a),(1,prs b),(12,.int .i64 (a.length:Int)),(13,.int .i64 (x.1:Int))]) (λx=> []) (λx=> []) (λx=>(a).length-x.1) ⟨0,Jg _,λj hj=>absurd hj (Jh j)⟩ ⟨rfl,(Fc4 rfl rfl rfl rfl),fnl,fnl⟩ (λx=>⟨(Fc4 rfl rfl rfl rfl),fnl⟩) (λx=> ?_);obtain⟨k,hk,hI⟩:=x;simp only at hk hI ⊢;by_cases h:(k:Int)<(a.length:Int)
 (have hka:k<(a).length:=by omega);(have w1:=Xi hka (ha));(have i1:=Ja k)
 have hkb:k<b.length:=by omega
 have i2:(k:Int)<(b.length:Int):=by omega
 by_cases he:a.getD k Jd=b.getD k Jd
 ·have he':decide (a.getD k Jd=b.getD k Jd)=true:=decide_eq_true he;simp only[go_sem,prs,h];refine vDq ?_;simp only[go_sem,Yp hka,Yp hkb,h,i1,i2,pr,Zew,he',w1];exact⟨⟨k+1,by(try simp only);omega,Zm hI he⟩,by show(a).length-(k+1)<(a).length-k;omega,⟨rfl,(Fc4 rfl rfl rfl rfl),fnl,fnl⟩⟩
 have he':decide (a.getD k Jd=b.getD k Jd)=false:=decide_eq_false he;have hab:¬a=b:=VO he;simp only[go_sem,prs,h];refine vDq ?_;simp only[go_sem,Yp hka,Yp hkb,h,i1,i2,pr,Zew,he',hab];have hab:decide (a=b)=true:=decide_eq_true (W7 (d:=Jd) hl λj hj=>hI j (by omega));simp only[go_sem,prs,h,hab];have hl':((a.length:Int) !=(b.length:Int))=true:=bne_iff_ne.2 (by omega);have hab:¬a=b:=λe=>hl (by rw[e])
 refine ZM func156 rfl ntmps156 results156 ?_;simp only[go_sem,prs,hl',hab]
theorem Zct (a b:List Pr) (ha:a.length<=maxLen) (hb:b.length<=maxLen):Pp 148 [prs a,prs b] (.bool (decide (a=b))):=by
 by_cases hl:a.length=b.length;have hl':((a.length:Int) !=(b.length:Int))=false:=by rw[hl];exact bne_self_eq_false _
 refine ZM func148 rfl ntmps148 results148 ?_;simp only[go_sem,prs,hl'];refine Zs (ι:= { x:Nat // x<=(a).length/\(∀j,j<x->a.getD j Jd=b.getD j Jd) }) 26 (λx=> [(0,prs a),(1,prs b),(5,.int .i64 (x.1:Int))]) (λx=> []) (λx=> []) (λx=>(a).length-x.1) ⟨0,Jg _,λj hj=>absurd hj (Jh j)⟩ ⟨rfl,(Fc3 rfl rfl rfl),fnl,fnl⟩ (λx=>⟨(Fc3 rfl rfl rfl),fnl⟩) (λx=> ?_);obtain⟨k,hk,hI⟩:=x;simp only at hk hI ⊢;by_cases h:(k:Int)<(a.length:Int)
 (have hka:k<(a).length:=by omega);(have w1:=Xi hka (ha));(have i1:=Ja k)
 have hkb:k<b.length:=by omega
 have i2:(k:Int)<(b.length:Int):=by omega
 by_cases he:a.getD k Jd=b.getD k Jd
 ·have he':decide (a.getD k Jd=b.getD k Jd)=true:=decide_eq_true he;simp only[go_sem,prs,h];refine vDq ?_;simp only[go_sem,Yp hka,Yp hkb,h,i1,i2,pr,Zew,he',w1];exact⟨⟨k+1,by(try simp only);omega,Zm hI he⟩,by show(a).length-(k+1)<(a).length-k;omega,⟨rfl,(Fc3 rfl rfl rfl),fnl,fnl⟩⟩
 have he':decide (a.getD k Jd=b.getD k Jd)=false:=decide_eq_false he;have hab:¬a=b:=VO he;simp only[go_sem,prs,h];refine vDq ?_;simp only[go_sem,Yp hka,Yp hkb,h,i1,i2,pr,Zew,he',hab];have hab:decide (a=b)=true:=decide_eq_true (W7 (d:=Jd) hl λj hj=>hI j (by omega));simp only[go_sem,prs,h,hab];have hl':((a.length:Int) !=(b.length:Int))=true:=bne_iff_ne.2 (by omega);have hab:¬a=b:=λe=>hl (by rw[e])
 refine ZM func148 rfl ntmps148 results148 ?_;simp only[go_sem,prs,hl',hab]
theorem ZgX (l:List Str) (s:Str) (hl:l.length<=maxLen):Pp 229 [Yo l,.str s] (.int .i64 (idx (λx=>s==x) l)):=by
 refine ZM func229 rfl ntmps229 results229 ?_;simp only[go_sem,Yo];refine Zs (ι:= { x:Nat // x<=(l).length/\(∀j,j<x->(λx=>s==x) (l.getD j [])=Hf) }) 19 (λx=> [(0,Yo l),(1,.str s),(7,.int .i64 (l.length:Int)),(8,.int .i64 (x.1:Int))]) (λx=> []) (λx=> []) (λx=>(l).length-x.1) ⟨0,Jg _,λj hj=>absurd hj (Jh j)⟩ ⟨rfl,(Fc4 rfl rfl rfl rfl),fnl,fnl⟩ (λx=>⟨(Fc4 rfl rfl rfl rfl),fnl⟩) (λx=> ?_);obtain⟨k,hk,hI⟩:=x;simp only at hk hI ⊢;by_cases h:(k:Int)<(l.length:Int)
 (have hka:k<(l).length:=by omega);(have w1:=Xi hka (hl));(have i1:=Ja k)
 cases he:(λx=>s==x) (l.getD k [])
 ·have he0:=he;simp only at he;simp only[go_sem,Yo,h];simp only[go_sem,ZQ hka,h,i1,he,w1];exact⟨⟨k+1,by(try simp only);omega,Zm hI he0⟩,by show(l).length-(k+1)<(l).length-k;omega,⟨rfl,(Fc4 rfl rfl rfl rfl),fnl,fnl⟩⟩
 have hx:=Xz (p:=λx=>s==x) hka hI he;simp only at he;simp only[go_sem,Yo,h];simp only[go_sem,ZQ hka,h,i1,he,hx];have hx:=We (p:=λx=>s==x) (d:= []) (l:=l) (λj hj=>hI j (by omega));simp only[go_sem,Yo,h,hx]
theorem ZgW (l:List Rf) (r:Rf) (hl:l.length<=maxLen):Pp 250 [refs l,ref r] (.int .i64 (idx (λx=>decide (r=x)) l)):=by
 refine ZM func250 rfl ntmps250 results250 ?_;simp only[go_sem,refs,ref];refine Zs (ι:= { x:Nat // x<=(l).length/\(∀j,j<x->(λx=>decide (r=x)) (l.getD j Jd)=Hf) }) 19 (λx=> [(0,refs l),(3,.ptr 3 0),(7,.int .i64 (l.length:Int)),(8,.int .i64 (x.1:Int))]) (λx=> [(3,[.int .i64 r.sc,.str r.gr,.str r.nm],Hf)]) (λx=> []) (λx=>(l).length-x.1) ⟨0,Jg _,λj hj=>absurd hj (Jh j)⟩ ⟨rfl,(Fc4 rfl rfl rfl rfl),(fcs ⟨rfl,rfl⟩ fnl),fnl⟩ (λx=>⟨(Fc4 rfl rfl rfl rfl),(fcs rfl fnl)⟩) (λx=> ?_);obtain⟨k,hk,hI⟩:=x;simp only at hk hI ⊢;by_cases h:(k:Int)<(l.length:Int)
 (have hka:k<(l).length:=by omega);(have w1:=Xi hka (hl));(have i1:=Ja k)
 cases he:(λx=>decide (r=x)) (l.getD k Jd)
 ·have he0:=he;simp only at he;simp only[go_sem,refs,h];refine vDq ?_;simp only[go_sem,Ym hka,h,i1,ref,Zr,he,w1];exact⟨⟨k+1,by(try simp only);omega,Zm hI he0⟩,by show(l).length-(k+1)<(l).length-k;omega,⟨rfl,(Fc4 rfl rfl rfl rfl),(fcs ⟨rfl,rfl⟩ fnl),fnl⟩⟩
 have hx:=Xz (p:=λx=>decide (r=x)) hka hI he;simp only at he;simp only[go_sem,refs,h];refine vDq ?_;simp only[go_sem,Ym hka,h,i1,ref,Zr,he,hx];have hx:=We (p:=λx=>decide (r=x)) (d:=Jd) (l:=l) (λj hj=>hI j (by omega));simp only[go_sem,refs,h,hx]
theorem DD (l:List Fd) (r:Rf) (hl:l.length<=maxLen):Pp 198 [Zh l,ref r] (.int .i64 (idx (λx=>decide (x.at'=r)) l)):=by
 refine ZM func198 rfl ntmps198 results198 ?_;simp only[go_sem,Zh,ref];refine Zs (ι:= { x:Nat // x<=(l).length/\(∀j,j<x->(λx=>decide (x.at'=r)) (l.getD j Jd)=Hf) }) 20 (λx=> [(3,.ptr 3 0),(7,Zh l),(8,.int .i64 (l.length:Int)),(9,.int .i64 (x.1:Int))]) (λx=> [(3,[.int .i64 r.sc,.str r.gr,.str r.nm],Hf)]) (λx=> []) (λx=>(l).length-x.1) ⟨0,Jg _,λj hj=>absurd hj (Jh j)⟩ ⟨rfl,(Fc4 rfl rfl rfl rfl),(fcs ⟨rfl,rfl⟩ fnl),fnl⟩ (λx=>⟨(Fc4 rfl rfl rfl rfl),(fcs rfl fnl)⟩) (λx=> ?_);obtain⟨k,hk,hI⟩:=x;simp only at hk hI ⊢;by_cases h:(k:Int)<(l.length:Int)
 (have hka:k<(l).length:=by omega);(have w1:=Xi hka (hl));(have i1:=Ja k)
 cases he:(λx=>decide (x.at'=r)) (l.getD k Jd)
 ·have he0:=he;simp only at he;simp only[go_sem,Zh,h];simp only[go_sem,Zy hka,h,i1,fld,Zr,he,w1];exact⟨⟨k+1,by(try simp only);omega,Zm hI he0⟩,by show(l).length-(k+1)<(l).length-k;omega,⟨rfl,(Fc4 rfl rfl rfl rfl),(fcs ⟨rfl,rfl⟩ fnl),fnl⟩⟩
 have hx:=Xz (p:=λx=>decide (x.at'=r)) hka hI he;simp only at he;simp only[go_sem,Zh,h];simp only[go_sem,Zy hka,h,i1,fld,Zr,he,hx];have hx:=We (p:=λx=>decide (x.at'=r)) (d:=Jd) (l:=l) (λj hj=>hI j (by omega));simp only[go_sem,Zh,h,hx]
theorem F4 (l:List Fd) (r:Rf) (hl:l.length<=maxLen):Pp 175 [Zh l,ref r] (.int .i64 (idx (λx=>decide (x.at'=r)) l)):=by
 refine ZM func175 rfl ntmps175 results175 ?_;simp only[go_sem,Zh,ref];refine Zs (ι:= { x:Nat // x<=(l).length/\(∀j,j<x->(λx=>decide (x.at'=r)) (l.getD j Jd)=Hf) }) 20 (λx=> [(0,Zh l),(3,.ptr 3 0),(5,.int .i64 (x.1:Int))]) (λx=> [(3,[.int .i64 r.sc,.str r.gr,.str r.nm],Hf)]) (λx=> []) (λx=>(l).length-x.1) ⟨0,Jg _,λj hj=>absurd hj (Jh j)⟩ ⟨rfl,(Fc3 rfl rfl rfl),(fcs ⟨rfl,rfl⟩ fnl),fnl⟩ (λx=>⟨(Fc3 rfl rfl rfl),(fcs rfl fnl)⟩) (λx=> ?_);obtain⟨k,hk,hI⟩:=x;simp only at hk hI ⊢;by_cases h:(k:Int)<(l.length:Int)
 (have hka:k<(l).length:=by omega);(have w1:=Xi hka (hl));(have i1:=Ja k)
 cases he:(λx=>decide (x.at'=r)) (l.getD k Jd)
 ·have he0:=he;simp only at he;simp only[go_sem,Zh,h];refine vDq ?_;simp only[go_sem,Zy hka,h,i1,fld,Zr,he,w1];exact⟨⟨k+1,by(try simp only);omega,Zm hI he0⟩,by show(l).length-(k+1)<(l).length-k;omega,⟨rfl,(Fc3 rfl rfl rfl),(fcs ⟨rfl,rfl⟩ fnl),fnl⟩⟩
 have hx:=Xz (p:=λx=>decide (x.at'=r)) hka hI he;simp only at he;simp only[go_sem,Zh,h];refine vDq ?_;simp only[go_sem,Zy hka,h,i1,fld,Zr,he,hx];have hx:=We (p:=λx=>decide (x.at'=r)) (d:=Jd) (l:=l) (λj hj=>hI j (by omega));simp only[go_sem,Zh,h,hx]
theorem GB (l:List Eg) (t:Tg) (hl:l.length<=maxLen):Pp 61 [egs l,tg t] (.int .i64 (idx (λx=>decide (x.id=t)) l)):=by
 refine ZM func61 rfl ntmps61 results61 ?_;simp only[go_sem,egs,tg];refine Zs (ι:= { x:Nat // x<=(l).length/\(∀j,j<x->(λx=>decide (x.id=t)) (l.getD j Jd)=Hf) }) 20 (λx=> [(0,egs l),(3,.ptr 3 0),(5,.int .i64 (x.1:Int))]) (λx=> [(3,[.int .i64 t.r,.int .i64 t.n],Hf)]) (λx=> []) (λx=>(l).length-x.1) ⟨0,Jg _,λj hj=>absurd hj (Jh j)⟩ ⟨rfl,(Fc3 rfl rfl rfl),(fcs ⟨rfl,rfl⟩ fnl),fnl⟩ (λx=>⟨(Fc3 rfl rfl rfl),(fcs rfl fnl)⟩) (λx=> ?_);obtain⟨k,hk,hI⟩:=x;simp only at hk hI ⊢;by_cases h:(k:Int)<(l.length:Int)
 (have hka:k<(l).length:=by omega);(have w1:=Xi hka (hl));(have i1:=Ja k)
 cases he:(λx=>decide (x.id=t)) (l.getD k Jd)
 ·have he0:=he;simp only at he;simp only[go_sem,egs,h];refine vDq ?_;simp only[go_sem,XW hka,h,i1,eg,Z4,he,w1];exact⟨⟨k+1,by(try simp only);omega,Zm hI he0⟩,by show(l).length-(k+1)<(l).length-k;omega,⟨rfl,(Fc3 rfl rfl rfl),(fcs ⟨rfl,rfl⟩ fnl),fnl⟩⟩
 have hx:=Xz (p:=λx=>decide (x.id=t)) hka hI he;simp only at he;simp only[go_sem,egs,h];refine vDq ?_;simp only[go_sem,XW hka,h,i1,eg,Z4,he,hx];have hx:=We (p:=λx=>decide (x.id=t)) (d:=Jd) (l:=l) (λj hj=>hI j (by omega));simp only[go_sem,egs,h,hx]
theorem Zcw (l:List Tg) (t:Tg) (hl:l.length<=maxLen):Pp 138 [tgs l,tg t] (.int .i64 (idx (λx=>decide (x=t)) l)):=by
 refine ZM func138 rfl ntmps138 results138 ?_;simp only[go_sem,tgs,tg];refine Zs (ι:= { x:Nat // x<=(l).length/\(∀j,j<x->(λx=>decide (x=t)) (l.getD j Jd)=Hf) }) 19 (λx=> [(0,tgs l),(3,.ptr 3 0),(5,.int .i64 (x.1:Int))]) (λx=> [(3,[.int .i64 t.r,.int .i64 t.n],Hf)]) (λx=> []) (λx=>(l).length-x.1) ⟨0,Jg _,λj hj=>absurd hj (Jh j)⟩ ⟨rfl,(Fc3 rfl rfl rfl),(fcs ⟨rfl,rfl⟩ fnl),fnl⟩ (λx=>⟨(Fc3 rfl rfl rfl),(fcs rfl fnl)⟩) (λx=> ?_);obtain⟨k,hk,hI⟩:=x;simp only at hk hI ⊢;by_cases h:(k:Int)<(l.length:Int)
 (have hka:k<(l).length:=by omega);(have w1:=Xi hka (hl));(have i1:=Ja k)
 cases he:(λx=>decide (x=t)) (l.getD k Jd)
 ·have he0:=he;simp only at he;simp only[go_sem,tgs,h];refine vDq ?_;simp only[go_sem,Z7 hka,h,i1,tg,Z4,he,w1];exact⟨⟨k+1,by(try simp only);omega,Zm hI he0⟩,by show(l).length-(k+1)<(l).length-k;omega,⟨rfl,(Fc3 rfl rfl rfl),(fcs ⟨rfl,rfl⟩ fnl),fnl⟩⟩
 have hx:=Xz (p:=λx=>decide (x=t)) hka hI he;simp only at he;simp only[go_sem,tgs,h];refine vDq ?_;simp only[go_sem,Z7 hka,h,i1,tg,Z4,he,hx];have hx:=We (p:=λx=>decide (x=t)) (d:=Jd) (l:=l) (λj hj=>hI j (by omega));simp only[go_sem,tgs,h,hx]
open Go.PL
theorem Zd4 (f:Fd):(fld f).dids= []:=by simp only[fld,Jt,Jj,WF,Je]
theorem ZrT {α:Type} (p:α->Bool) (l:List α):decide ((0:Int)<=idx p l)=l.any p:=by
 unfold idx;cases h:l.findIdx? p with
 |none=>
  have:l.any p=false:=by
   rw[J4];intro x hx;have:=JB.1 h x hx;simp[this]
  rw[this];rfl
 |some i=>
  rw[Jp]at h;obtain⟨hi,hp,_⟩:=h;have:l.any p=true:=JR.2 ⟨_,Ko hi,hp⟩;rw[this];exact decide_eq_true (show(0:Int)<=(i:Int)by omega)
theorem Zpo (l:List Str) (s:Str):l.any (λx=>s==x)=l.any (· == s):=by
 congr 1;funext x;rw[Jf];simp only[beq_iff_eq];exact eq_comm
theorem Ya {n b:Nat} (hn:n<=1000000) (hb:b<=1000):Zkd n b:=Yw (by omega) hb
theorem WC (f:Fd) (hf:f.cases'.length<=1000000):Pp 112 [fld f] (fld f):=by
 have hr:=Ya hf (show 16<=1000 by omega);refine Zx func112 rfl ntmps112 results112 (Zd4 _) ?_;simp only[go_sem,fld,ZZ,Yz,hr]
theorem Ze0 (a b:Rf):Pp 170 [ref a,ref b] (.bool (Va a b)):=by
 refine ZM func170 rfl ntmps170 results170 ?_;simp only[go_sem,ref];repeat' ((first|(first|apply ZC|apply ZB|apply ZO)<;>intro h|refine vDq ?_)<;>first|simp only[go_sem,h]|simp only[go_sem]|skip)
 all_goals (simp_all[Va])
theorem S4 (l:List Str) (s:Str) (hl:l.length<=maxLen):Pp 190 [Yo l,.str s] (.bool (l.any (· == s))):=by
 have hI:=ZgX l s hl;refine ZM func190 rfl ntmps190 results190 ?_;simp only[go_sem,Yo];refine vc1 hI ?_;simp only[go_sem,ZrT,Zpo]
def GN (l:List Str):Bool:=decide (1<=l.length/\l.length<=6)&&ZaM l
theorem ZjS (l:List Str):Pp 189 [Yo l] (.bool (GN l)):=by
 by_cases h1:(l.length:Int)<1;have hx:GN l=false:=by simp only[GN,show ¬(1<=l.length/\l.length<=6)by omega,decide_false,Jc]
 refine ZM func189 rfl ntmps189 results189 ?_;simp only[go_sem,Yo,h1,hx];by_cases h2:(6:Int)<(l.length:Int);have hx:GN l=false:=by simp only[GN,show ¬(1<=l.length/\l.length<=6)by omega,decide_false,Jc]
 refine ZM func189 rfl ntmps189 results189 ?_;simp only[go_sem,Yo,h1,h2,hx];have hm:l.length<=maxLen:=by rw[Zb];omega
 have hx:GN l=ZaM l:=by simp only[GN,show(1<=l.length/\l.length<=6)by omega,and_self,decide_true,Ji]
 rw[hx];refine ZM func189 rfl ntmps189 results189 ?_;simp only[go_sem,Yo,h1,h2];refine Zs (ι:= { x:Nat // x<=(l).length/\(∀j,j<x->UP l j=Ht) }) 31 (λx=> [(0,Yo l),(13,Yo l),(14,.int .i64 (l.length:Int)),(15,.int .i64 (x.1:Int))]) (λx=> []) (λx=> []) (λx=>(l).length-x.1) ⟨0,Jg _,λj hj=>absurd hj (Jh j)⟩ ⟨rfl,(Fc4 rfl rfl rfl rfl),fnl,fnl⟩ (λx=>⟨(Fc4 rfl rfl rfl rfl),fnl⟩) (λx=> ?_);obtain⟨k,hk,hI⟩:=x;simp only at hk hI ⊢;by_cases h:(k:Int)<(l.length:Int)
 (have hka:k<(l).length:=by omega);(have w1:=Xi hka (hm));(have i1:=Ja k)
 have i2:(k:Int)<=(l.length:Int):=by omega
 have hN:=Xv (l.getD k []);have hT:(l.take k).length<=maxLen:=by rw[Jo];omega
 have hH:=S4 (l.take k) (l.getD k []) hT;cases hn:Yj (l.getD k []);rw[hn]at hN;have hz:=Ur hka (by simp only[UP,hn,Jc]);simp only[go_sem,Yo,h,i1,ZQ hka];refine vc1 hN ?_;simp only[go_sem,hz];rw[hn]at hN;cases hh:(l.take k).any (· == l.getD k [])
 ·rw[hh]at hH;have ok:UP l k=true:=by simp only[UP,hn,hh,JF,Jm]
  simp only[go_sem,Yo,h,i1,ZQ hka];refine vc1 hN ?_;simp only[go_sem,i1,i2,ZZ,cut,JH,Zaj];refine vc1 hH ?_;simp only[go_sem,w1];exact⟨⟨k+1,by(try simp only);omega,Zm hI ok⟩,by show(l).length-(k+1)<(l).length-k;omega,⟨rfl,(Fc4 rfl rfl rfl rfl),fnl,fnl⟩⟩
 rw[hh]at hH;have hz:=Ur hka (by simp only[UP,hn,hh,JU,Jw]);simp only[go_sem,Yo,h,i1,ZQ hka];refine vc1 hN ?_;simp only[go_sem,i1,i2,ZZ,cut,JH,Zaj];refine vc1 hH ?_;simp only[go_sem,hz];have hz:=ZaN (l:=l) (λj hj=>hI j (by omega));simp only[go_sem,Yo,h,hz]
theorem Zkl {l:List Str} {s:Str} (h:l.any (· == s)=Ht):1<=l.length:=by
 cases l with
 |nil=>simp at h
 |cons a l=>simp
theorem UI (f:Fd) (hl:f.cases'.length<=maxLen):Pp 150 [fld f] (.bool (Z1 f)):=by
 have hP:=DE f.at';have hT:=GE f.df;have hC:=ZjS f.cases';have hK:=S4 f.cases' f.df hl;have key:Z1 f=(X6 f.at'&&(if f.kind=1 then(f.df== [])&&(((f.cases'.length:Int)==0)&&(decide (1<=f.worth)&&decide (f.worth<=1048576)))
   else if f.kind=2 then decide ((f.df.length:Int)<=40)&&(((f.cases'.length:Int)==0)&&(f.worth==0))
   else if f.kind=3 then GN f.cases'&&(f.cases'.any (· == f.df)&&(f.worth==0))
   else if f.kind=4 then(f.df== [])&&(((f.cases'.length:Int)==0)&&(f.worth==0))else Hf)):=by
  unfold Z1;congr 1
  by_cases h1:f.kind=1
  ·rw[if_pos h1,if_pos h1,Jf];simp;omega
  ·rw[if_neg h1,if_neg h1]
   by_cases h3:f.kind=3
   ·rw[if_pos h3,if_neg (by omega),if_pos h3];unfold Zch GN;cases ha:f.cases'.any (· == f.df)
    ·simp
    ·have:=Zkl ha;rw[Jf];simp;constructor
     ·rintro ⟨a,b,c⟩;exact⟨⟨⟨this,by omega⟩,b⟩,a⟩
     ·rintro ⟨⟨⟨a,b⟩,c⟩,d⟩;exact⟨d,c,by omega⟩
   ·rw[if_neg h3,if_neg h3];unfold Zih
    by_cases h2:f.kind=2
    ·rw[if_pos h2,Jf];simp[h2];constructor<;>rintro ⟨a,b,c⟩<;>refine⟨?_,?_,?_⟩<;>first|assumption|omega
    ·rw[if_neg h2]
     by_cases h4:f.kind=4
     ·rw[if_pos h4,Jf];simp[h4];constructor
      ·rintro ⟨a,b,c⟩;exact⟨c,b,a⟩
      ·rintro ⟨a,b,c⟩;exact⟨c,b,a⟩
     ·rw[if_neg h4];simp[h2,h4]
 rw[key];cases hp:X6 f.at';rw[hp]at hP;refine ZM func150 rfl ntmps150 results150 ?_;simp only[go_sem,fld];refine vc1 hP ?_;simp only[go_sem,Jc];rw[hp]at hP;rw[Ji];by_cases h1:f.kind=1
 ·have k1:(f.kind==1)=true:=by rw[h1];rfl
  rw[if_pos h1];refine ZM func150 rfl ntmps150 results150 ?_;simp only[go_sem,fld];refine vc1 hP ?_;simp only[go_sem,k1];repeat' ((first|(first|apply ZC|apply ZB|apply ZO)<;>intro h|refine vDq ?_)<;>first|simp only[go_sem,h]|simp only[go_sem]|skip)
  all_goals simp_all
 have k1:(f.kind==1)=false:=beq_eq_false_iff_ne.2 h1;rw[if_neg h1];by_cases h2:f.kind=2
 ·have k2:(f.kind==2)=true:=by rw[h2];rfl
  rw[if_pos h2];refine ZM func150 rfl ntmps150 results150 ?_;simp only[go_sem,fld];refine vc1 hP ?_;simp only[go_sem,k1,k2];refine vc1 hT ?_;simp only[go_sem,k1,k2];repeat' ((first|(first|apply ZC|apply ZB|apply ZO)<;>intro h|refine vDq ?_)<;>first|simp only[go_sem,h]|simp only[go_sem]|skip)
  all_goals simp_all
 have k2:(f.kind==2)=false:=beq_eq_false_iff_ne.2 h2;rw[if_neg h2];by_cases h3:f.kind=3
 ·have k3:(f.kind==3)=true:=by rw[h3];rfl
  rw[if_pos h3];refine ZM func150 rfl ntmps150 results150 ?_;simp only[go_sem,fld];refine vc1 hP ?_;simp only[go_sem,k1,k2,k3];refine vc1 hC ?_;simp only[go_sem,k1,k2,k3];repeat' ((first|(first|apply ZC|apply ZB|apply ZO)<;>intro h|refine vc1 hK ?_|refine vDq ?_)<;>first|simp only[go_sem,h]|simp only[go_sem]|skip)
  all_goals simp_all
 have k3:(f.kind==3)=false:=beq_eq_false_iff_ne.2 h3;rw[if_neg h3];by_cases h4:f.kind=4
 ·have k4:(f.kind==4)=true:=by rw[h4];rfl
  rw[if_pos h4];refine ZM func150 rfl ntmps150 results150 ?_;simp only[go_sem,fld];refine vc1 hP ?_;simp only[go_sem,k1,k2,k3,k4];repeat' ((first|(first|apply ZC|apply ZB|apply ZO)<;>intro h|refine vDq ?_)<;>first|simp only[go_sem,h]|simp only[go_sem]|skip)
  all_goals simp_all
 have k4:(f.kind==4)=false:=beq_eq_false_iff_ne.2 h4;rw[if_neg h4];refine ZM func150 rfl ntmps150 results150 ?_;simp only[go_sem,fld];refine vc1 hP ?_;simp only[go_sem,k1,k2,k3,k4]
theorem DC (a b:Fd) (ha:a.cases'.length<=maxLen) (hb:b.cases'.length<=maxLen):Pp 155 [fld a,fld b] (.bool (decide (a=b))):=by
 have hE:=Zcp a.cases' b.cases' ha hb;refine ZM func155 rfl ntmps155 results155 ?_;simp only[go_sem,fld,Zr];repeat' ((first|(first|apply ZC|apply ZB|apply ZO)<;>intro h|refine vc1 hE ?_|refine vDq ?_)<;>first|simp only[go_sem,h,Zr]|simp only[go_sem,Zr]|skip)
 all_goals ((cases a;cases b;simp_all)<;>rfl)
theorem ZaC (a b:List Str) (ha:a.length<=maxLen) (hb:b.length<=maxLen):Pp 188 [Yo a,Yo b] (.bool (decide (a=b))):=by
 have hE:=DG a b ha hb;refine ZM func188 rfl ntmps188 results188 ?_;simp only[go_sem,Yo];refine vc1 hE ?_;simp only[go_sem]
theorem S6 (a b:Fd) (ha:a.cases'.length<=maxLen) (hb:b.cases'.length<=maxLen):Pp 147 [fld a,fld b] (.bool (decide (a=b))):=by
 have hE:=ZaC a.cases' b.cases' ha hb;refine ZM func147 rfl ntmps147 results147 ?_;simp only[go_sem,fld,Zr];repeat' ((first|(first|apply ZC|apply ZB|apply ZO)<;>intro h|refine vc1 hE ?_|refine vDq ?_)<;>first|simp only[go_sem,h,Zr]|simp only[go_sem,Zr]|skip)
 all_goals ((cases a;cases b;simp_all)<;>rfl)
open Go.PL
def Xj (l:List Pr) (s:Str):Str×Bool:=match l.find? (λp=>p.fr'==s)with|some p=>(p.to',Ht)|none=>([],Hf)
def Zb0 (x:Str×Bool):PV:= .tup [.str x.1,.bool x.2]
theorem ZcS {α:Type} {p:α->Bool} {l:List α} {k:Nat} {d:α} (hk:k<l.length) (h:∀j,j<k->p (l.getD j d)=Hf) (hp:p (l.getD k d)=Ht):l.find? p=Hs (l.getD k d):=by
 have h1:=Xz hk h hp;rw[JT];refine⟨hp,k,hk,by rw[Jb,Jk hk];rfl,λj hj=> ?_⟩;have:=h j hj;rw[Jb,Jk (by omega)]at this;simpa using this
theorem ZfG {α:Type} {p:α->Bool} {l:List α} {d:α} (h:∀j,j<l.length->p (l.getD j d)=Hf):l.find? p=none:=by
 rw[JZ];intro x hx;obtain⟨j,hj,rfl⟩:=Jl hx;have:=h j hj;rw[Jb,Jk hj]at this;simpa using this
theorem Gy (l:List Pr) (s:Str) (hl:l.length<=maxLen):Pp 192 [prs l,.str s] (Zb0 (Xj l s)):=by
 refine ZM func192 rfl ntmps192 results192 ?_;simp only[go_sem,prs];refine Zs (ι:= { x:Nat // x<=(l).length/\(∀j,j<x->((l.getD j Jd).fr'==s)=Hf) }) 21 (λx=> [(1,.str s),(8,prs l),(9,.int .i64 (l.length:Int)),(10,.int .i64 (x.1:Int))]) (λx=> []) (λx=> []) (λx=>(l).length-x.1) ⟨0,Jg _,λj hj=>absurd hj (Jh j)⟩ ⟨rfl,(Fc4 rfl rfl rfl rfl),fnl,fnl⟩ (λx=>⟨(Fc4 rfl rfl rfl rfl),fnl⟩) (λx=> ?_);obtain⟨k,hk,hI⟩:=x;simp only at hk hI ⊢;by_cases h:(k:Int)<(l.length:Int)
 (have hka:k<(l).length:=by omega);(have w1:=Xi hka (hl));(have i1:=Ja k)
 cases he:((l.getD k Jd).fr'==s)
 ·simp only[go_sem,prs,h,Yp hka,pr,i1,he,w1];exact⟨⟨k+1,by(try simp only);omega,Zm hI he⟩,by show(l).length-(k+1)<(l).length-k;omega,⟨rfl,(Fc4 rfl rfl rfl rfl),fnl,fnl⟩⟩
 have hx:=ZcS (p:=λp:Pr=>p.fr'==s) hka hI he;simp only[go_sem,prs,h,Yp hka,pr,i1,he,Zb0,Xj,hx];have hx:=ZfG (p:=λp:Pr=>p.fr'==s) (d:=Jd) (l:=l) (λj hj=>hI j (by omega));simp only[go_sem,prs,h,Zb0,Xj,hx]
theorem DF (l:List Pr) (s:Str) (hl:l.length<=maxLen):Pp 145 [prs l,.str s] (Zb0 (Xj l s)):=by
 refine ZM func145 rfl ntmps145 results145 ?_;simp only[go_sem,prs];refine Zs (ι:= { x:Nat // x<=(l).length/\(∀j,j<x->((l.getD j Jd).fr'==s)=Hf) }) 25 (λx=> [(0,prs l),(1,.str s),(6,.int .i64 (x.1:Int))]) (λx=> []) (λx=> []) (λx=>(l).length-x.1) ⟨0,Jg _,λj hj=>absurd hj (Jh j)⟩ ⟨rfl,(Fc3 rfl rfl rfl),fnl,fnl⟩ (λx=>⟨(Fc3 rfl rfl rfl),fnl⟩) (λx=> ?_);obtain⟨k,hk,hI⟩:=x;simp only at hk hI ⊢;by_cases h:(k:Int)<(l.length:Int)
 (have hka:k<(l).length:=by omega);(have w1:=Xi hka (hl));(have i1:=Ja k)
 cases he:((l.getD k Jd).fr'==s)
 ·simp only[go_sem,prs,h,Yp hka,pr,i1,he,w1];exact⟨⟨k+1,by(try simp only);omega,Zm hI he⟩,by show(l).length-(k+1)<(l).length-k;omega,⟨rfl,(Fc3 rfl rfl rfl),fnl,fnl⟩⟩
 have hx:=ZcS (p:=λp:Pr=>p.fr'==s) hka hI he;simp only[go_sem,prs,h,Yp hka,pr,i1,he,Zb0,Xj,hx];have hx:=ZfG (p:=λp:Pr=>p.fr'==s) (d:=Jd) (l:=l) (λj hj=>hI j (by omega));simp only[go_sem,prs,h,Zb0,Xj,hx]
theorem Zjc {α β:Type} [Inhabited α] (f:α->β) {l:List α} {k:Nat} (h:k<l.length):(l.take (k+1)).map f=(l.take k).map f++ [f (l.getD k Jd)]:=by
 rw[Z0 h (d:=Jd),List.map_append];rfl
theorem Vg {α:Type} (l:List α) (k:Nat):(l.take k).length<=l.length:=by rw[Jo];omega
def Yt (l:List Pr):List Str:=l.map (·.fr')
theorem Zc1 (l:List Pr) (hl:l.length<=1000000):Pp 196 [prs l] (Yo (Yt l)):=by
 have hm:l.length<=maxLen:=by rw[Zb];omega
 have hr0:=Ya hl (show 16<=1000 by omega);refine Zx func196 rfl ntmps196 results196 (Uj _) ?_;simp only[go_sem,prs,hr0,hm];refine⟨by omega,?_⟩;refine ZL 3 8 19 0 1 9 [] rfl rfl rfl ?_;refine Zs (ι:= { x:Nat×(List Str) // x.1<=(l).length/\(x.2=(l.take x.1).map (·.fr')) }) 22 (λx=> [(3,.sl (.row 19) (x.1.2.map .str)),(9,prs l),(10,.int .i64 (l.length:Int)),(11,.int .i64 (x.1.1:Int))]) (λx=> []) (λx=> [(19,.live (x.1.2.length) (1) (9))]) (λx=>(l).length-x.1.1) ⟨(0,[]),Jg _,rfl⟩ ⟨rfl,(Fc4 rfl rfl rfl rfl),fnl,(fcs rfl fnl)⟩ (λx=>⟨(Fc4 (by simp[JE,ZX]) rfl rfl rfl),fnl⟩) (λx=> ?_);obtain⟨⟨k,acc⟩,hk,hI⟩:=x;simp only at hk hI ⊢;have hacc:acc.length<=l.length:=by rw[hI,JC];exact Vg _ _
 by_cases h:(k:Int)<(l.length:Int)
 ·(have hka:k<(l).length:=by omega);(have w1:=Xi hka (hm));(have i1:=Ja k)
  have hr:=Ya (show acc.length+1<=1000000 by rw[hI,JC,Jo];omega) (show 16<=1000 by omega);simp only[go_sem,prs,h,Yp hka,pr,i1,ZZ,hr,w1];exact⟨⟨(k+1,acc++ [(l.getD k Jd).fr']),by(try simp only);omega,by simp only;rw[Zjc _ hka,hI]⟩,by show(l).length-(k+1)<(l).length-k;omega,⟨rfl,(Fc4 (by simp[upd]) rfl rfl rfl),fnl,(fcs (by simp[upd]) fnl)⟩⟩
 obtain rfl:k=l.length:=by omega
 rw[JG]at hI;subst hI;simp only[go_sem,prs,h,Yo,Yt]
theorem Tc (l:List Pr) (hl:l.length<=1000000):Pp 180 [prs l] (Yo (Yt l)):=by
 have hm:l.length<=maxLen:=by rw[Zb];omega
 refine Zx func180 rfl ntmps180 results180 (Uj _) ?_;simp only[go_sem,prs];refine ZL 3 5 19 0 1 9 [] rfl rfl rfl ?_;refine Zs (ι:= { x:Nat×(List Str) // x.1<=(l).length/\(x.2=(l.take x.1).map (·.fr')) }) 21 (λx=> [(0,prs l),(3,.sl (.row 19) (x.1.2.map .str)),(4,.int .i64 (x.1.1:Int))]) (λx=> []) (λx=> [(19,.live (x.1.2.length) (1) (9))]) (λx=>(l).length-x.1.1) ⟨(0,[]),Jg _,rfl⟩ ⟨rfl,(Fc3 rfl rfl rfl),fnl,(fcs rfl fnl)⟩ (λx=>⟨(Fc3 rfl (by simp[JE,ZX]) rfl),fnl⟩) (λx=> ?_);obtain⟨⟨k,acc⟩,hk,hI⟩:=x;simp only at hk hI ⊢;have hacc:acc.length<=l.length:=by rw[hI,JC];exact Vg _ _
 by_cases h:(k:Int)<(l.length:Int)
 ·(have hka:k<(l).length:=by omega);(have w1:=Xi hka (hm));(have i1:=Ja k)
  have hr:=Ya (show acc.length+1<=1000000 by rw[hI,JC,Jo];omega) (show 16<=1000 by omega);simp only[go_sem,prs,h,Yp hka,pr,i1,ZZ,hr,w1];exact⟨⟨(k+1,acc++ [(l.getD k Jd).fr']),by(try simp only);omega,by simp only;rw[Zjc _ hka,hI]⟩,by show(l).length-(k+1)<(l).length-k;omega,⟨rfl,(Fc3 rfl (by simp[upd]) rfl),fnl,(fcs (by simp[upd]) fnl)⟩⟩
 obtain rfl:k=l.length:=by omega
 rw[JG]at hI;subst hI;simp only[go_sem,prs,h,Yo,Yt]
theorem Zfc (l:List Fd) (hl:l.length<=100000) (hc:∀f∈l,f.cases'.length<=1000000):Pp 75 [Zh l] (Zh l):=by
 have hm:l.length<=maxLen:=by rw[Zb];omega
 have hr0:=Ya (show l.length<=1000000 by omega) (show 96<=1000 by omega);refine Zx func75 rfl ntmps75 results75 (Vp _) ?_;simp only[go_sem,Zh,hr0,hm];refine⟨by omega,?_⟩;refine ZL 3 8 19 0 7 73 [] rfl rfl rfl ?_;refine Zs (ι:= { x:Nat×(List Fd) // x.1<=(l).length/\(x.2=l.take x.1) }) 22 (λx=> [(3,.sl (.row 19) (x.1.2.map fld)),(9,Zh l),(10,.int .i64 (l.length:Int)),(11,.int .i64 (x.1.1:Int))]) (λx=> []) (λx=> [(19,.live (x.1.2.length) (7) (73))]) (λx=>(l).length-x.1.1) ⟨(0,[]),Jg _,rfl⟩ ⟨rfl,(Fc4 rfl rfl rfl rfl),fnl,(fcs rfl fnl)⟩ (λx=>⟨(Fc4 (by simp[JE,ZX]) rfl rfl rfl),fnl⟩) (λx=> ?_);obtain⟨⟨k,acc⟩,hk,hI⟩:=x;simp only at hk hI ⊢;have hacc:acc.length<=l.length:=by rw[hI];exact Vg _ _
 by_cases h:(k:Int)<(l.length:Int)
 ·(have hka:k<(l).length:=by omega);(have w1:=Xi hka (hm));(have i1:=Ja k)
  have hr:=Ya (show acc.length+1<=1000000 by omega) (show 96<=1000 by omega);have hO:=WC (l.getD k Jd) (hc _ (Zp hka));simp only[go_sem,Zh,h,Zy hka,fld,i1];refine vc2 hO ?_;simp only[go_sem,fld,YP,hr,w1];exact⟨⟨(k+1,acc++ [l.getD k Jd]),by(try simp only);omega,by simp only;rw[Z0 hka (d:=Jd),hI]⟩,by show(l).length-(k+1)<(l).length-k;omega,⟨rfl,(Fc4 (by simp[upd,fld]) rfl rfl rfl),fnl,(fcs (by simp[upd]) fnl)⟩⟩
 obtain rfl:k=l.length:=by omega
 rw[JG]at hI;subst hI;simp only[go_sem,h,Zh]
open Go.PL
theorem DI (l:List Fd) (sc:Int) (hl:l.length<=100000) (hc:∀f∈l,f.cases'.length<=1000000):Pp 71 [Zh l,.int .i64 sc] (Zh (ZY l sc)):=by
 have hm:l.length<=maxLen:=by rw[Zb];omega
 refine Zx func71 rfl ntmps71 results71 (Vp _) ?_;simp only[go_sem,Zh];refine Y8 5 23 7 73 rfl rfl ?_;refine Zs (ι:= { x:Nat×(List Fd) // x.1<=(l).length/\(x.2=ZY (l.take x.1) sc) }) 26 (λx=> [(1,.int .i64 sc),(5,.sl (.row 23) (x.1.2.map fld)),(8,Zh l),(9,.int .i64 (l.length:Int)),(10,.int .i64 (x.1.1:Int))]) (λx=> []) (λx=> [(23,.live (x.1.2.length) (7) (73))]) (λx=>(l).length-x.1.1) ⟨(0,[]),Jg _,rfl⟩ ⟨rfl,(Fc5 rfl rfl rfl rfl rfl),fnl,(fcs rfl fnl)⟩ (λx=>⟨(Fc5 rfl (by simp[JE,ZX]) rfl rfl rfl),fnl⟩) (λx=> ?_);obtain⟨⟨k,acc⟩,hk,hI⟩:=x;simp only at hk hI ⊢;have hacc:acc.length<=l.length:=by
  rw[hI];exact Kw (Kd _ _) (Vg _ _)
 by_cases h:(k:Int)<(l.length:Int)
 (have hka:k<(l).length:=by omega);(have w1:=Xi hka (hm));(have i1:=Ja k)
 have hr:=Ya (show acc.length+1<=1000000 by omega) (show 96<=1000 by omega);have hO:=WC (l.getD k Jd) (hc _ (Zp hka));cases he:((l.getD k Jd).at'.sc==sc)
 ·have hs:ZY (l.take (k+1)) sc=ZY (l.take k) sc:=by
   rw[Z0 hka (d:=Jd)];simp only[ZY,JO,JS,he,JA,if_false,JX,Je]
  simp only[go_sem,Zh,h,Zy hka,fld,i1,he,w1];exact⟨⟨(k+1,acc),by(try simp only);omega,by simp only;rw[hs,hI]⟩,by show(l).length-(k+1)<(l).length-k;omega,⟨rfl,(Fc5 rfl (by simp[upd,fld]) rfl rfl rfl),fnl,(fcs (by simp[upd]) fnl)⟩⟩
 ·have hs:ZY (l.take (k+1)) sc=ZY (l.take k) sc++ [l.getD k Jd]:=by
   rw[Z0 hka (d:=Jd)];simp only[ZY,JO,JS,he,if_true,JX]
  simp only[go_sem,Zh,h,Zy hka,fld,i1,he];refine vc2 hO ?_;simp only[go_sem,fld,YP,hr,w1];exact⟨⟨(k+1,acc++ [l.getD k Jd]),by(try simp only);omega,by simp only;rw[hs,hI]⟩,by show(l).length-(k+1)<(l).length-k;omega,⟨rfl,(Fc5 rfl (by simp[upd,fld]) rfl rfl rfl),fnl,(fcs (by simp[upd]) fnl)⟩⟩
 obtain rfl:k=l.length:=by omega
 rw[JG]at hI;subst hI;simp only[go_sem,h,Zh]
def atF (r:Rf):Fd->Bool:=λx=>decide (x.at'=r)
def ZD (l:List Fd) (r:Rf):Fd×Int:=if idx (atF r) l<0 then(Jd,6)else(l.getD (idx (atF r) l).toNat Jd,0)
def Zca (x:Fd×Int):PV:= .tup [fld x.1,.int .i64 x.2]
def ZP (x:List Fd×Int):PV:= .tup [Zh x.1,.int .i64 x.2]
theorem ZfL (x:Fd×Int):(Zca x).dids= []:=by simp only[Zca,Jt,Jj,Zd4,Je]
theorem ZN (x:List Fd×Int):(ZP x).dids= []:=by simp only[ZP,Jt,Jj,Vp,Je]
theorem ZhE:fld Jd= .agg [.int .i64 0,.str [],.str [],.int .i64 0,.str [],.sl .no [],.int .i64 0]:=rfl
theorem UJ (l:List Fd) (r:Rf) (hl:l.length<=100000) (hc:∀f∈l,f.cases'.length<=1000000):Pp 193 [Zh l,ref r] (Zca (ZD l r)):=by
 have hm:l.length<=maxLen:=by rw[Zb];omega
 have hI:Pp 198 [Zh l,ref r] (.int .i64 (idx (atF r) l)):=DD l r hm;unfold ZD;rcases Y0 (atF r) l with h2|⟨k,hk,h2⟩;rw[h2]at hI ⊢;refine Zx func193 rfl ntmps193 results193 (ZfL _) ?_;simp only[go_sem,Zh,ref];refine vc2 hI ?_;simp only[go_sem,Zca,ZhE];have i1:=Ja k
 have i2:(k:Int)<(l.length:Int):=by omega
 have i3:¬(k:Int)<0:=by omega
 have hO:=WC (l.getD k Jd) (hc _ (Zp hk));rw[h2]at hI;rw[h2,if_neg i3];refine Zx func193 rfl ntmps193 results193 (ZfL _) ?_;simp only[go_sem,Zh,ref];refine vc2 hI ?_;simp only[go_sem,i1,i2,i3,Zy hk,fld];refine vc2 hO ?_;simp only[go_sem,Zca,fld]
theorem Te (l:List Fd) (hl:l.length<=maxLen) (hl':∀f∈l,f.cases'.length<=maxLen):Pp 121 [Zh l] (.bool (Z5 l)):=by
 by_cases h16:16<(l.length:Int);refine ZM func121 rfl ntmps121 results121 ?_;simp only[go_sem,Zh,h16,Z5,Jc];have hx:Z5 l=(Jr l.length).all (VI l):=by simp only[Z5,h16,decide_false,JF,Ji]
 rw[hx];refine ZM func121 rfl ntmps121 results121 ?_;simp only[go_sem,Zh,h16];refine Zs (ι:= { x:Nat // x<=(l).length/\(∀j,j<x->VI l j=Ht) }) 33 (λx=> [(0,Zh l),(8,Zh l),(9,.int .i64 (l.length:Int)),(10,.int .i64 (x.1:Int))]) (λx=> []) (λx=> []) (λx=>(l).length-x.1) ⟨0,Jg _,λj hj=>absurd hj (Jh j)⟩ ⟨rfl,(Fc4 rfl rfl rfl rfl),fnl,fnl⟩ (λx=>⟨(Fc4 rfl rfl rfl rfl),fnl⟩) (λx=> ?_);obtain⟨k,hk,hI⟩:=x;simp only at hk hI ⊢;by_cases h:(k:Int)<(l.length:Int)
 (have hka:k<(l).length:=by omega);(have w1:=Xi hka (hl));(have i1:=Ja k)
 have hR:=UI (l.getD k Jd) (hl' _ (Zp hka));cases hr:Z1 (l.getD k Jd);rw[hr]at hR;have hz:=ZU (p:=VI l) hka (by simp only[VI,hr,Jc]);simp only[go_sem,Zh,h,Zy hka,fld,i1];refine vc2 hR ?_;simp only[go_sem,hz];rw[hr]at hR;by_cases h0:0<(k:Int);have hk1:k-1<l.length:=by omega
 have w2:IntKind.i64.wrap ((k:Int)-1)=((k-1:Nat):Int):=by
  rw[Zb]at hl;rw[w64 (by omega)];omega
 have j1:(0:Int)<=((k-1:Nat):Int):=by omega
 have j2:((k-1:Nat):Int)<(l.length:Int):=by omega
 have hL:=Ze0 (l.getD (k-1) Jd).at' (l.getD k Jd).at';cases hb:Va (l.getD (k-1) Jd).at' (l.getD k Jd).at';rw[hb]at hL;have hz:=ZU (p:=VI l) hka (by simp only[VI,hb,decide_eq_false (show ¬k=0 by omega),Kj,Jw]);simp only[go_sem,Zh,h,Zy hka,fld,i1];refine vc2 hR ?_;simp only[go_sem];refine vDq ?_;simp only[go_sem,h0,w2,Zy hk1,Zy hka,fld,h,i1,j1,j2];refine vc1 hL ?_;simp only[go_sem,hz]
 ·rw[hb]at hL;have ok:VI l k=true:=by simp only[VI,hr,hb,Kb,Jm]
  simp only[go_sem,Zh,h,Zy hka,fld,i1];refine vc2 hR ?_;simp only[go_sem];refine vDq ?_;simp only[go_sem,h0,w2,Zy hk1,Zy hka,fld,h,i1,j1,j2];refine vc1 hL ?_;simp only[go_sem,w1];exact⟨⟨k+1,by(try simp only);omega,Zm hI ok⟩,by show(l).length-(k+1)<(l).length-k;omega,⟨rfl,(Fc4 rfl rfl rfl rfl),fnl,fnl⟩⟩
 ·have ok:VI l k=true:=by simp only[VI,hr,decide_eq_true (show k=0 by omega),JY,Jm]
  simp only[go_sem,Zh,h,Zy hka,fld,i1];refine vc2 hR ?_;simp only[go_sem];refine vDq ?_;simp only[go_sem,h0,w1];exact⟨⟨k+1,by(try simp only);omega,Zm hI ok⟩,by show(l).length-(k+1)<(l).length-k;omega,⟨rfl,(Fc4 rfl rfl rfl rfl),fnl,fnl⟩⟩
 have hz:=X7 (p:=VI l) (n:=l.length) (λj hj=>hI j (by omega));simp only[go_sem,Zh,h,hz]
theorem ZcO {α:Type} {l:List α} {k g:Nat} {d:α} (h:k<l.length):(l.take (k+1)).eraseIdx g=(l.take k).eraseIdx g++(if k=g then []else [l.getD k d]):=by
 have hlen:(l.take k).length=k:=by rw[Jo];omega
 rw[Z0 h (d:=d)];rcases Kk g k with h1|h1;rw[List.eraseIdx_append_of_lt_length (by omega),if_neg (by omega)];have e2:(l.take k).eraseIdx g=l.take k:=J2 (by omega);rw[List.eraseIdx_append_of_length_le (by omega),e2,hlen];by_cases e:k=g;subst e;simp;rw[if_neg e,J2 (by simp;omega)]
def YL (l:List Fd) (r:Rf):List Fd×Int:=if Z5 l=Hf then([],5)else if idx (atF r) l<0 then([],6)else(l.eraseIdx (idx (atF r) l).toNat,0)
theorem Zfe (l:List Fd) (r:Rf) (hl:l.length<=100000) (hc:∀f∈l,f.cases'.length<=1000000):Pp 159 [Zh l,ref r] (ZP (YL l r)):=by
 have hm:l.length<=maxLen:=by rw[Zb];omega
 have hR:=Te l hm (λf hf=>by have:=hc f hf;rw[Zb];omega);have hI:Pp 198 [Zh l,ref r] (.int .i64 (idx (atF r) l)):=DD l r hm;unfold YL;cases hr:Z5 l;rw[hr]at hR;refine Zx func159 rfl ntmps159 results159 (ZN _) ?_;simp only[go_sem,Zh,ref];refine vc2 hR ?_;simp only[go_sem,ZP,Zh];rw[hr]at hR;rcases Y0 (atF r) l with h2|⟨g,hg,h2⟩;rw[h2]at hI ⊢;refine Zx func159 rfl ntmps159 results159 (ZN _) ?_;simp only[go_sem,Zh,ref];refine vc2 hR ?_;simp only[go_sem,Zh];refine vc2 hI ?_;simp only[go_sem,ZP,Zh];have i3:¬(g:Int)<0:=by omega
 have w2:IntKind.i64.wrap ((l.length:Int)-1)=((l.length-1:Nat):Int):=by rw[w64 (by omega)];omega
 rw[h2]at hI;rw[h2,if_neg i3];simp only[Ki,if_false,JQ];refine Zx func159 rfl ntmps159 results159 (ZN _) ?_;simp only[go_sem,Zh,ref];refine vc2 hR ?_;simp only[go_sem,Zh];refine vc2 hI ?_;simp only[go_sem,Zh,i3,w2];refine⟨by omega,?_⟩;refine ZL 7 21 36 0 7 73 [] rfl rfl rfl ?_;refine Zs (ι:= { x:Nat×(List Fd) // x.1<=(l).length/\(x.2=(l.take x.1).eraseIdx g) }) 39 (λx=> [(6,.int .i64 (g:Int)),(7,.sl (.row 36) (x.1.2.map fld)),(22,Zh l),(23,.int .i64 (l.length:Int)),(24,.int .i64 (x.1.1:Int))]) (λx=> []) (λx=> [(36,.live (x.1.2.length) (7) (73))]) (λx=>(l).length-x.1.1) ⟨(0,[]),Jg _,rfl⟩ ⟨rfl,(Fc5 rfl rfl rfl rfl rfl),fnl,(fcs rfl fnl)⟩ (λx=>⟨(Fc5 rfl (by simp[JE,ZX]) rfl rfl rfl),fnl⟩) (λx=> ?_);obtain⟨⟨k,acc⟩,hk,hI⟩:=x;simp only at hk hI ⊢;have hacc:acc.length<=l.length:=by
  rw[hI];exact Kw (List.length_eraseIdx_le _ _) (Vg _ _)
 by_cases h:(k:Int)<(l.length:Int)
 (have hka:k<(l).length:=by omega);(have w1:=Xi hka (hm));(have i1:=Ja k)
 have hr:=Ya (show acc.length+1<=1000000 by omega) (show 96<=1000 by omega);have hO:=WC (l.getD k Jd) (hc _ (Zp hka));have hs:=ZcO (l:=l) (k:=k) (g:=g) (d:=Jd) hka;by_cases he:k=g
 ·have he':((k:Int) !=(g:Int))=false:=by rw[he];exact bne_self_eq_false _
  rw[if_pos he,Je]at hs;simp only[go_sem,Zh,h,Zy hka,fld,i1,he',w1];exact⟨⟨(k+1,acc),by(try simp only);omega,by simp only;rw[hs,hI]⟩,by show(l).length-(k+1)<(l).length-k;omega,⟨rfl,(Fc5 rfl (by simp[upd,fld]) rfl rfl rfl),fnl,(fcs (by simp[upd]) fnl)⟩⟩
 ·have he':((k:Int) !=(g:Int))=true:=bne_iff_ne.2 (by omega);rw[if_neg he]at hs;simp only[go_sem,Zh,h,Zy hka,fld,i1,he'];refine vc2 hO ?_;simp only[go_sem,fld,YP,hr,w1];exact⟨⟨(k+1,acc++ [l.getD k Jd]),by(try simp only);omega,by simp only;rw[hs,hI]⟩,by show(l).length-(k+1)<(l).length-k;omega,⟨rfl,(Fc5 rfl (by simp[upd,fld]) rfl rfl rfl),fnl,(fcs (by simp[upd]) fnl)⟩⟩
 obtain rfl:k=l.length:=by omega
 rw[JG]at hI;subst hI;simp only[go_sem,h,Zh,ZP]
open Go.PL
def ZkS (r:Rf):Fd->Bool:=λf=>Va f.at' r
def Zcc (l:List Fd) (f:Fd):List Fd:=l.takeWhile (ZkS f.at')++f::l.dropWhile (ZkS f.at')
def VG (l:List Fd) (f:Fd):List Fd×Int:=if Z5 l=Hf\/Z1 f=Hf then([],5)else if 0<=idx (atF f.at') l then([],7)else if 16<=(l.length:Int)then([],14)else(Zcc l f,0)
structure WA (l:List Fd) (f:Fd) where
 k:Nat
 acc:List Fd
 hk:k<=l.length
 h:acc++Zcc (l.drop k) f=Zcc l f
structure WB (l:List Fd) (f:Fd) where
 k:Nat
 acc:List Fd
 hk:k<=l.length
 h:acc++l.drop k=Zcc l f
theorem Xa {α:Type} {l:List α} {k:Nat} {d:α} (h:k<l.length):l.drop k=l.getD k d::l.drop (k+1):=by
 rw[Jb,Jk h];exact J3 h
theorem ZrW {l:List Fd} {f x:Fd} (h:Va x.at' f.at'=Ht):Zcc (x::l) f=x::Zcc l f:=by
 simp[Zcc,ZkS,h]
theorem ZrV {l:List Fd} {f x:Fd} (h:Va x.at' f.at'=Hf):Zcc (x::l) f=f::x::l:=by
 simp[Zcc,ZkS,h]
theorem Gl (l:List Fd) (f:Fd):(Zcc l f).length=l.length+1:=by
 unfold Zcc;have:=congrArg List.length (List.takeWhile_append_dropWhile (p:=ZkS f.at') (l:=l));simp only[JI,Km]at *;omega
def TV (f:Fd):List PV:= [.int .i64 f.at'.sc,.str f.at'.gr,.str f.at'.nm,.int .i64 f.kind,.str f.df,.sl .no (f.cases'.map .str),.int .i64 f.worth]
theorem Zl4 (l:List Fd) (f:Fd) (hl:l.length<=100000) (hc:∀f∈l,f.cases'.length<=1000000) (hf:f.cases'.length<=1000000):Pp 160 [Zh l,fld f] (ZP (VG l f)):=by
 have hm:l.length<=maxLen:=by rw[Zb];omega
 have hR:=Te l hm (λf hf=>by have:=hc f hf;rw[Zb];omega);have hF:=UI f (by rw[Zb];omega);have hI:Pp 198 [Zh l,ref f.at'] (.int .i64 (idx (atF f.at') l)):=DD l f.at' hm;have hOf:=WC f hf;unfold VG;cases hr:Z5 l;rw[hr]at hR;simp only[true_or,if_true];refine Zx func160 rfl ntmps160 results160 (ZN _) ?_;simp only[go_sem,Zh,fld];refine TA ?_;simp only[go_sem];refine vc2 hR ?_;simp only[go_sem,ZP,Zh];rw[hr]at hR;cases hrf:Z1 f;rw[hrf]at hF;simp only[or_true,if_true];refine Zx func160 rfl ntmps160 results160 (ZN _) ?_;simp only[go_sem,Zh,fld];refine TA ?_;simp only[go_sem];refine vc2 hR ?_;simp only[go_sem];refine vc2 hF ?_;simp only[go_sem,ZP,Zh];rw[hrf]at hF;simp only[Ki,or_self,if_false];by_cases h2:(0:Int)<=idx (atF f.at') l;rw[if_pos h2];refine Zx func160 rfl ntmps160 results160 (ZN _) ?_;simp only[go_sem,Zh,fld];refine TA ?_;simp only[go_sem];refine vc2 hR ?_;simp only[go_sem];refine vc2 hF ?_;simp only[go_sem];refine vc2 hI ?_;simp only[go_sem,h2,ZP,Zh];rw[if_neg h2];by_cases h3:(16:Int)<=(l.length:Int);rw[if_pos h3];refine Zx func160 rfl ntmps160 results160 (ZN _) ?_;simp only[go_sem,Zh,fld];refine TA ?_;simp only[go_sem];refine vc2 hR ?_;simp only[go_sem];refine vc2 hF ?_;simp only[go_sem];refine vc2 hI ?_;simp only[go_sem,h2,h3,ZP,Zh];rw[if_neg h3];have w0:IntKind.i64.wrap ((l.length:Int)+1)=((l.length+1:Nat):Int):=by rw[w64 (by omega)];rfl
 refine Zx func160 rfl ntmps160 results160 (ZN _) ?_;simp only[go_sem,Zh,fld];refine ZsT (ι0:=WA l f) (ι1:=WB l f) 72
  (λx=> [(0,Zh l),(3,.ptr 3 0),(6,.sl (.row 49) (x.acc.map fld)),(7,.int .i64 (x.k:Int))]) (λx=> [(3,TV f,Hf)]) (λx=> [(49,.live x.acc.length 7 73)]) (λx=>l.length-x.k)
  (λx=> [(0,Zh l),(6,.sl (.row 68) (x.acc.map fld)),(7,.int .i64 (x.k:Int))]) (λx=> []) (λx=> [(68,.live x.acc.length 7 73)]) (λx=>l.length-x.k) (l.length+1) (λj=>by show l.length-j.k<l.length+1;omega)
  0 1 _ _ (by exact rfl) (by exact rfl)
  (λx=>⟨Fc4 rfl rfl (by simp[JE,ZX]) rfl,(fcs rfl fnl)⟩)
  (λx=>⟨Fc3 rfl (by simp[JE,ZX]) rfl,fnl⟩)
  (λx cut=> ?_) (λx=> ?_) (λcut=> ?_)
 obtain⟨k,acc,hk,hx⟩:=x;simp only at cut ⊢;have hacc:acc.length<=l.length+1:=by rw[<-Gl l f,<-hx,JI];omega
 have hrm:=Ya (show acc.length+1<=1000000 by omega) (show 96<=1000 by omega);by_cases h:(k:Int)<(l.length:Int);have hka:k<l.length:=by omega
 have w1:=Xi hka hm;have i1:=Ja k
 have hL:=Ze0 (l.getD k Jd).at' f.at';have hO:=WC (l.getD k Jd) (hc _ (Zp hka));rw[Xa hka (d:=Jd)]at hx;cases hb:Va (l.getD k Jd).at' f.at';rw[hb]at hL;rw[ZrV hb]at hx;simp only[go_sem,Zh,TV];refine vDq ?_;simp only[go_sem,h,i1,Zy hka,fld];refine vc1 hL ?_;simp only[go_sem];refine vc2 hOf ?_;simp only[go_sem,fld,YP,hrm];refine ZL 6 56 68 (acc.length+1) 7 73 ((acc++ [f]).map fld) (by simp[upd,fld]) rfl rfl ?_;refine YX (cut ⟨k,acc++ [f],hk,by rw[Xa hka (d:=Jd),<-hx];simp⟩ _ ⟨rfl,Fc3 rfl rfl rfl,fnl,fcs (by simp[upd,Hp.setq,St.with]) fnl⟩);rw[hb]at hL;rw[ZrW hb]at hx;simp only[go_sem,Zh,TV];refine vDq ?_;simp only[go_sem,h,i1,Zy hka,fld];refine vc1 hL ?_;simp only[go_sem,h,i1,Zy hka,fld];refine vc2 hO ?_;simp only[go_sem,fld,YP,hrm,w1];exact Or.inl ⟨rfl,⟨k+1,acc++ [l.getD k Jd],by omega,by rw[<-hx];simp⟩,nx9 (by omega),⟨rfl,Fc4 rfl rfl (by simp[upd,fld]) rfl,fcs ⟨rfl,rfl⟩ fnl,fcs (by simp[upd]) fnl⟩⟩;obtain rfl:k=l.length:=by omega
 simp only[go_sem,Zh,TV];refine vDq ?_;simp only[go_sem,h];refine vc2 hOf ?_;simp only[go_sem,fld,YP,hrm];refine ZL 6 56 68 (acc.length+1) 7 73 ((acc++ [f]).map fld) (by simp[upd,fld]) rfl rfl ?_;refine YX (cut ⟨l.length,acc++ [f],hk,by rw[<-hx];simp[Zcc]⟩ _ ⟨rfl,Fc3 rfl rfl rfl,fnl,fcs (by simp[upd,Hp.setq,St.with]) fnl⟩);obtain⟨k,acc,hk,hx⟩:=x;simp only;have hacc:acc.length<=l.length+1:=by rw[<-Gl l f,<-hx,JI];omega
 have hrm:=Ya (show acc.length+1<=1000000 by omega) (show 96<=1000 by omega);by_cases h:(k:Int)<(l.length:Int);have hka:k<l.length:=by omega
 have w1:=Xi hka hm;have i1:=Ja k
 have hO:=WC (l.getD k Jd) (hc _ (Zp hka));rw[Xa hka (d:=Jd)]at hx;simp only[go_sem,Zh,h,i1,Zy hka,fld];refine vc2 hO ?_;simp only[go_sem,fld,YP,hrm,w1];exact⟨⟨k+1,acc++ [l.getD k Jd],by omega,by rw[<-hx];simp⟩,nx9 (by omega),⟨rfl,Fc3 rfl (by simp[upd,fld]) rfl,fnl,fcs (by simp[upd]) fnl⟩⟩;obtain rfl:k=l.length:=by omega
 rw[List.drop_length,Je]at hx;subst hx;simp only[go_sem,Zh,h,ZP];simp only[go_sem];refine vc2 hR ?_;simp only[go_sem];refine vc2 hF ?_;simp only[go_sem];refine vc2 hI ?_;simp only[go_sem,h2,h3,w0];refine⟨by omega,?_⟩;refine ZL 6 27 49 0 7 73 [] rfl rfl rfl ?_;exact YX (cut ⟨0,[],Jg _,rfl⟩ _ ⟨rfl,(Fc4 rfl rfl rfl rfl),fcs ⟨rfl,rfl⟩ fnl,fcs rfl fnl⟩)
open Go.PL
def UW (l:List Pr) (s:Str):Bool:=l.any λq=>q.fr'==s
theorem Zfs (l:List Pr) (s:Str):(Xj l s).2=UW l s:=by
 unfold Xj UW;cases h:l.find? (λp=>p.fr'==s)with
 |none=>
  symm
  rw[J4];intro x hx;exact JZ.1 h x hx
 |some p=>
  symm
  exact JR.2 ⟨p,List.mem_of_find?_eq_some h,List.find?_some (p:=λp:Pr=>p.fr'==s) h⟩
theorem ZmW (l:List Pr) (s:Str):(Yt l).any (· == s)=UW l s:=by
 simp[Yt,UW,List.any_map,Function.comp_def]
def VF (t o:List Pr) (i:Nat):Bool:=Yj (t.getD i Jd).fr'&&(!(UW (t.take i) (t.getD i Jd).fr')&&UW o (t.getD i Jd).to')
def XF (t o:List Pr):Bool:=decide (1<=t.length/\t.length<=6)&&(Jr t.length).all (VF t o)
theorem ZeF (l:List Pr) (k:Nat):Kn k (l.map pr)=(l.take k).map pr:=by rw[Ku]
theorem Dn (l:List Pr):Sized 2 (l.map pr):=λe he=>by
 obtain⟨x,_,rfl⟩:=Ju.1 he;rfl
theorem Zps (l:List Pr):XO (l.map pr):=λe he=>by
 obtain⟨x,_,rfl⟩:=Ju.1 he;rfl
theorem ZkL {l:List Pr} {s:Str} {k:Nat} (hk:k<l.length) (h:((l.getD k Jd).fr'==s)=Ht):UW l s=true:=Ti (p:=λq:Pr=>q.fr'==s) hk h
theorem ZhH {l:List Pr} {s:Str} (h:∀j,j<l.length->((l.getD j Jd).fr'==s)=Hf):UW l s=false:=UN (p:=λq:Pr=>q.fr'==s) (d:=Jd) h
theorem Sg (t o:List Pr) (ho:o.length<=maxLen):Pp 191 [prs t,prs o] (.bool (XF t o)):=by
 by_cases h1:(t.length:Int)<1;have hx:XF t o=false:=by simp only[XF,show ¬(1<=t.length/\t.length<=6)by omega,decide_false,Jc]
 refine ZM func191 rfl ntmps191 results191 ?_;simp only[go_sem,prs,h1,hx];by_cases h2:(6:Int)<(t.length:Int);have hx:XF t o=false:=by simp only[XF,show ¬(1<=t.length/\t.length<=6)by omega,decide_false,Jc]
 refine ZM func191 rfl ntmps191 results191 ?_;simp only[go_sem,prs,h1,h2,hx];have hm:t.length<=maxLen:=by rw[Zb];omega
 have hx:XF t o=(Jr t.length).all (VF t o):=by simp only[XF,show(1<=t.length/\t.length<=6)by omega,and_self,decide_true,Ji]
 rw[hx];refine ZM func191 rfl ntmps191 results191 ?_;simp only[go_sem,prs,h1,h2];refine Zs (ι:= { x:Nat // x<=(t).length/\(∀j,j<x->VF t o j=Ht) }) 54 (λx=> [(0,prs t),(1,prs o),(19,prs t),(20,.int .i64 (t.length:Int)),(21,.int .i64 (x.1:Int))]) (λx=> []) (λx=> []) (λx=>(t).length-x.1) ⟨0,Jg _,λj hj=>absurd hj (Jh j)⟩ ⟨rfl,(Fc5 rfl rfl rfl rfl rfl),fnl,fnl⟩ (λx=>⟨(Fc5 rfl rfl rfl rfl rfl),fnl⟩) (λx=> ?_);obtain⟨k,hk,hI⟩:=x;simp only at hk hI ⊢;by_cases h:(k:Int)<(t.length:Int)
 (have hka:k<(t).length:=by omega);(have w1:=Xi hka (hm));(have i1:=Ja k)
 have i2:(k:Int)<=(t.length:Int):=by omega
 have hN:=Xv (t.getD k Jd).fr';cases hn:Yj (t.getD k Jd).fr';rw[hn]at hN;have hz:=ZU (p:=VF t o) hka (by simp only[VF,hn,Jc]);simp only[go_sem,prs,h,i1,Yp hka,pr];refine vc1 hN ?_;simp only[go_sem,hz];rw[hn]at hN;have hT:(t.take k).length<=maxLen:=by rw[Jo];omega
 simp only[go_sem,prs,h,i1,Yp hka,pr];refine vc1 hN ?_;simp only[go_sem,i1,i2,Dn,cut,JH,ZeF];refine Zs (ι:= { x:Nat // x<=(t.take k).length/\(∀j,j<x->(((t.take k).getD j Jd).fr'==(t.getD k Jd).fr')=Hf) }) 54 (λx=> [(0,prs t),(1,prs o),(6,.ptr 6 0),(19,prs t),(20,.int .i64 (t.length:Int)),(21,.int .i64 (k:Int)),(32,.sl .no ((t.take k).map pr)),(33,.int .i64 ((t.take k).length:Int)),(34,.int .i64 (x.1:Int))]) (λx=> [(6,[.str (t.getD k Jd).fr',.str (t.getD k Jd).to'],Hf)]) (λx=> []) (λx=>(t.take k).length-x.1) ⟨0,Jg _,λj hj=>absurd hj (Jh j)⟩ ⟨rfl,(Fc9 rfl rfl rfl rfl rfl rfl rfl rfl rfl),(fcs ⟨rfl,rfl⟩ fnl),fnl⟩ (λx=>⟨(Fc9 rfl rfl rfl rfl rfl rfl rfl rfl rfl),(fcs rfl fnl)⟩) (λx=> ?_);obtain⟨kb,hkb,hIb⟩:=x;simp only at hkb hIb ⊢;by_cases hb:(kb:Int)<((t.take k).length:Int)
 (have hkab:kb<(t.take k).length:=by omega);(have w1b:=Xi hkab (hT));(have i1b:=Ja kb)
 cases he:(((t.take k).getD kb Jd).fr'==(t.getD k Jd).fr')
 ·simp only[go_sem,prs,hb,Yp hkab,pr,i1b,he,w1b];exact⟨⟨kb+1,by(try simp only);omega,Zm hIb he⟩,by show(t.take k).length-(kb+1)<(t.take k).length-kb;omega,⟨rfl,(Fc9 rfl rfl rfl rfl rfl rfl rfl rfl rfl),(fcs ⟨rfl,rfl⟩ fnl),fnl⟩⟩
 have hz:=ZU (p:=VF t o) hka (by simp only[VF,ZkL hkab he,JU,Jc,Jw]);simp only[go_sem,prs,hb,Yp hkab,pr,i1b,he,hz];have hf:=ZhH (l:=t.take k) (s:=(t.getD k Jd).fr') (λj hj=>hIb j (by omega));have hC:=Gy o (t.getD k Jd).to' ho;have hs:=Zfs o (t.getD k Jd).to';cases hh:UW o (t.getD k Jd).to';have hz:=ZU (p:=VF t o) hka (by simp only[VF,hh,Jw]);rw[hh]at hs;simp only[go_sem,prs,hb];refine vc3 hC ?_;simp only[go_sem,Zb0,hs,hz]
 ·have ok:VF t o k=true:=by simp only[VF,hn,hf,hh,JF,Jm]
  rw[hh]at hs;simp only[go_sem,prs,hb];refine vc3 hC ?_;simp only[go_sem,Zb0,hs,w1];exact⟨⟨k+1,by(try simp only);omega,Zm hI ok⟩,by show(t).length-(k+1)<(t).length-k;omega,⟨rfl,(Fc5 rfl rfl rfl rfl rfl),fnl,fnl⟩⟩
 have hz:=X7 (p:=VF t o) (n:=t.length) (λj hj=>hI j (by omega));simp only[go_sem,prs,h,hz]
theorem ZaF (t o:List Pr) (ho:o.length<=1000000):Pp 146 [prs t,prs o] (.bool (XF t o)):=by
 by_cases h1:(t.length:Int)=0;have hx:XF t o=false:=by simp only[XF,show ¬(1<=t.length/\t.length<=6)by omega,decide_false,Jc]
 have h1':((t.length:Int)==0)=true:=by rw[h1];rfl
 refine ZM func146 rfl ntmps146 results146 ?_;simp only[go_sem,prs,h1',hx];have h1':((t.length:Int)==0)=false:=beq_eq_false_iff_ne.2 h1;by_cases h2:(6:Int)<(t.length:Int);have hx:XF t o=false:=by simp only[XF,show ¬(1<=t.length/\t.length<=6)by omega,decide_false,Jc]
 refine ZM func146 rfl ntmps146 results146 ?_;simp only[go_sem,prs,h1',h2,hx];have hm:t.length<=maxLen:=by rw[Zb];omega
 have hx:XF t o=(Jr t.length).all (VF t o):=by simp only[XF,show(1<=t.length/\t.length<=6)by omega,and_self,decide_true,Ji]
 rw[hx];refine ZM func146 rfl ntmps146 results146 ?_;simp only[go_sem,prs,h1',h2];refine Zs (ι:= { x:Nat // x<=(t).length/\(∀j,j<x->VF t o j=Ht) }) 50 (λx=> [(0,prs t),(1,prs o),(5,.int .i64 (x.1:Int))]) (λx=> []) (λx=> []) (λx=>(t).length-x.1) ⟨0,Jg _,λj hj=>absurd hj (Jh j)⟩ ⟨rfl,(Fc3 rfl rfl rfl),fnl,fnl⟩ (λx=>⟨(Fc3 rfl rfl rfl),fnl⟩) (λx=> ?_);obtain⟨k,hk,hI⟩:=x;simp only at hk hI ⊢;by_cases h:(k:Int)<(t.length:Int)
 (have hka:k<(t).length:=by omega);(have w1:=Xi hka (hm));(have i1:=Ja k)
 have i2:(k:Int)<=(t.length:Int):=by omega
 have hN:=Y7 (t.getD k Jd).fr';have hT:(t.take k).length<=1000000:=by rw[Jo];omega
 have hF1:=Tc (t.take k) hT;have hF2:=Tc o ho;have hH1:=TP (Yt (t.take k)) (t.getD k Jd).fr' (by rw[Yt,JC,Zb];omega);have hH2:=TP (Yt o) (t.getD k Jd).to' (by rw[Yt,JC,Zb];omega);rw[ZmW]at hH1 hH2;cases hn:Yj (t.getD k Jd).fr';rw[hn]at hN;have hz:=ZU (p:=VF t o) hka (by simp only[VF,hn,Jc]);simp only[go_sem,prs,h,i1];refine vDq ?_;simp only[go_sem,prs,h,i1,Yp hka,pr];refine vc1 hN ?_;simp only[go_sem,hz];rw[hn]at hN;cases hf:UW (t.take k) (t.getD k Jd).fr';rw[hf]at hH1;cases hh:UW o (t.getD k Jd).to';rw[hh]at hH2;have hz:=ZU (p:=VF t o) hka (by simp only[VF,hh,Jw]);simp only[go_sem,prs,h,i1];refine vDq ?_;simp only[go_sem,prs,h,i1,Yp hka,pr];refine vc1 hN ?_;simp only[go_sem,prs,h,i1,i2,Dn,cut,JH,ZeF];refine vc3 hF1 ?_;simp only[go_sem,prs,h,i1,i2,Yp hka,pr];refine vc1 hH1 ?_;simp only[go_sem,prs];refine vc3 hF2 ?_;simp only[go_sem,prs,h,i1,i2,Yp hka,pr];refine vc1 hH2 ?_;simp only[go_sem,hz]
 ·rw[hh]at hH2;have ok:VF t o k=true:=by simp only[VF,hn,hf,hh,JF,Jm]
  simp only[go_sem,prs,h,i1];refine vDq ?_;simp only[go_sem,prs,h,i1,Yp hka,pr];refine vc1 hN ?_;simp only[go_sem,prs,h,i1,i2,Dn,cut,JH,ZeF];refine vc3 hF1 ?_;simp only[go_sem,prs,h,i1,i2,Yp hka,pr];refine vc1 hH1 ?_;simp only[go_sem,prs];refine vc3 hF2 ?_;simp only[go_sem,prs,h,i1,i2,Yp hka,pr];refine vc1 hH2 ?_;simp only[go_sem,w1];exact⟨⟨k+1,by(try simp only);omega,Zm hI ok⟩,by show(t).length-(k+1)<(t).length-k;omega,⟨rfl,(Fc3 rfl rfl rfl),fnl,fnl⟩⟩
 rw[hf]at hH1;have hz:=ZU (p:=VF t o) hka (by simp only[VF,hf,JU,Jc,Jw]);simp only[go_sem,prs,h,i1];refine vDq ?_;simp only[go_sem,prs,h,i1,Yp hka,pr];refine vc1 hN ?_;simp only[go_sem,prs,h,i1,i2,Dn,cut,JH,ZeF];refine vc3 hF1 ?_;simp only[go_sem,prs,h,i1,i2,Yp hka,pr];refine vc1 hH1 ?_;simp only[go_sem,hz];have hz:=X7 (p:=VF t o) (n:=t.length) (λj hj=>hI j (by omega));simp only[go_sem,prs,h,hz]
theorem Zac (x:Ln):(lns x).dids= []:=by
 have:∀l:List Pr,Jj (l.map pr)= []:=λl=>by
  induction l with
  |nil=>rfl
  |cons t l ih=>simp only[Jq,Jj,ih,pr,Jt,Je]
 simp only[lns,Jt,Jj,WF,this,Je]
structure OkLn (x:Ln):Prop where
 c:x.fd.cases'.length<=1000000
 f:x.fo.length<=1000000
 b:x.ba.length<=1000000
theorem Zav (x:Ln) (hx:OkLn x):Pp 107 [lns x] (lns x):=by
 have hF:=WC x.fd hx.c;have r1:=Ya hx.f (show 32<=1000 by omega);have r2:=Ya hx.b (show 32<=1000 by omega);refine Zx func107 rfl ntmps107 results107 (Zac _) ?_;simp only[go_sem,lns];refine vc2 hF ?_;simp only[go_sem,fld,lns,Dn,Zps,r1,r2]
theorem Zcr (a b:Ln) (ha:OkLn a) (hb:OkLn b):Pp 106 [lns a,lns b] (.bool (decide (a=b))):=by
 have hF:=DC a.fd b.fd (by have:=ha.c;rw[Zb];omega) (by have:=hb.c;rw[Zb];omega);have h1:=ZeW a.fo b.fo (by have:=ha.f;rw[Zb];omega) (by have:=hb.f;rw[Zb];omega);have h2:=ZeW a.ba b.ba (by have:=ha.b;rw[Zb];omega) (by have:=hb.b;rw[Zb];omega);clear ha hb;refine ZM func106 rfl ntmps106 results106 ?_;simp only[go_sem,lns,Zr];repeat' ((first|(first|apply ZC|apply ZB|apply ZO)<;>intro h|refine vc3 hF ?_|refine vc3 h1 ?_|refine vc3 h2 ?_|refine vDq ?_)<;>first|simp only[go_sem,h,Zr]|simp only[go_sem,Zr]|skip)
 all_goals (clear hF h1 h2;(cases a;cases b;simp_all)<;>rfl)
theorem Zg7 (a b:Ln) (ha:OkLn a) (hb:OkLn b):Pp 103 [lns a,lns b] (.bool (decide (a=b))):=by
 have hF:=S6 a.fd b.fd (by have:=ha.c;rw[Zb];omega) (by have:=hb.c;rw[Zb];omega);have h1:=Zct a.fo b.fo (by have:=ha.f;rw[Zb];omega) (by have:=hb.f;rw[Zb];omega);have h2:=Zct a.ba b.ba (by have:=ha.b;rw[Zb];omega) (by have:=hb.b;rw[Zb];omega);clear ha hb;refine ZM func103 rfl ntmps103 results103 ?_;simp only[go_sem,lns,Zr];repeat' ((first|(first|apply ZC|apply ZB|apply ZO)<;>intro h|refine vc3 hF ?_|refine vc3 h1 ?_|refine vc3 h2 ?_|refine vDq ?_)<;>first|simp only[go_sem,h,Zr]|simp only[go_sem,Zr]|skip)
 all_goals (clear hF h1 h2;(cases a;cases b;simp_all)<;>rfl)
open Go.PL
def Vt (x:Ln):Ln×Bool:=
 if x.kind=1\/x.kind=5 then(⟨x.kind,x.at',x.nm,[],0,Jd,[],[]⟩,Ht)
 else if x.kind=2\/x.kind=3 then(⟨x.kind,Jd,[],[],0,x.fd,[],[]⟩,Ht)
 else if x.kind=4 then(⟨x.kind,x.at',[],[],0,Jd,[],[]⟩,Ht)
 else if x.kind=6\/x.kind=9 then(⟨x.kind,x.at',x.nm,x.ot,x.fac,Jd,[],[]⟩,Ht)
 else if x.kind=7\/x.kind=10 then(⟨x.kind,x.at',[],x.ot,0,Jd,[],[]⟩,Ht)
 else if x.kind=8 then(⟨x.kind,x.at',x.nm,x.ot,0,Jd,x.fo,x.ba⟩,Ht)
 else(Jd,Hf)
def lnb (x:Ln×Bool):PV:= .tup [lns x.1,.bool x.2]
theorem Zp8 (x:Ln×Bool):(lnb x).dids= []:=by simp only[lnb,Jt,Jj,Zac,Je]
theorem Ts:lns Jd= .agg [.int .i64 0,.int .i64 0,.str [],.str [],.str [],.str [],.int .i64 0,.int .i64 0,.str [],.str [],.int .i64 0,.str [],.sl .no [],.int .i64 0,.sl .no [],.sl .no []]:=rfl
theorem Zk1 (x:Ln):Pp 149 [lns x] (lnb (Vt x)):=by
 refine Zx func149 rfl ntmps149 results149 (Zp8 _) ?_;simp only[go_sem,lns];repeat' ((first|(first|apply ZC|apply ZB|apply ZO)<;>intro h|refine ZjI [(1,4)] (by kernel_rfl) (by kernel_rfl) (by exact rfl) ?_|refine vDq ?_)<;>first|simp only[go_sem,h]|simp only[go_sem]|skip)
 all_goals (simp only[beq_iff_eq,beq_eq_false_iff_ne,ne_eq]at *;simp[Vt,lnb,lns, *];try decide)
theorem Zr6 {x:Ln} (hx:OkLn x):OkLn (Vt x).1:=by
 unfold Vt;repeat' split
 all_goals exact⟨by first|exact hx.c|exact Jg _,by first|exact hx.f|exact Jg _,by first|exact hx.b|exact Jg _⟩
def rtM (x:Ln):Bool:=Yj x.nm&&(XF x.fo x.ba&&(XF x.ba x.fo&&(((Xj x.fo x.nm).2&&((Xj x.fo x.nm).1==x.ot))&&((Xj x.ba x.ot).2&&((Xj x.ba x.ot).1==x.nm)))))
theorem FX (x:Ln) (hx:OkLn x):Pp 154 [lns x] (.bool (rtM x)):=by
 have mf:x.fo.length<=maxLen:=by have:=hx.f;rw[Zb];omega
 have mb:x.ba.length<=maxLen:=by have:=hx.b;rw[Zb];omega
 have hN:=Xv x.nm;have h1:=Sg x.fo x.ba mb;have h2:=Sg x.ba x.fo mf;have h3:=Gy x.fo x.nm mf;have h4:=Gy x.ba x.ot mb;unfold rtM;generalize Xj x.fo x.nm=c at *;generalize Xj x.ba x.ot=d at *;obtain⟨c1,c2⟩:=c;obtain⟨d1,d2⟩:=d;refine ZM func154 rfl ntmps154 results154 ?_;simp only[go_sem,lns];repeat' ((first|(first|apply ZC|apply ZB|apply ZO)<;>intro h|refine vc3 hN ?_|refine vc3 h1 ?_|refine vc3 h2 ?_|refine vc3 h3 ?_|refine vc3 h4 ?_|refine vDq ?_)<;>first|simp only[go_sem,h,Zb0]|simp only[go_sem,Zb0]|skip)
 all_goals (clear hN h1 h2 h3 h4 mf mb hx;simp_all)
theorem Zas (n:Int):Pp 152 [.int .i64 n] (.bool (decide (2<=n)&&decide (n<=1000))):=by
 refine ZM func152 rfl ntmps152 results152 ?_;simp only[go_sem];repeat' ((first|(first|apply ZC|apply ZB|apply ZO)<;>intro h|refine vDq ?_)<;>first|simp only[go_sem,h]|simp only[go_sem]|skip)
 all_goals simp_all
def Wg (x:Ln):Bool:=
 if(Vt x).2=Hf\/ ¬x=(Vt x).1 then Hf
 else if x.kind=2\/x.kind=3 then Z1 x.fd
 else if X6 x.at'=Hf then Hf
 else if x.kind=1 then Yj x.nm
 else if x.kind=4 then !(x.at'.gr== [])
 else if x.kind=5 then(x.at'.gr== [])&&Yj x.nm
 else if x.kind=6\/x.kind=9 then Yj x.nm&&(Yj x.ot&&(!(x.nm==x.ot)&&(decide (2<=x.fac)&&decide (x.fac<=1000))))
 else if x.kind=7\/x.kind=10 then decide ((x.ot.length:Int)<=40)
 else rtM x
theorem ZeZ (x:Ln) (hx:OkLn x):Pp 105 [lns x] (.bool (Wg x)):=by
 have hP:=Zk1 x;have hS:=Zcr x (Vt x).1 hx (Zr6 hx);have hF:=UI x.fd (by have:=hx.c;rw[Zb];omega);have hA:=DE x.at';have hN:=Xv x.nm;have hO:=Xv x.ot;have hT:=GE x.ot;have hK:=Zas x.fac;have hR:=FX x hx;unfold Wg;generalize Vt x=y at *;obtain⟨y,b⟩:=y;refine ZM func105 rfl ntmps105 results105 ?_;simp only[go_sem,lns];repeat' ((first|(first|apply ZC|apply ZB|apply ZO)<;>intro h|refine vc3 hP ?_|refine vc3 hS ?_|refine vc3 hF ?_|refine vc3 hA ?_|refine vc3 hN ?_|refine vc3 hO ?_|refine vc3 hT ?_|refine vc3 hK ?_|refine vc3 hR ?_|refine vDq ?_)<;>first|simp only[go_sem,h,lnb,lns]|simp only[go_sem,lnb,lns]|skip)
 all_goals (clear hP hS hF hA hN hO hT hK hR hx;simp_all)
open Go.PL
def Gu (x:Ln):Bool:=decide (0<(x.fo.length:Int))||decide (0<(x.ba.length:Int))
def ZI (x:Ln):Bool:=
 if x.kind=2\/x.kind=3 then decide (x.at'=Jd)&&(decide (x.nm= [])&&(decide (x.ot= [])&&(decide (x.fac=0)&&(!Gu x&&Z1 x.fd))))
 else(X6 x.at'&&decide (x.fd=Jd))&&(if x.kind=8 then decide (x.fac=0)&&(XF x.fo x.ba&&(XF x.ba x.fo&&((Xj x.fo x.nm).2&&((Xj x.ba x.ot).2&&(((Xj x.fo x.nm).1==x.ot)&&((Xj x.ba x.ot).1==x.nm))))))
  else !Gu x&&(if x.kind=6\/x.kind=9 then Yj x.nm&&(Yj x.ot&&(!(x.nm==x.ot)&&(decide (1<x.fac)&&decide (x.fac<1001))))
   else decide (x.fac=0)&&(if x.kind=7\/x.kind=10 then decide (x.nm= [])&&decide ((x.ot.length:Int)<41)
    else decide (x.ot= [])&&(if x.kind=1 then Yj x.nm else if x.kind=4 then decide (x.nm= [])&& !(x.at'.gr== [])else decide (x.kind=5)&&(decide (x.at'.gr= [])&&Yj x.nm)))))
theorem ZqD {t o:List Pr} {s:Str} (h:XF t o=Ht) (hs:UW t s=Ht):Yj s=true:=by
 simp only[UW,JR,beq_iff_eq]at hs;obtain⟨p,hp,rfl⟩:=hs;obtain⟨i,hi,rfl⟩:=Jl hp;simp only[XF,Jn,Jz,JK]at h;have:=h.2 i hi;simp only[VF,Jn]at this;have h1:=this.1;rw[Jb,Jk hi]at h1;exact h1
theorem Tz {x:Ln}:Gu x=Hf↔x.fo= []/\x.ba= []:=by
 simp only[Gu,Jv,decide_eq_false_iff_not];constructor;rintro ⟨a,b⟩;exact⟨JW (by omega),JW (by omega)⟩;rintro ⟨a,b⟩;rw[a,b];exact⟨by decide,by decide⟩
theorem Zqu (x:Ln):Wg x=ZI x:=by
 obtain⟨kind,at',nm,ot,fac,fd,fo,ba⟩:=x;have ht:=Tz (x:=⟨kind,at',nm,ot,fac,fd,fo,ba⟩);simp only at ht;have d1:(Jd:Ln)=⟨0,Jd,[],[],0,Jd,[],[]⟩:=rfl;by_cases k1:kind=1;subst k1;rw[Jf];simp[Wg,ZI,Vt,ht];constructor;rintro ⟨⟨a,b,c,d,e⟩,f,g⟩;exact⟨⟨f,c⟩,⟨d,e⟩,b,a,g⟩;rintro ⟨⟨f,c⟩,⟨d,e⟩,b,a,g⟩;exact⟨⟨a,b,c,d,e⟩,f,g⟩;by_cases k2:kind=2;subst k2;rw[Jf];simp[Wg,ZI,Vt,ht,and_assoc];by_cases k3:kind=3;subst k3;rw[Jf];simp[Wg,ZI,Vt,ht,and_assoc];by_cases k4:kind=4;subst k4;rw[Jf];simp[Wg,ZI,Vt,ht];constructor;rintro ⟨⟨n,a,b,c,d,e⟩,f,g⟩;exact⟨⟨f,c⟩,⟨d,e⟩,b,a,n,g⟩;rintro ⟨⟨f,c⟩,⟨d,e⟩,b,a,n,g⟩;exact⟨⟨n,a,b,c,d,e⟩,f,g⟩;by_cases k5:kind=5;subst k5;rw[Jf];simp[Wg,ZI,Vt,ht];constructor;rintro ⟨⟨a,b,c,d,e⟩,f,g⟩;exact⟨⟨f,c⟩,⟨d,e⟩,b,a,g⟩;rintro ⟨⟨f,c⟩,⟨d,e⟩,b,a,g⟩;exact⟨⟨a,b,c,d,e⟩,f,g⟩;by_cases k69:kind=6\/kind=9;have e1:¬(kind=2\/kind=3):=by omega
 have e3:¬(kind=1\/kind=5):=by omega
 have e8:¬kind=8:=by omega
 rw[Jf];simp[Wg,ZI,Vt,ht,e1,e3,k69,k1,k4,k5,e8];constructor;rintro ⟨⟨a,b,c⟩,f,g,h,i,j,k⟩;exact⟨⟨f,a⟩,⟨b,c⟩,g,h,i,by omega,by omega⟩;rintro ⟨⟨f,a⟩,⟨b,c⟩,g,h,i,j,k⟩;exact⟨⟨a,b,c⟩,f,g,h,i,by omega,by omega⟩;by_cases k7:kind=7\/kind=10;have e1:¬(kind=2\/kind=3):=by omega
 have e3:¬(kind=1\/kind=5):=by omega
 have e8:¬kind=8:=by omega
 rw[Jf];simp[Wg,ZI,Vt,ht,e1,e3,k69,k7,k1,k4,k5,e8];constructor;rintro ⟨⟨n,b,c,d,e⟩,f,g⟩;exact⟨⟨f,c⟩,⟨d,e⟩,b,n,by omega⟩;rintro ⟨⟨f,c⟩,⟨d,e⟩,b,n,g⟩;exact⟨⟨n,b,c,d,e⟩,f,by omega⟩;by_cases k8:kind=8;subst k8;rw[Jf];have hn:XF fo ba=Ht->(Xj fo nm).2=Ht->Yj nm=true:=λh h'=>ZqD h (by rw[<-Zfs];exact h')
 simp[Wg,ZI,Vt,ht,rtM];constructor;rintro ⟨⟨a,b⟩,f,g,h,i,⟨j,k⟩,l,m⟩;exact⟨⟨f,b⟩,a,h,i,j,l,k,m⟩;rintro ⟨⟨f,b⟩,a,h,i,j,l,k,m⟩;exact⟨⟨a,b⟩,f,hn h j,h,i,⟨j,k⟩,l,m⟩;have e1:¬(kind=2\/kind=3):=by omega
 have e3:¬(kind=1\/kind=5):=by omega
 simp[Wg,ZI,Vt,e1,e3,k69,k7,k1,k4,k5,k8]
theorem WY (x:Ln) (hx:OkLn x):Pp 105 [lns x] (.bool (ZI x)):=by
 rw[<-Zqu];exact ZeZ x hx
theorem Zfb (x:Ln):Pp 141 [lns x] (.bool (Gu x)):=by
 refine ZM func141 rfl ntmps141 results141 ?_;simp only[go_sem,lns];repeat' ((first|(first|apply ZC|apply ZB|apply ZO)<;>intro h|refine vDq ?_)<;>first|simp only[go_sem,h]|simp only[go_sem]|skip)
 all_goals simp_all[Gu]
theorem Zkc (x:Ln) (hx:OkLn x):Pp 144 [lns x] (.bool (decide (x.fd=Jd))):=by
 have h:=S6 x.fd Jd (by have:=hx.c;rw[Zb];omega) (Jg _);refine ZM func144 rfl ntmps144 results144 ?_;simp only[go_sem,lns];refine YD h ?_ ?_ ?_;simp only[go_sem];rfl;simp only[go_sem]
theorem Un (x:Ln) (hx:OkLn x):Pp 102 [lns x] (.bool (ZI x)):=by
 have mf:x.fo.length<=maxLen:=by have:=hx.f;rw[Zb];omega
 have mb:x.ba.length<=maxLen:=by have:=hx.b;rw[Zb];omega
 have hF:=VW x.fd (by have:=hx.c;rw[Zb];omega);have hT:=Zfb x;have hA:=S7 x.at';have hO:=Zkc x hx;have h1:=DF x.fo x.nm mf;have h2:=DF x.ba x.ot mb;have h3:=ZaF x.fo x.ba hx.b;have h4:=ZaF x.ba x.fo hx.f;have h5:=Y7 x.nm;have h6:=Y7 x.ot;unfold ZI;generalize Xj x.fo x.nm=c at *;generalize Xj x.ba x.ot=d at *;obtain⟨c1,c2⟩:=c;obtain⟨d1,d2⟩:=d;have rd:∀a:Rf,(a.sc==0&&(a.gr== []&&a.nm== []))=decide (a=Jd):=λa=>Zr a Jd
 refine ZM func102 rfl ntmps102 results102 ?_;simp only[go_sem,lns,rd];repeat' ((first|(first|apply ZC|apply ZB|apply ZO)<;>intro h|refine vc3 hF ?_|refine vc3 hT ?_|refine vc3 hA ?_|refine vc3 hO ?_|refine vc3 h1 ?_|refine vc3 h2 ?_|refine vc3 h3 ?_|refine vc3 h4 ?_|refine vc3 h5 ?_|refine vc3 h6 ?_|refine vDq ?_)<;>first|simp only[go_sem,h,Zb0,rd]|simp only[go_sem,Zb0,rd]|skip)
 all_goals (clear hF hT hA hO h1 h2 h3 h4 h5 h6 hx mf mb rd;simp_all)
open Go.PL
theorem Zey (r:Rf):(ref r).dids= []:=by simp only[ref,Jt,Jj,Je]
theorem Zmx (l:List Rf):Jj (l.map ref)= []:=by
 induction l with
 |nil=>rfl
 |cons t l ih=>simp only[Jq,Jj,ih,Zey,Je]
theorem Dh (l:List Rf):(refs l).dids= []:=by simp only[refs,Jt,Zmx]
def Zf (r:Rf) (s:Str):Rf:=⟨r.sc,r.gr,s⟩
theorem Tj (r:Rf) (s:Str):Pp 197 [ref r,.str s] (ref (Zf r s)):=by
 refine Zx func197 rfl ntmps197 results197 (Zey _) ?_;simp only[go_sem,ref,Zf]
def Zt (x:Ln):List Rf:=if x.kind=2 then []else if x.kind=3 then [x.fd.at']else if x.kind=9 then [Zf x.at' x.nm,Zf x.at' x.ot]else [x.at']
def Zc (x:Ln):List Rf:=
 if x.kind=1 then [Zf x.at' x.nm]else if x.kind=2 then [x.fd.at']else if x.kind=3 then []else if x.kind=4 then [⟨x.at'.sc,[],x.at'.nm⟩]
 else if x.kind=5 then [⟨x.at'.sc,x.nm,x.at'.nm⟩]else if x.kind=6 then [Zf x.at' x.nm,Zf x.at' x.ot]else [x.at']
def ZfR (x:Ln):List Rf:=if ZI x=Ht then Zt x else []
def ZcI (x:Ln):List Rf:=if ZI x=Ht then Zc x else []
theorem ob {x y:Int}:((x==y)=Ht)↔x=y:=beq_iff_eq
theorem Zau (x:Ln) (hx:OkLn x):Pp 158 [lns x] (refs (ZfR x)):=by
 have hR:=WY x hx;have h1:=Tj x.at' x.nm;have h2:=Tj x.at' x.ot;unfold ZfR;refine Zx func158 rfl ntmps158 results158 (Dh _) ?_;simp only[go_sem,lns];repeat' ((first|(first|apply ZC|apply ZB|apply ZO)<;>intro h|refine vc3 hR ?_|refine vc3 h1 ?_|refine vc3 h2 ?_|refine vDq ?_)<;>first|simp only[go_sem,h,ref]|simp only[go_sem,ref]|skip)
 all_goals (clear hR h1 h2 hx;simp_all[Zt,refs,Zf,ref])
theorem Zco (x:Ln) (hx:OkLn x):Pp 195 [lns x] (refs (ZcI x)):=by
 have hR:=WY x hx;have h1:=Tj x.at' x.nm;have h2:=Tj x.at' x.ot;unfold ZcI;refine Zx func195 rfl ntmps195 results195 (Dh _) ?_;simp only[go_sem,lns];repeat' ((first|(first|apply ZC|apply ZB|apply ZO)<;>intro h|refine vc3 hR ?_|refine vc3 h1 ?_|refine vc3 h2 ?_|refine vDq ?_)<;>first|simp only[go_sem,h,ref]|simp only[go_sem,ref]|skip)
 all_goals (clear hR h1 h2 hx;simp_all[Zc,refs,Zf,ref])
structure OkFs (l:List Fd):Prop where
 n:l.length<=1000
 c:∀f∈l,f.cases'.length<=1000000
theorem ZhG {α:Type} {l:List α} {k:Nat} {d:α}:l.getD k d∈l\/l.getD k d=d:=by
 by_cases h:k<l.length;exact .inl (Zp h);right;rw[Jb,List.getElem?_eq_none (by omega)];rfl
theorem Zf9 {l:List Fd} (h:OkFs l) (r:Rf):(ZD l r).1.cases'.length<=1000000:=by
 unfold ZD;split;exact Jg _;rcases ZhG (l:=l) (k:=(idx (atF r) l).toNat) (d:=Jd)with h'|h';exact h.c _ h';rw[h'];exact Jg _
def Ub (l:List Fd) (x:Ln):List Fd×Bool:=
 if(ZD l (Zf x.at' x.nm)).2≠0\/(ZD l (Zf x.at' x.nm)).1.kind≠1 then([],Hf)
 else if(ZD l (Zf x.at' x.ot)).2≠0\/(ZD l (Zf x.at' x.ot)).1.kind≠1\/(ZD l (Zf x.at' x.ot)).1.worth≠IntKind.i64.wrap ((ZD l (Zf x.at' x.nm)).1.worth*x.fac)then([],Hf)
 else([⟨x.at',1,[],[],(ZD l (Zf x.at' x.nm)).1.worth⟩],Ht)
def YZ (x:List Fd×Bool):PV:= .tup [Zh x.1,.bool x.2]
theorem YO (x:List Fd×Bool):(YZ x).dids= []:=by simp only[YZ,Jt,Jj,Vp,Je]
theorem ZhP (l:List Fd) (x:Ln) (hl:OkFs l) (hx:OkLn x) (hr:ZI x=Ht) (h9:x.kind=9):Pp 194 [Zh l,lns x] (YZ (Ub l x)):=by
 have hG:=Zau x hx;have hg:ZfR x= [Zf x.at' x.nm,Zf x.at' x.ot]:=by simp[ZfR,Zt,hr,h9]
 rw[hg]at hG;have f1:=UJ l (Zf x.at' x.nm) (by have:=hl.n;omega) hl.c;have f2:=UJ l (Zf x.at' x.ot) (by have:=hl.n;omega) hl.c;unfold Ub;generalize ZD l (Zf x.at' x.nm)=a at *;generalize ZD l (Zf x.at' x.ot)=b at *;obtain⟨a,a0⟩:=a;obtain⟨b,b0⟩:=b;have o1:((0:Int)<1+1)=True:=by simp
 refine Zx func194 rfl ntmps194 results194 (YO _) ?_;simp only[go_sem,Zh,lns];refine vc3 hG ?_;simp only[go_sem,refs,ref];refine vc2 f1 ?_;simp only[go_sem,Zca,fld];repeat' ((first|(first|apply ZC|apply ZB|apply ZO)<;>intro h|refine vc2 f2 ?_|refine vDq ?_)<;>first|simp only[go_sem,h,refs,ref,Zca,fld,Zh]|simp only[go_sem,refs,ref,Zca,fld,Zh]|skip)
 all_goals (clear hG f1 f2 hl hx;simp_all[YZ,Zh,fld])
open Go.PL
def XZ (l:List Fd) (x:Ln):List Fd×Bool:=
 if x.kind=2 then([x.fd],Ht)
 else if x.kind=3 then([],decide ((ZD l x.fd.at').2=0)&&decide ((ZD l x.fd.at').1=x.fd))
 else if x.kind=9 then Ub l x
 else if(ZD l x.at').2≠0 then([],Hf)
 else if x.kind=6 then([⟨Zf x.at' x.nm,1,[],[],(ZD l x.at').1.worth⟩,⟨Zf x.at' x.ot,1,[],[],IntKind.i64.wrap ((ZD l x.at').1.worth*x.fac)⟩],decide ((ZD l x.at').1.kind=1))
 else if x.kind=7 then([⟨x.at',4,[],[],0⟩],decide ((ZD l x.at').1.kind=2)&&decide ((ZD l x.at').1.df=x.ot))
 else if x.kind=10 then([⟨x.at',2,x.ot,[],0⟩],decide ((ZD l x.at').1.kind=4))
 else if x.kind=8 then([⟨x.at',3,x.ot,Yt x.ba,0⟩],decide ((ZD l x.at').1=⟨x.at',3,x.nm,Yt x.fo,0⟩))
 else([⟨(Zc x).getD 0 Jd,(ZD l x.at').1.kind,(ZD l x.at').1.df,(ZD l x.at').1.cases',(ZD l x.at').1.worth⟩],Ht)
theorem W8 (l:List Pr):(Yt l).length=l.length:=by simp[Yt]
theorem ZdW (l:List Fd) (x:Ln) (hl:OkFs l) (hx:OkLn x) (hr:ZI x=Ht):Pp 157 [Zh l,lns x] (YZ (XZ l x)):=by
 have hn:=hl.n;have hO:=WC x.fd hx.c;have okA:=Zf9 hl x.at';have okF:=Zf9 hl x.fd.at';have f1:=UJ l x.fd.at' (by omega) hl.c;have f2:=UJ l x.at' (by omega) hl.c;have s1:=DC (ZD l x.fd.at').1 x.fd (by rw[Zb];omega) (by have:=hx.c;rw[Zb];omega);have s2:=DC (ZD l x.at').1 ⟨x.at',3,x.nm,Yt x.fo,0⟩ (by rw[Zb];omega) (by have:=hx.f;simp only[W8];rw[Zb];omega);have r1:=Zc1 x.fo hx.f;have r2:=Zc1 x.ba hx.b;have hC:=Zco x hx;have hc:ZcI x=Zc x:=by simp[ZcI,hr]
 rw[hc]at hC;unfold XZ;by_cases k9:x.kind=9;have hM:=ZhP l x hl hx hr k9;rw[if_neg (by omega),if_neg (by omega),if_pos k9];generalize Ub l x=y at *;obtain⟨y,b⟩:=y;have e2:(x.kind==2)=false:=by rw[k9];rfl
 have e3:(x.kind==3)=false:=by rw[k9];rfl
 have e9:(x.kind==9)=true:=by rw[k9];rfl
 refine Zx func157 rfl ntmps157 results157 (YO _) ?_;simp only[go_sem,Zh,lns,e2,e3,e9];refine vc3 hM ?_;simp only[go_sem,YZ,Zh];have e9:(x.kind==9)=false:=beq_eq_false_iff_ne.2 k9;rw[if_neg k9];generalize ZD l x.fd.at'=a at *;generalize ZD l x.at'=b at *;obtain⟨a,a0⟩:=a;obtain⟨b,b0⟩:=b;simp only at *;by_cases k2:x.kind=2;have e2:(x.kind==2)=true:=by rw[k2];rfl
 rw[if_pos k2];refine Zx func157 rfl ntmps157 results157 (YO _) ?_;simp only[go_sem,Zh,lns,e2];refine vc2 hO ?_;simp only[go_sem,YZ,Zh,fld];have e2:(x.kind==2)=false:=beq_eq_false_iff_ne.2 k2;rw[if_neg k2];by_cases k3:x.kind=3
 ·have e3:(x.kind==3)=true:=by rw[k3];rfl
  rw[if_pos k3];refine Zx func157 rfl ntmps157 results157 (YO _) ?_;simp only[go_sem,Zh,lns,e2,e3];refine vc2 f1 ?_;simp only[go_sem,Zca,fld];repeat' ((first|(first|apply ZC|apply ZB|apply ZO)<;>intro h|refine vc2 s1 ?_|refine vDq ?_)<;>first|simp only[go_sem,h,Zca,fld,Zh]|simp only[go_sem,Zca,fld,Zh]|skip)
  all_goals (clear hO f1 f2 s1 s2 r1 r2 hC hl hx okA okF;simp_all[YZ,Zh,fld])
 have e3:(x.kind==3)=false:=beq_eq_false_iff_ne.2 k3;rw[if_neg k3];by_cases hb:b0=0;subst hb;simp only[ne_eq,not_true_eq_false,if_false];by_cases k6:x.kind=6
 ·have e6:(x.kind==6)=true:=by rw[k6];rfl
  have hcc:Zc x= [Zf x.at' x.nm,Zf x.at' x.ot]:=by simp[Zc,k6]
  rw[hcc]at hC;rw[if_pos k6];refine Zx func157 rfl ntmps157 results157 (YO _) ?_;simp only[go_sem,Zh,lns,e2,e3,e9];refine vc2 f2 ?_;simp only[go_sem,Zca,fld];refine vc3 hC ?_;simp only[go_sem,refs,ref,e6];repeat' ((first|(first|apply ZC|apply ZB|apply ZO)<;>intro h|refine vDq ?_)<;>first|simp only[go_sem,h,refs,ref,fld]|simp only[go_sem,refs,ref,fld]|skip)
  all_goals (clear hO f1 f2 s1 s2 r1 r2 hC hl hx okA okF;simp_all[YZ,Zh,fld]<;>(first|rfl|(rw[Jf];simp)))
 have e6:(x.kind==6)=false:=beq_eq_false_iff_ne.2 k6;rw[if_neg k6];by_cases k7:x.kind=7
 ·have e7:(x.kind==7)=true:=by rw[k7];rfl
  rw[if_pos k7];refine Zx func157 rfl ntmps157 results157 (YO _) ?_;simp only[go_sem,Zh,lns,e2,e3,e9];refine vc2 f2 ?_;simp only[go_sem,Zca,fld];refine vc3 hC ?_;simp only[go_sem,refs,e6,e7];repeat' ((first|(first|apply ZC|apply ZB|apply ZO)<;>intro h|refine vDq ?_)<;>first|simp only[go_sem,h]|simp only[go_sem]|skip)
  all_goals (clear hO f1 f2 s1 s2 r1 r2 hC hl hx okA okF;simp_all[YZ,Zh,fld]<;>(first|rfl|(rw[Jf];simp)))
 have e7:(x.kind==7)=false:=beq_eq_false_iff_ne.2 k7;rw[if_neg k7];by_cases k10:x.kind=10
 ·have e10:(x.kind==10)=true:=by rw[k10];rfl
  rw[if_pos k10];refine Zx func157 rfl ntmps157 results157 (YO _) ?_;simp only[go_sem,Zh,lns,e2,e3,e9];refine vc2 f2 ?_;simp only[go_sem,Zca,fld];refine vc3 hC ?_;simp only[go_sem,refs,e6,e7,e10];repeat' ((first|(first|apply ZC|apply ZB|apply ZO)<;>intro h|refine vDq ?_)<;>first|simp only[go_sem,h]|simp only[go_sem]|skip)
  all_goals (clear hO f1 f2 s1 s2 r1 r2 hC hl hx okA okF;simp_all[YZ,Zh,fld]<;>(first|rfl|(rw[Jf];simp)))
 have e10:(x.kind==10)=false:=beq_eq_false_iff_ne.2 k10;rw[if_neg k10];by_cases k8:x.kind=8
 ·have e8:(x.kind==8)=true:=by rw[k8];rfl
  rw[if_pos k8];refine Zx func157 rfl ntmps157 results157 (YO _) ?_;simp only[go_sem,Zh,lns,e2,e3,e9];refine vc2 f2 ?_;simp only[go_sem,Zca,fld];refine vc3 hC ?_;simp only[go_sem,refs,e6,e7,e10,e8];repeat' ((first|(first|apply ZC|apply ZB|apply ZO)<;>intro h|refine vc3 r1 ?_|refine vc3 r2 ?_|refine vc3 s2 ?_|refine vDq ?_)<;>first|simp only[go_sem,h,Yo,fld]|simp only[go_sem,Yo,fld]|skip)
  all_goals (clear hO f1 f2 s1 s2 r1 r2 hC hl hx okA okF;simp_all[YZ,Zh,fld])
 have e8:(x.kind==8)=false:=beq_eq_false_iff_ne.2 k8;rw[if_neg k8];have hk:x.kind=1\/x.kind=4\/x.kind=5:=by
  refine Kr λhne=> ?_
  simp[ZI,k2,k3,k6,k7,k8,k9,k10,show ¬x.kind=1 by omega,show ¬x.kind=4 by omega,show ¬x.kind=5 by omega]at hr
 obtain⟨c,hcc⟩:∃c,Zc x= [c]:=by
  rcases hk with h|h|h<;>simp[Zc,h]
 rw[hcc]at hC ⊢;refine Zx func157 rfl ntmps157 results157 (YO _) ?_;simp only[go_sem,Zh,lns,e2,e3,e9];refine vc2 f2 ?_;simp only[go_sem,Zca,fld];refine vc3 hC ?_;simp only[go_sem,refs,ref,e6,e7,e10,e8,YZ,Zh,fld];have hb':(b0 !=0)=true:=bne_iff_ne.2 hb;rw[if_pos hb];refine Zx func157 rfl ntmps157 results157 (YO _) ?_;simp only[go_sem,Zh,lns,e2,e3,e9];refine vc2 f2 ?_;simp only[go_sem,Zca,fld,hb',YZ,Zh]
open Go.PL
theorem ZiQ (l:List Tg):Jj (l.map tg)= []:=by
 induction l with
 |nil=>rfl
 |cons t l ih=>simp only[Jq,Jj,ih,tg,Jt,Je]
theorem SQ (l:List Tg):Sized 2 (l.map tg):=λe he=>by
 obtain⟨x,_,rfl⟩:=Ju.1 he;rfl
theorem ZiL (l:List Tg):XO (l.map tg):=λe he=>by
 obtain⟨x,_,rfl⟩:=Ju.1 he;rfl
def F0 (t:Tg):Bool:=decide (1<=t.r)&&(decide (t.r<=6)&&(decide (1<=t.n)&&decide (t.n<=1099511627776)))
theorem GD (t:Tg):Pp 100 [tg t] (.bool (F0 t)):=by
 refine ZM func100 rfl ntmps100 results100 ?_;simp only[go_sem,tg];repeat' ((first|(first|apply ZC|apply ZB|apply ZO)<;>intro h|refine vDq ?_)<;>first|simp only[go_sem,h]|simp only[go_sem]|skip)
 all_goals (simp_all[F0]<;>(intros;omega))
def Vw (a b:Tg):Bool:=if a.r=b.r then decide (a.n<b.n)else decide (a.r<b.r)
theorem ZcB (a b:Tg):Pp 120 [tg a,tg b] (.bool (Vw a b)):=by
 refine ZM func120 rfl ntmps120 results120 ?_;simp only[go_sem,tg];repeat' ((first|(first|apply ZC|apply ZB|apply ZO)<;>intro h|refine vDq ?_)<;>first|simp only[go_sem,h]|simp only[go_sem]|skip)
 all_goals simp_all[Vw]
open Go.PL
@[go_sem] theorem ZxO:tcv prog 2 235= .flt .f64:=by kernel_rfl
@[go_sem] theorem ZxN:tcv prog 235 2= .int .i64:=by kernel_rfl
theorem Zq7 (a b:Int):((Hs (compare a b):Option Ordering)==Hs .gt||(Hs (compare a b):Option Ordering)==Hs .eq)=decide (b<=a):=by
 rcases J6 a b with h|h|h;rw[J7.2 h,decide_eq_false (by omega)];rfl;subst h;rw[J8.2 rfl,decide_eq_true (by omega)];rfl;rw[J9.2 h,decide_eq_true (by omega)];rfl
theorem Zre (a b:Int):((Hs (compare a b):Option Ordering)==Hs .lt||(Hs (compare a b):Option Ordering)==Hs .eq)=decide (a<=b):=by
 rcases J6 a b with h|h|h;rw[J7.2 h,decide_eq_true (by omega)];rfl;subst h;rw[J8.2 rfl,decide_eq_true (by omega)];rfl;rw[J9.2 h,decide_eq_false (by omega)];rfl
theorem Zri (a b:Int):((Hs (compare a b):Option Ordering) !=Hs .eq)=decide (a≠b):=by
 rcases J6 a b with h|h|h;rw[J7.2 h,decide_eq_true (by omega)];rfl;subst h;rw[J8.2 rfl,decide_eq_false (by omega)];rfl;rw[J9.2 h,decide_eq_true (by omega)];rfl
theorem Znm:(4841369599423283200:Nat)=WU 4503599627370496:=by decide+kernel
theorem Znk:Ka .f64 4841369599423283200=WU (-4503599627370496):=by decide+kernel
theorem Zs7:Extern.findNext f259=none:=by kernel_rfl
theorem Zs6:Extern.find f259=Hs (Extern.MathFloor.toIntegral "math.archTrunc" .zero):=by kernel_rfl
theorem Zos (n:Int) (h:n.natAbs<2 ^ 53) (P:Program) (w:World):(Extern.MathFloor.toIntegral "math.archTrunc" .zero #[.float .f64 (WU n)]).run P w= .ok (.float .f64 (WU n)) w:=by
 obtain⟨s,m,p,hp⟩:=Znz n h;have ht:=ZqL n h;rw[hp]at ht;show(Extern.MathFloor.toIntegral.match_1 (λ_=>Sem Value) (FloatKind.f64.decode (WU n)) _ _:Sem Value).run P w=_;rw[hp];show Result.ok (Value.float .f64 (FloatKind.f64.encode ((Ieee.Datum.number s m p).integral .zero))) w=_;rw[ht]
theorem Zfi (n:Int) (h:n.natAbs<2 ^ 53):PL.Xt prog 259 [.flt .f64 (WU n)] (.flt .f64 (WU n)):=by
 intro w S vs hl hr;match vs,hl with
 | [v],_=>
  have h0:=hr 0 (by simp);simp only[Kg]at h0;cases h0;refine⟨.float .f64 (WU n),.flt _ _,?_⟩;rw[run_callFunc_extern func259 (by decide) rfl Zs7 Zs6];show((Extern.MathFloor.toIntegral "math.archTrunc" .zero #[.float .f64 (WU n)]).run prog w).andThen _=_;rw[Zos n h];rfl
theorem ZcC (n:Int) (h:n.natAbs<2 ^ 53):Pp 254 [.flt .f64 (WU n)] (.flt .f64 (WU n)):=by
 have hT:=Zfi n h;refine ZM func254 rfl ntmps254 results254 ?_;simp only[go_sem];refine ZqT hT ?_ ?_ ?_;simp only[go_sem];simp only[go_sem];simp only[go_sem]
theorem ZiE (a b:Nat):Pp 253 [.cpx .f64 a b] (.agg [.flt .f64 a,.flt .f64 b]):=by
 refine ZM func253 rfl ntmps253 results253 ?_;simp only[go_sem]
def Lim (n:Int):Prop:= -4503599627370496<=n/\n<=4503599627370496
theorem Lim.abs {n:Int} (h:Lim n):n.natAbs<2 ^ 53:=by have:=h.1;have:=h.2;omega
theorem ZiC (a b:Int) (ha:Lim a) (hb:Lim b):Pp 235 [.cpx .f64 (WU a) (WU b),.flt .f64 4841369599423283200] (.bool Ht):=by
 have hZ:=ZiE (WU a) (WU b);have hTa:=ZcC a ha.abs;have hTb:=ZcC b hb.abs;have m1:(4503599627370496:Int).natAbs<2 ^ 53:=by decide
 have m2:(-4503599627370496:Int).natAbs<2 ^ 53:=by decide
 have ga:(FloatKind.f64.format.order (WU a) (Ka .f64 4841369599423283200)==Hs .gt||FloatKind.f64.format.order (WU a) (Ka .f64 4841369599423283200)==Hs .eq)=true:=by
  rw[Znk,SL _ _ ha.abs m2,Zq7];simpa using ha.1
 have gb:(FloatKind.f64.format.order (WU b) (Ka .f64 4841369599423283200)==Hs .gt||FloatKind.f64.format.order (WU b) (Ka .f64 4841369599423283200)==Hs .eq)=true:=by
  rw[Znk,SL _ _ hb.abs m2,Zq7];simpa using hb.1
 have la:(FloatKind.f64.format.order (WU a) 4841369599423283200==Hs .lt||FloatKind.f64.format.order (WU a) 4841369599423283200==Hs .eq)=true:=by
  rw[Znm,SL _ _ ha.abs m1,Zre];simpa using ha.2
 have lb:(FloatKind.f64.format.order (WU b) 4841369599423283200==Hs .lt||FloatKind.f64.format.order (WU b) 4841369599423283200==Hs .eq)=true:=by
  rw[Znm,SL _ _ hb.abs m1,Zre];simpa using hb.2
 have na:(FloatKind.f64.format.order (WU a) (WU a) !=Hs .eq)=false:=by rw[SL _ _ ha.abs ha.abs,Zri];simp
 have nb:(FloatKind.f64.format.order (WU b) (WU b) !=Hs .eq)=false:=by rw[SL _ _ hb.abs hb.abs,Zri];simp
 have c0:((0:Nat):Int)=0:=rfl;have c1:((1:Nat):Int)=1:=rfl;have c2:((2:Nat):Int)=2:=rfl;have w0:IntKind.i64.wrap (0+1)=((1:Nat):Int):=by decide
 have w1:IntKind.i64.wrap (1+1)=((2:Nat):Int):=by decide
 refine ZM func235 rfl ntmps235 results235 ?_;simp only[go_sem];refine vc1 hZ ?_;simp only[go_sem];refine Zs (ι:= { k:Nat // k<=2 }) 29 (λx=> [(1,.flt .f64 4841369599423283200),(8,.agg [.flt .f64 (WU a),.flt .f64 (WU b)]),(9,.int .i64 (x.1:Int))]) (λx=> []) (λx=> []) (λx=>2-x.1) ⟨0,by omega⟩
  ⟨rfl,(Fc3 rfl rfl rfl),fnl,fnl⟩ (λx=>⟨Fc3 rfl (by simp[JE,JL]) rfl,fnl⟩) (λx=> ?_)
 obtain⟨k,hk⟩:=x;simp only;obtain rfl|rfl|rfl:k=0\/k=1\/k=2:=by omega
 simp only[go_sem,c0,ga,la];refine vc1 hTa ?_;simp only[go_sem,na,w0];exact⟨⟨1,by omega⟩,by show 2-1<2-0;omega,⟨rfl,(Fc3 rfl rfl rfl),fnl,fnl⟩⟩;simp only[go_sem,c1,gb,lb];refine vc1 hTb ?_;simp only[go_sem,nb,w1];exact⟨⟨2,by omega⟩,by show 2-2<2-1;omega,⟨rfl,(Fc3 rfl rfl rfl),fnl,fnl⟩⟩;simp only[go_sem,c2]
theorem DL (a b:Int) (ha:Lim a) (hb:Lim b):Pp 207 [.cpx .f64 (WU a) (WU b)] (.bool Ht):=by
 have hW:=ZiC a b ha hb;refine ZM func207 rfl ntmps207 results207 ?_;simp only[go_sem];refine vc1 hW ?_;simp only[go_sem]
theorem Sv (a b:Int) (ha:Lim a) (hb:Lim b):Pp 166 [.cpx .f64 (WU a) (WU b)] (.tup [.int .i64 a,.int .i64 b,.int .i64 0]):=by
 have hW:=DL a b ha hb;have ta:=Zjx a ha.abs;have tb:=Zjx b hb.abs;have l1:IntKind.i64.min<=a:=by rw[show IntKind.i64.min= -9223372036854775808 by decide];have:=ha.1;omega
 have l2:a<=IntKind.i64.max:=by rw[show IntKind.i64.max=9223372036854775807 by decide];have:=ha.2;omega
 have l3:IntKind.i64.min<=b:=by rw[show IntKind.i64.min= -9223372036854775808 by decide];have:=hb.1;omega
 have l4:b<=IntKind.i64.max:=by rw[show IntKind.i64.max=9223372036854775807 by decide];have:=hb.2;omega
 refine Zx func166 rfl ntmps166 results166 (rfl) ?_;simp only[go_sem];refine vc1 hW ?_;simp only[go_sem,ta,tb,l1,l2,l3,l4]
def YN (n:Int):Bool:=decide (-4503599627370496<=n)&&decide (n<=4503599627370496)
theorem Ys {n:Int}:YN n=Ht↔Lim n:=by simp[YN,Lim]
theorem ZfK (n:Int):Pp 206 [.int .i64 n] (.bool (YN n)):=by
 refine ZM func206 rfl ntmps206 results206 ?_;simp only[go_sem];repeat' ((first|(first|apply ZC|apply ZB|apply ZO)<;>intro h|refine vDq ?_)<;>first|simp only[go_sem,h]|simp only[go_sem]|skip)
 all_goals (simp_all[YN];try omega)
theorem ZgZ (a b:Int):Pp 164 [.int .i64 a,.int .i64 b] (if YN a=Ht/\YN b=Ht then .tup [.cpx .f64 (WU a) (WU b),.int .i64 0]else .tup [.cpx .f64 0 0,.int .i64 3]):=by
 have hA:=ZfK a;have hB:=ZfK b;have ea:FloatKind.f64.nearest a=WU a:=rfl;have eb:FloatKind.f64.nearest b=WU b:=rfl;cases h1:YN a;rw[h1]at hA;simp only[JA,false_and,if_false];refine Zx func164 rfl ntmps164 results164 (rfl) ?_;simp only[go_sem];refine vc1 hA ?_;simp only[go_sem];rw[h1]at hA;cases h2:YN b;rw[h2]at hB;simp only[JA,and_false,if_false];refine Zx func164 rfl ntmps164 results164 (rfl) ?_;simp only[go_sem];refine vc1 hA ?_;simp only[go_sem];refine vc1 hB ?_;simp only[go_sem];rw[h2]at hB;simp only[and_self,if_true];refine Zx func164 rfl ntmps164 results164 (rfl) ?_;simp only[go_sem];refine vc1 hA ?_;simp only[go_sem];refine vc1 hB ?_;simp only[go_sem,ea,eb]
theorem Zme (n:Int):Pp 261 [.int .i64 n] (.bool (!YN n)):=by
 refine ZM func261 rfl ntmps261 results261 ?_;simp only[go_sem];repeat' ((first|(first|apply ZC|apply ZB|apply ZO)<;>intro h|refine vDq ?_)<;>first|simp only[go_sem,h]|simp only[go_sem]|skip)
 all_goals (simp_all[YN];try omega)
 all_goals (rw[<-decide_not];congr 1;simp only[eq_iff_iff];omega)
open Go.PL
theorem X0:∀(a:Str),ZH a a=Hf
 | []=>rfl
 |x::a=>by
  have:=X0 a;unfold ZH at *;simp[Jy,this]
theorem Vj:∀ {a b c:Str},ZH a b=Ht->ZH b c=Ht->ZH a c=Ht
 | [],[],_,h,_=>by simp[ZH,Jy]at h
 | [],_::_,[],_,h=>by simp[ZH,Jy]at h
 | [],_::_,_::_,_,_=>by simp[ZH,Jy]
 |_::_,[],_,h,_=>by simp[ZH,Jy]at h
 |_::_,_::_,[],_,h=>by simp[ZH,Jy]at h
 |x::a,y::b,z::c,h1,h2=>by
  have ih:=Vj (a:=a) (b:=b) (c:=c);unfold ZH at *;simp only[Jy,Js,decide_eq_true_eq,Jn,beq_iff_eq]at *;rcases h1 with h1|⟨rfl,h1⟩;rcases h2 with h2|⟨rfl,h2⟩;exact .inl (UInt8.lt_trans h1 h2);exact .inl h1;rcases h2 with h2|⟨rfl,h2⟩;exact .inl h2;exact .inr ⟨rfl,ih h1 h2⟩
theorem Sz:∀(a b:Str),ZH a b=Ht\/a=b\/ZH b a=Ht
 | [],[]=> .inr (.inl rfl)
 | [],_::_=> .inl (by simp[ZH,Jy])
 |_::_,[]=> .inr (.inr (by simp[ZH,Jy]))
 |x::a,y::b=>by
  have ih:=Sz a b;unfold ZH at *;simp only[Jy,Js,decide_eq_true_eq,Jn,beq_iff_eq]at *;rcases Kl x.toNat y.toNat with h|h|h;exact .inl (.inl h);have e:x=y:=UInt8.toNat_inj.1 h;subst e;rcases ih with ih|rfl|ih;exact .inl (.inr ⟨rfl,ih⟩);exact .inr (.inl rfl);exact .inr (.inr (.inr ⟨rfl,ih⟩));exact .inr (.inr (.inl h))
theorem WK (a:Rf):Va a a=false:=by simp[Va,X0]
theorem Zp5 (a b:Rf):Va a b=Ht\/a=b\/Va b a=true:=by
 unfold Va;by_cases h1:a.sc=b.sc;by_cases h2:a.gr=b.gr;simp only[h1,h2,ne_eq,not_true_eq_false,if_false];rcases Sz a.nm b.nm with h|h|h;exact .inl h;exact .inr (.inl (by cases a;cases b;simp_all));exact .inr (.inr h);have h2':b.gr≠a.gr:=λe=>h2 e.symm
 simp only[h1,h2,h2',ne_eq,not_true_eq_false,not_false_eq_true,if_false,if_true];rcases Sz a.gr b.gr with h|h|h;exact .inl h;exact absurd h h2;exact .inr (.inr h);have h1':b.sc≠a.sc:=λe=>h1 e.symm
 simp only[h1,h1',ne_eq,not_false_eq_true,if_true,decide_eq_true_eq];omega
theorem Zeg {a b c:Rf} (h1:Va a b=Ht) (h2:Va b c=Ht):Va a c=true:=by
 unfold Va at *;by_cases e1:a.sc=b.sc;by_cases e2:b.sc=c.sc;simp only[e1,e2,ne_eq,not_true_eq_false,if_false]at *;by_cases g1:a.gr=b.gr;by_cases g2:b.gr=c.gr;simp only[g1,g2,not_true_eq_false,if_false]at *;exact Vj h1 h2;simp only[g1,g2,not_true_eq_false,not_false_eq_true,if_false,if_true]at *;exact h2;by_cases g2:b.gr=c.gr;rw[<-g2];simp only[g1,not_false_eq_true,if_true]at *;exact h1;simp only[g1,g2,not_false_eq_true,if_true]at *;have:=Vj h1 h2;have hn:¬a.gr=c.gr:=λe=>by rw[e,X0]at this;cases this
 simp only[hn,not_false_eq_true,if_true];exact this;simp only[e1,e2,ne_eq,not_false_eq_true,if_true]at *;exact h2;by_cases e2:b.sc=c.sc;rw[<-e2];simp only[e1,ne_eq,not_false_eq_true,if_true]at *;exact h1;simp only[e1,e2,ne_eq,not_false_eq_true,if_true,decide_eq_true_eq]at *;have hn:¬a.sc=c.sc:=by omega
 simp only[hn,not_false_eq_true,if_true,decide_eq_true_eq];omega
def Zl0 (l:List Fd):Prop:=l.Pairwise λa b=>Va a.at' b.at'=Ht
theorem Dk:∀ {l:List Fd},(∀i,i<l.length->i=0\/Va (l.getD (i-1) Jd).at' (l.getD i Jd).at'=Ht)->Zl0 l
 | [],_=>Kh.nil
 | [a],_=>List.pairwise_singleton _ _
 |a::b::l,h=>by
  have ih:Zl0 (b::l):=Dk λi hi=>by
   cases i with
   |zero=>exact .inl rfl
   |succ i=>
    have:=h (i+2) (by simp at hi ⊢;omega);right;simpa using this
  have hab:Va a.at' b.at'=true:=by simpa using h 1 (by simp)
  refine JP.2 ⟨λx hx=> ?_,ih⟩;rcases JN.1 hx with rfl|hx;exact hab;exact Zeg hab ((JP.1 ih).1 x hx)
theorem ZeE {l:List Fd} (h:Zl0 l):∀i,i<l.length->i=0\/Va (l.getD (i-1) Jd).at' (l.getD i Jd).at'=true:=λi hi=>by
 by_cases h0:i=0;exact .inl h0;right;rw[getD_lt (by omega),getD_lt hi];exact JM.1 h (i-1) i (by omega) hi (by omega)
theorem Z3 {l:List Fd}:Z5 l=Ht↔l.length<=16/\Zl0 l/\ ∀f∈l,Z1 f=true:=by
 unfold Z5;simp only[Jn,J5,decide_eq_false_iff_not,Jz,JK,VI,Js,decide_eq_true_eq];constructor;rintro ⟨h1,h2⟩;refine⟨by omega,Dk λi hi=>(h2 i hi).2,λf hf=> ?_⟩;obtain⟨i,hi,rfl⟩:=Jl hf;have:=(h2 i hi).1;rwa[getD_lt hi]at this;rintro ⟨h1,h2,h3⟩;exact⟨by omega,λi hi=>⟨h3 _ (Ze hi),ZeE h2 i hi⟩⟩
theorem Zez:∀ {l m:List Fd},Zl0 l->Zl0 m->(∀f,f∈l↔f∈m)->l=m
 | [],[],_,_,_=>rfl
 | [],b::m,_,_,h=>by have:=(h b).2 (by simp);cases this
 |a::l,[],_,_,h=>by have:=(h a).1 (by simp);cases this
 |a::l,b::m,h1,h2,h=>by
  obtain⟨p1,q1⟩:=JP.1 h1;obtain⟨p2,q2⟩:=JP.1 h2;have e:a=b:=by
   rcases JN.1 ((h a).1 (by simp))with e|ha;exact e;rcases JN.1 ((h b).2 (by simp))with e|hb;exact e.symm;have:=Zeg (p1 b hb) (p2 a ha);rw[WK]at this;cases this
  subst e;congr 1;refine Zez q1 q2 λf=>⟨λhf=> ?_,λhf=> ?_⟩
  rcases JN.1 ((h f).1 (by simp[hf]))with e|hf';subst e;have:=p1 f hf;rw[WK]at this;cases this;exact hf';rcases JN.1 ((h f).2 (by simp[hf]))with e|hf';subst e;have:=p2 f hf;rw[WK]at this;cases this;exact hf'
theorem Zh6 {l:List Fd} (h:Zl0 l) {f g:Fd} (hf:f∈l) (hg:g∈l) (e:f.at'=g.at'):f=g:=by
 obtain⟨i,hi,rfl⟩:=Jl hf;obtain⟨j,hj,rfl⟩:=Jl hg;rcases Kl i j with h1|h1|h1;have:=JM.1 h i j hi hj h1;rw[e,WK]at this;cases this;subst h1;rfl;have:=JM.1 h j i hj hi h1;rw[e,WK]at this;cases this
open Go.PL
structure Nd where
 e:Eg
 st:Int
 sch:List Fd
 dep:Int
 deriving DecidableEq,Inhabited
def nd (n:Nd):PV:= .agg [.int .i64 n.e.id.r,.int .i64 n.e.id.n,.int .i64 n.e.par.r,.int .i64 n.e.par.n,.int .i64 n.e.ln.kind,.int .i64 n.e.ln.at'.sc,.str n.e.ln.at'.gr,.str n.e.ln.at'.nm,.str n.e.ln.nm,.str n.e.ln.ot,.int .i64 n.e.ln.fac,.int .i64 n.e.ln.fd.at'.sc,.str n.e.ln.fd.at'.gr,.str n.e.ln.fd.at'.nm,.int .i64 n.e.ln.fd.kind,.str n.e.ln.fd.df,.sl .no (n.e.ln.fd.cases'.map .str),.int .i64 n.e.ln.fd.worth,.sl .no (n.e.ln.fo.map pr),.sl .no (n.e.ln.ba.map pr),.int .i64 n.st,.sl .no (n.sch.map fld),.int .i64 n.dep]
def kts (l:List Nd):List PV:=l.map λn=>tg n.e.id
def nds (l:List Nd):List PV:=l.map nd
def tr (l:List Nd):PV:= .rptr [.rmap (kts l) (nds l)]
theorem vc5 {x:Bool} {M:KH} {g:FuncId} {args args':List PV} {K:KR} {r:PV} (h1:PL.Pure prog g args' r) (h2:K.k r M.m) (h0:Ke M.m args:=by first|(simp only[go_sem,ref,ent,Yd,doc,Yo,row,Zh,fld,lns,tg,refs,prs,pr,eg,egs,tgs,lg,lgs,tr];done)|exact rfl) (he:Kq M.m args=args':=by first|(simp only[go_sem,ref,ent,Yd,doc,Yo,row,Zh,fld,lns,tg,refs,prs,pr,eg,egs,tgs,lg,lgs,tr];done)|exact rfl):@U9 prog x M (Hs (g,args)) K:=YD h1 h0 he h2
def mc (l:List Nd):MapC:=⟨kts l,nds l⟩
theorem ZiP (l:List Pr):Jj (l.map pr)= []:=by
 induction l with
 |nil=>rfl
 |cons t l ih=>simp only[Jq,Jj,ih,pr,Jt,Je]
theorem Zhx (e:Eg):(eg e).dids= []:=by simp only[eg,Jt,Jj,ZiP,WF,Je]
theorem ZhQ (n:Nd):(nd n).dids= []:=by simp only[nd,Jt,Jj,ZiP,Zfv,WF,Je]
theorem Zom (t:Tg):(tg t).dids= []:=by simp only[tg,Jt,Jj,Je]
theorem VP {α:Type} (f:α->PV) (h:∀x,(f x).nomap=Ht) (l:List α):Kf (l.map f)=true:=D7.2 λc hc=>by
 obtain⟨x,_,rfl⟩:=Ju.1 hc;exact h x
theorem SJ (l:List Str):Kf (l.map .str)=true:=VP _ (λ_=>rfl) l
theorem Znv (l:List Pr):Kf (l.map pr)=true:=VP _ (λ_=>rfl) l
theorem Zny (f:Fd):(fld f).nomap=true:=by simp only[fld,PV.nomap,Kf,SJ,Jm]
theorem Zqd (n:Nd):(nd n).nomap=true:=by simp only[nd,PV.nomap,Kf,Znv,SJ,VP _ Zny,Jm]
theorem ZcR (id:Tg):∀(l:List Nd) (i:Nat),Tn [.int,.int] [.int .i64 id.r,.int .i64 id.n] (kts l) i=Hs ((l.findIdx? λn=>decide (id=n.e.id)).map (· + i))
 | [],i=>rfl
 |n::l,i=>by
  have ih:=ZcR id l (i+1);simp only[kts,tg]at ih;simp only[kts,Jq,tg,Tn,ZS,UV,if_true,List.findIdx?_cons,Ks,Z4];by_cases h:id=n.e.id;simp[h];simp only[h,decide_false,ih];simp only[JA,if_false,Option.map_map];congr 2;funext x;simp;omega
theorem YG (id:Tg) (l:List Nd):Tn [.int,.int] [.int .i64 id.r,.int .i64 id.n] (kts l) 0=Hs (l.findIdx? λn=>decide (id=n.e.id)):=by
 rw[ZcR];congr 1;cases List.findIdx? (λn=>decide (id=n.e.id)) l<;>rfl
def DV (l:List Nd) (id:Tg):Option Nd:=l.find? λn=>decide (id=n.e.id)
theorem TX {l:List Nd} {id:Tg}:(l.findIdx? λn=>decide (id=n.e.id))=none↔DV l id=none:=by
 unfold DV;rw[JB,JZ];simp
theorem TY {l:List Nd} {id:Tg} {i:Nat} (h:(l.findIdx? λn=>decide (id=n.e.id))=Hs i):i<l.length/\DV l id=Hs (l.getD i Jd):=by
 rw[Jp]at h;obtain⟨h1,h2,h3⟩:=h;refine⟨h1,?_⟩;unfold DV;rw[JT];exact⟨by rw[getD_lt h1];exact h2,i,h1,(getD_lt h1).symm,λj hj=>by simpa using h3 j hj⟩
theorem Za9 {l:List Nd} {i:Nat} (h:i<l.length):(nds l).getD i .any=nd (l.getD i Jd):=XR h
theorem ZmR {l:List Nd} {i:Nat} (h:i<l.length):(kts l).getD i .any=tg (l.getD i Jd).e.id:=XR (d:=Jd) h
theorem DK:Pp 104 [] (tg Jd):=by
 refine Zx func104 rfl ntmps104 results104 (rfl) ?_;simp only[go_sem];rfl
theorem Zke:Pp 117 [] (Zh Tx):=by
 refine Zx func117 rfl ntmps117 results117 (Vp _) ?_;simp only[go_sem];repeat((with_reducible refine And.intro ?_ ?_);(focus((repeat' (with_reducible apply And.intro))<;>(first|omega|exact Yw (by omega) (by omega)|exact Yw (by simp;omega) (by omega)|exact ZZ _|(simp;done)|(simp;omega)))))
 rfl
def Zgr:Nd:=⟨Jd,2,Tx,0⟩
def atN (l:List Nd) (id:Tg):Nd:=if id=Jd then Zgr else(DV l id).getD Jd
theorem Zrg:PL.Mk prog 23 [] (λb=> .rptr [.mref b]) (mc []):=by
 refine PL.Mk.of_v func23 (by decide) rfl ntmps23 results23 (by simp) (λb=>rfl) ?_;simp only[go_sem];intro b;exact⟨b,3,[.mref b],rfl,by simp,rfl,by simp[mc,kts,nds],rfl⟩
theorem Zmc (l:List Nd) (id:Tg):Pp 74 [tr l,tg id] (nd (atN l id)):=by
 unfold atN;by_cases h:id=Jd;rw[if_pos h];subst h;refine Zx func74 rfl ntmps74 results74 (ZhQ _) ?_;simp only[go_sem,tr,tg];refine vDq ?_;simp only[go_sem];refine vc3 DK ?_;simp only[go_sem,tg];refine vc3 Zke ?_;simp only[go_sem,Zh];rfl;rw[if_neg h];have hd:decide (id=Jd)=false:=by simpa using h
 refine Zx func74 rfl ntmps74 results74 (ZhQ _) ?_;simp only[go_sem,tr,tg];refine vDq ?_;simp only[go_sem];refine vc3 DK ?_;simp only[go_sem,tg,Z4,hd];cases hf:l.findIdx? (λn=>decide (id=n.e.id))with
 |none=>
  have:=TX.1 hf;refine vDq ?_;simp only[go_sem,YG,hf,this,Option.getD_none];rfl
 |some i=>
  obtain⟨h1,h2⟩:=TY hf;refine vDq ?_;simp only[go_sem,YG,hf,h2,Option.getD_some,Za9 h1,nd]
open Go.PL
def Gc (e:Eg):Bool:=F0 e.id&&((decide (e.par=Jd)||(F0 e.par&& !decide (e.par=e.id)))&&(decide (1<=e.ln.kind)&&(decide (e.ln.kind<=8)&&ZI e.ln)))
theorem FN {t:Tg} (h:F0 t=Ht):t≠Jd:=λe=>by subst e;exact absurd h (by decide)
theorem Zh5 {x:Ln} (h:ZI x=Ht):1<=x.kind:=by
 unfold ZI at h;split at h;rename_i hk;omega;split at h;omega;split at h;omega;split at h;omega;split at h;omega;split at h;omega;simp only[Jn,decide_eq_true_eq]at h;omega
theorem Zlo (e:Eg) (he:OkLn e.ln):Pp 63 [eg e] (.bool (Gc e)):=by
 have hT:=GD e.id;have hU:=GD e.par;have hR:=WY e.ln he;unfold Gc;cases ht:F0 e.id;rw[ht]at hT;refine ZM func63 rfl ntmps63 results63 ?_;simp only[go_sem,eg];refine vc3 hT ?_;simp only[go_sem,Jc];rw[ht]at hT;generalize hdp:decide (e.par=Jd)=dp at *;generalize hde:decide (e.par=e.id)=de at *;generalize F0 e.par=tp at *;generalize ZI e.ln=rl at *;have hdp':(e.par.r==0&&e.par.n==0)=dp:=by rw[<-hdp];exact Z4 e.par Jd
 refine ZM func63 rfl ntmps63 results63 ?_;simp only[go_sem,eg];refine vc3 hT ?_;simp only[go_sem];cases dp<;>cases tp<;>cases de
 all_goals
  refine vDq ?_;simp only[go_sem];refine vc3 DK ?_;simp only[go_sem,tg,Z4,hdp,hde,hdp']
  (try refine vc3 hU ?_)
  (try simp only[go_sem,Z4,hde])
  (try repeat' ((first|(first|apply ZC|apply ZB|apply ZO)<;>intro h|refine vc3 hR ?_|refine vDq ?_)<;>first|simp only[go_sem,h]|simp only[go_sem]|skip))
  (try(all_goals simp_all))
open Go.PL
theorem TQ (t:Tg):Pp 93 [tg t] (.bool (F0 t)):=by
 refine ZM func93 rfl ntmps93 results93 ?_;simp only[go_sem,tg];repeat' ((first|(first|apply ZC|apply ZB|apply ZO)<;>intro h|refine vDq ?_)<;>first|simp only[go_sem,h]|simp only[go_sem]|skip)
 all_goals (simp only[decide_eq_true_eq,decide_eq_false_iff_not]at *;rw[Jf];simp[F0];omega)
theorem Zwd (e:Eg):Gc e=(F0 e.id&&((decide (e.par=Jd)||F0 e.par)&&(!decide (e.id=e.par)&&(ZI e.ln&&decide (e.ln.kind<9))))):=by
 unfold Gc;rw[Jf];simp only[Jn,Js,decide_eq_true_eq,J5,decide_eq_false_iff_not];constructor;rintro ⟨h1,h2,h3,h4,h5⟩;refine⟨h1,?_,?_,h5,by omega⟩;rcases h2 with h2|h2;exact .inl h2;exact .inr h2.1;rcases h2 with h2|h2;exact λe1=>FN h1 (e1.trans h2)
 exact λe1=>h2.2 e1.symm
 rintro ⟨h1,h2,h3,h4,h5⟩;refine⟨h1,?_,Zh5 h4,by omega,h4⟩;rcases h2 with h2|h2;exact .inl h2;exact .inr ⟨h2,λe1=>h3 e1.symm⟩
theorem Zj2 (e:Eg) (he:OkLn e.ln):Pp 60 [eg e] (.bool (Gc e)):=by
 have hT:=TQ e.id;have hU:=TQ e.par;have hR:=Un e.ln he;rw[Zwd];generalize hdp:decide (e.par=Jd)=dp at *;generalize hde:decide (e.id=e.par)=de at *;generalize F0 e.par=tp at *;generalize F0 e.id=ti at *;generalize ZI e.ln=rl at *;have hdp':(e.par.r==0&&e.par.n==0)=dp:=by rw[<-hdp];exact Z4 e.par Jd
 refine ZM func60 rfl ntmps60 results60 ?_;simp only[go_sem,eg,hdp',Z4,hde];repeat' ((first|(first|apply ZC|apply ZB|apply ZO)<;>intro h|refine vc3 hT ?_|refine vc3 hU ?_|refine vc3 hR ?_|refine vDq ?_)<;>first|simp only[go_sem,h,hdp',Z4,hde]|simp only[go_sem,hdp',Z4,hde]|skip)
 all_goals simp_all
theorem Zlt (a b:Eg) (ha:OkLn a.ln) (hb:OkLn b.ln):Pp 64 [eg a,eg b] (.bool (decide (a=b))):=by
 have hE:=Zcr a.ln b.ln ha hb;refine ZM func64 rfl ntmps64 results64 ?_;simp only[go_sem,eg,Z4];repeat' ((first|(first|apply ZC|apply ZB|apply ZO)<;>intro h|refine vc3 hE ?_|refine vDq ?_)<;>first|simp only[go_sem,h,Z4]|simp only[go_sem,Z4]|skip)
 all_goals (clear hE ha hb;cases a;cases b;simp_all)
theorem Zg5 (a b:Eg) (ha:OkLn a.ln) (hb:OkLn b.ln):Pp 62 [eg a,eg b] (.bool (decide (a=b))):=by
 have hE:=Zg7 a.ln b.ln ha hb;refine ZM func62 rfl ntmps62 results62 ?_;simp only[go_sem,eg,Z4];repeat' ((first|(first|apply ZC|apply ZB|apply ZO)<;>intro h|refine vc3 hE ?_|refine vDq ?_)<;>first|simp only[go_sem,h,Z4]|simp only[go_sem,Z4]|skip)
 all_goals (clear hE ha hb;cases a;cases b;simp_all)
theorem ZgF (e:Eg) (he:OkLn e.ln):Pp 65 [eg e] (eg e):=by
 have hO:=Zav e.ln he;refine Zx func65 rfl ntmps65 results65 (Zhx _) ?_;simp only[go_sem,eg];refine vDq ?_;simp only[go_sem];refine vc3 hO ?_;simp only[go_sem,lns];rfl
def Tv (p:Pr):Bool:=WM 200 p.fr'||WM 200 p.to'
def GX (l:List Pr):Bool:=decide (20<(l.length:Int))||l.any Tv
theorem Fs (l:List Pr) (hl:l.length<=maxLen):Pp 59 [prs l] (.bool (GX l)):=by
 by_cases h20:(20:Int)<(l.length:Int);refine ZM func59 rfl ntmps59 results59 ?_;simp only[go_sem,prs,h20,GX];have hx:GX l=l.any Tv:=by simp only[GX,h20,decide_false,JV]
 rw[hx];refine ZM func59 rfl ntmps59 results59 ?_;simp only[go_sem,prs,h20];refine Zs (ι:= { x:Nat // x<=(l).length/\(∀j,j<x->Tv (l.getD j Jd)=Hf) }) 29 (λx=> [(0,prs l),(3,.int .i64 (x.1:Int))]) (λx=> []) (λx=> []) (λx=>(l).length-x.1) ⟨0,Jg _,λj hj=>absurd hj (Jh j)⟩ ⟨rfl,(Fc2 rfl rfl),fnl,fnl⟩ (λx=>⟨(Fc2 rfl rfl),fnl⟩) (λx=> ?_);obtain⟨k,hk,hI⟩:=x;simp only at hk hI ⊢;by_cases h:(k:Int)<(l.length:Int)
 (have hka:k<(l).length:=by omega);(have w1:=Xi hka (hl));(have i1:=Ja k)
 by_cases g1:(200:Int)<((l.getD k Jd).fr'.length:Int);have hz:=Ti (p:=Tv) hka (d:=Jd) (by simp only[Tv,WM,Js,decide_eq_true_eq];omega);simp only[go_sem,prs,h,Yp hka,pr,i1,g1,hz];by_cases g2:(200:Int)<((l.getD k Jd).to'.length:Int);have hz:=Ti (p:=Tv) hka (d:=Jd) (by simp only[Tv,WM,Js,decide_eq_true_eq];omega);simp only[go_sem,prs,h,Yp hka,pr,i1,g1,g2,hz]
 ·simp only[go_sem,prs,h,Yp hka,pr,i1,g1,g2,w1];exact⟨⟨k+1,by(try simp only);omega,Zm hI (by simp only[Tv,WM,Jv,decide_eq_false_iff_not];omega)⟩,by show(l).length-(k+1)<(l).length-k;omega,⟨rfl,(Fc2 rfl rfl),fnl,fnl⟩⟩
 have hz:=UN (p:=Tv) (d:=Jd) (l:=l) (λj hj=>hI j (by omega));simp only[go_sem,prs,h,hz]
theorem Zwg (s:Str):WM 200 s=decide ((200:Int)<(s.length:Int)):=rfl
def UD (x:Ln):Bool:=WM 200 x.at'.gr||(WM 200 x.at'.nm||(WM 200 x.nm||(WM 200 x.ot||(FG x.fd||(GX x.fo||GX x.ba)))))
structure LenLn (x:Ln):Prop where
 c:x.fd.cases'.length<=maxLen
 f:x.fo.length<=maxLen
 b:x.ba.length<=maxLen
theorem ZdM (x:Ln) (hx:LenLn x):Pp 24 [lns x] (.bool (UD x)):=by
 have hF:=Ze4 x.fd hx.c;have hP:=Fs x.fo hx.f;have hQ:=Fs x.ba hx.b;unfold UD;generalize FG x.fd=a1 at *;generalize GX x.fo=a2 at *;generalize GX x.ba=a3 at *;refine ZM func24 rfl ntmps24 results24 ?_;simp only[go_sem,lns];repeat' ((first|(first|apply ZC|apply ZB|apply ZO)<;>intro h|refine vc3 hF ?_|refine vc3 hP ?_|refine vc3 hQ ?_|refine vDq ?_)<;>first|simp only[go_sem,h]|simp only[go_sem]|skip)
 all_goals (clear hF hP hQ hx;simp only[Zwg, *,JY,Kb,JV,Kt])
def Zbb (l:List Eg) (most:Int):Bool:=decide (most<(l.length:Int))||l.any λe=>UD e.ln
theorem Ze3 (l:List Eg) (most:Int) (hl:l.length<=maxLen) (hx:∀e∈l,LenLn e.ln):Pp 6 [egs l,.int .i64 most] (.bool (Zbb l most)):=by
 by_cases hm:most<(l.length:Int);refine ZM func6 rfl ntmps6 results6 ?_;simp only[go_sem,egs,hm,Zbb];have hz:Zbb l most=l.any λe=>UD e.ln:=by simp only[Zbb,hm,decide_false,JV]
 rw[hz];refine ZM func6 rfl ntmps6 results6 ?_;simp only[go_sem,egs,hm];refine Zs (ι:= { x:Nat // x<=(l).length/\(∀j,j<x->UD (l.getD j Jd).ln=Hf) }) 22 (λx=> [(0,egs l),(5,.int .i64 (x.1:Int))]) (λx=> []) (λx=> []) (λx=>(l).length-x.1) ⟨0,Jg _,λj hj=>absurd hj (Jh j)⟩ ⟨rfl,(Fc2 rfl rfl),fnl,fnl⟩ (λx=>⟨(Fc2 rfl rfl),fnl⟩) (λx=> ?_);obtain⟨k,hk,hI⟩:=x;simp only at hk hI ⊢;by_cases h:(k:Int)<(l.length:Int)
 (have hka:k<(l).length:=by omega);(have w1:=Xi hka (hl));(have i1:=Ja k)
 have hF:=ZdM (l.getD k Jd).ln (hx _ (Zp hka));cases hf:UD (l.getD k Jd).ln
 ·rw[hf]at hF;simp only[go_sem,egs,h,XW hka,eg,i1];refine vc3 hF ?_;simp only[go_sem,w1];exact⟨⟨k+1,by(try simp only);omega,Zm hI hf⟩,by show(l).length-(k+1)<(l).length-k;omega,⟨rfl,(Fc2 rfl rfl),fnl,fnl⟩⟩
 rw[hf]at hF;have hz:=Ti (p:=λe:Eg=>UD e.ln) hka hf;simp only[go_sem,egs,h,XW hka,eg,i1];refine vc3 hF ?_;simp only[go_sem,hz];have hz:=UN (p:=λe:Eg=>UD e.ln) (d:=Jd) (l:=l) (λj hj=>hI j (by omega));simp only[go_sem,egs,h,hz]
theorem ZnC {x:Ln} (h:UD x=Hf):OkLn x:=by
 simp only[UD,FG,ZcV,GX,Jv,decide_eq_false_iff_not]at h;obtain⟨_,_,_,_,⟨⟨_,_,_,h1⟩,_⟩,⟨h2,_⟩,h3,_⟩:=h;exact⟨by omega,by omega,by omega⟩
open Go.PL Go.PL.Srt
structure SortK {α:Type} (pv:α->PV) (g:FuncId) (lt:α->α->Bool) (cv:α->α->Int):Prop where
 len:∀a,(pv a).cells.length=15
 atom:∀a,(pv a).cells.all PV.atom=Ht
 ids:∀a,(pv a).ids= []
 known:∀a,(pv a).known=Ht
 give:∀a m,(pv a).give m=pv a
 givable:∀a m,(pv a).givable m
 part:∀a,Vs Ht 15 (pv a).cells 0=pv a
 cmp:∀a b,Pp g [pv a,pv b] (.int .i64 (cv a b))
 cv:∀a b,decide (cv a b<0)=lt a b
 good:Srt.Good lt
theorem Zv3 {x:Int} (h0:0<=x) (h1:x<=9223372036854775807):IntKind.i64.wrap x=x:=w64 (by omega)
section
variable {α:Type} [Inhabited α] {pv:α->PV} {g:FuncId} {lt:α->α->Bool} {cv:α->α->Int}
theorem Zee (K:SortK pv g lt cv) (e:TypeId) (n:Nat) (X L Y:List α) (hU:Unl lt L) (hn:X.length+L.length+Y.length=n) (hm:n<=1000000000000) (r:List PV) (hr:r=(X++(srt lt L++Y)).map pv):
  Eff prog 118 [.vsl 1000 n 15,.int .i64 (X.length:Int),.int .i64 ((X.length+L.length:Nat):Int),.fn g []] (Sb n 15 e ((X++(L++Y)).map pv)) (.tup []) (Sb n 15 e r):=by
 subst hr;have hc:∀l:List α,∀p∈l.map pv,p.ids= []:=λl=>WJ K.ids l
 refine Eff.vw [] func118 (by decide) rfl ntmps118 results118 (by simp) (hc _) (hc _) (by simp[JE,JL]) (by simp[JE,JL]) λq=> ?_
 have w1:IntKind.i64.wrap ((X.length:Int)+1)=((X.length+1:Nat):Int):=by rw[Zv3 (by omega) (by omega)];rfl
 have klen:=K.len;have kpart:=K.part;have katom:=K.atom;have kknown:=K.known;simp only[go_sem]at klen kpart katom kknown;have one:∀l:List α,srt lt (l.take 1)=l.take 1:=λl=>by cases l<;>rfl
 simp only[go_sem,w1];refine SZ (ι:= { k:Nat // 1<=k/\(k<=L.length\/k=1) }) 53 (λx=> [(0,.vsl 1000 n 15),(1,.int .i64 (X.length:Int)),(2,.int .i64 ((X.length+L.length:Nat):Int)),(3,.fn g []),(8,.int .i64 ((X.length+x.1:Nat):Int))]) (λ_=> []) (λ_=> [(1000,.vec n 15 e)]) (λ_=> []) (λ_=> []) (λx=> [(1000,(X++(srt lt (L.take x.1)++(L.drop x.1++Y))).map pv)]) (λ_=> []) [] [(1000,q)] [] (λx=>L.length-x.1) ⟨1,by omega,.inr rfl⟩
  (FF rfl (Fc5 rfl rfl rfl rfl rfl) rfl (by rw[one,<-List.append_assoc (Kn 1 L),List.take_append_drop];rfl) rfl) (λx=>Zap (by simp[JE,JL,ZX]) (Vq K.ids _)) (λx=> ?_)
 obtain⟨k,hk1,hk2⟩:=x;simp only;by_cases hk:k<L.length
 ·have c1:((X.length+k:Nat):Int)<((X.length+L.length:Nat):Int):=by omega
  have eD:L.drop k=L.getD k Jd::L.drop (k+1):=by rw[J3 hk,getD_lt hk]
  have eT:L.take (k+1)=L.take k++ [L.getD k Jd]:=by rw[JD hk,getD_lt hk]
  have hUk:Unl lt (L.take k++ [L.getD k Jd]):=by rw[<-eT];exact Kh.sublist (List.take_sublist _ _) hU
  have hUt:=(Unl.append.1 hUk).1;have hinc:=ZbL K.good hUt;have hlenT:(L.take k).length=k:=by rw[Jo];omega
  generalize hx:L.getD k Jd=x at *;generalize hD:L.drop (k+1)=D at *;generalize hs:srt lt (L.take k)=sk at *;have hsl:sk.length=k:=by rw[<-hs,Wu];omega
  rw[eD];simp only[go_sem,c1];refine SZ (ι:= { pq:List α×List α // pq.1++pq.2=sk/\ ∀y∈pq.2,lt x y=Ht }) 53 (λy=> [(0,.vsl 1000 n 15),(1,.int .i64 (X.length:Int)),(2,.int .i64 ((X.length+L.length:Nat):Int)),(3,.fn g []),(8,.int .i64 ((X.length+k:Nat):Int)),(9,.int .i64 ((X.length+y.1.1.length:Nat):Int))]) (λ_=> []) (λ_=> [(1000,.vec n 15 e)]) (λ_=> []) (λ_=> []) (λy=> [(1000,(X++(y.1.1++x::(y.1.2++(D++Y)))).map pv)]) (λ_=> []) [] [(1000,q)] [] (λy=>y.1.1.length) ⟨(sk,[]),by simp,by simp⟩
   (FF rfl (by rw[show(⟨(sk,[]),by simp,by simp⟩: { pq:List α×List α // pq.1++pq.2=sk/\ ∀y∈pq.2,lt x y=Ht }).1.1.length=k from hsl];exact(Fc6 rfl rfl rfl rfl rfl rfl)) rfl (by show Hs _=Hs _;simp) rfl) (λy=>Zap (by simp[JE,JL,ZX]) (Vq K.ids _)) (λy=> ?_)
  obtain⟨⟨A,C⟩,hAC,hC⟩:=y;simp only;have w2:IntKind.i64.wrap (((X.length+k:Nat):Int)+1)=((X.length+(k+1):Nat):Int):=by rw[Zv3 (by omega) (by omega)];omega
  have hLD:L.length=k+1+D.length:=by rw[<-hD,List.length_drop];omega
  have hACl:A.length+C.length=k:=by rw[<-hsl,<-hAC];simp
  have next:∀M:List α,srt lt (L.take (k+1))=M->(X++(M++(D++Y)))=(X++(srt lt (L.take (k+1))++(L.drop (k+1)++Y))):=λM h=>by rw[h,hD]
  have hCx:∀c∈C,lt x c=true:=hC;have fin:(∀p∈A,lt p x=Ht)->srt lt (L.take (k+1))=A++x::C:=λhp=>by
   refine Zoh K.good (by rw[hAC];exact hinc) hp hCx ?_;rw[eT];have p1:(A++x::C).Perm (x::(A++C)):=List.perm_middle;refine p1.trans ?_;rw[hAC,<-hs];exact((WQ (L.take k)).cons x).trans (List.perm_append_comm (l₁:= [x]))
  rcases List.eq_nil_or_concat A with hA|⟨A',y,hA⟩
  ·subst hA;have fin:=fin (by simp);have e9:X.length+([]:List α).length=X.length:=by simp
   rw[e9];have d1:¬((X.length:Int)<(X.length:Int)):=by omega
   simp only[go_sem,d1];refine vDq ?_;simp only[go_sem,d1,w2];refine⟨⟨k+1,by omega,by omega⟩,nx9 (by omega),FF rfl (Fc5 rfl rfl rfl rfl rfl) rfl ?_ rfl⟩;show Hs _=Hs _;rw[<-next _ fin];simp
  have hA:A=A'++ [y]:=by simpa using hA
  subst hA;obtain⟨j,hj⟩:∃j,j=X.length+A'.length:=⟨_,rfl⟩;have e9:X.length+(A'++ [y]).length=j+1:=by simp;omega
  simp only[JI,List.length_singleton]at hACl;rw[e9];have el:X++((A'++ [y])++x::(C++(D++Y)))=(X++A')++y::([]++x::(C++(D++Y))):=by simp
  rw[el];generalize hl:(X++A')++y::([]++x::(C++(D++Y)))=l;have hln:l.length=n:=by rw[<-hl];simp;omega
  have g0:(l.map pv).getD j .any=pv y:=by rw[GW (by omega),<-hl,DZ _ _ _ (by simp;omega)]
  have g1:(l.map pv).getD (j+1) .any=pv x:=by
   rw[GW (by omega),<-hl,show(X++A')++y::([]++x::(C++(D++Y)))=(X++A'++ [y])++x::(C++(D++Y))by simp,DZ _ _ _ (by simp;omega)]
  have w3:IntKind.i64.wrap (((j+1:Nat):Int)-1)=(j:Int):=by rw[Zv3 (by omega) (by omega)];omega
  have d1:(X.length:Int)<((j+1:Nat):Int):=by omega
  have b1:0<=((j+1:Nat):Int)/\((j+1:Nat):Int)<(n:Int):=by omega
  have b0:0<=(j:Int)/\(j:Int)<(n:Int):=by omega
  have hv:=K.cv x y;simp only[go_sem,d1];refine vDq ?_;simp only[go_sem,d1,w3,b1.1,b1.2,b0.1,b0.2,g0,g1,klen,kpart,hln];refine YD (K.cmp x y) ?_ ?_ ?_;simp only[go_sem,K.give,K.givable];simp only[go_sem,K.give,K.givable];by_cases hxy:lt x y=Ht
  ·rw[hxy]at hv;have g2:((l.set (j+1) y).map pv).getD j .any=pv y:=by
    rw[GW (by simp;omega),<-GW (pv:=pv) (by simp;omega),<-Zaf,ZfP (by omega),g0]
   have es:(l.set (j+1) y).set j x=X++(A'++x::((y::C)++(D++Y))):=by
    have h:=Zso (X++A') [] (C++(D++Y)) y x (i:=j) (j:=j+1) (by simp;omega) (by simp;omega);rw[hl,Zok _ _ _ (by omega) (by omega)]at h;have d0:l.getD j Jd=y:=by rw[<-hl];exact DZ _ _ _ (by simp;omega)
    have d1:l.getD (j+1) Jd=x:=by
     rw[<-hl,show(X++A')++y::([]++x::(C++(D++Y)))=(X++A'++ [y])++x::(C++(D++Y))by simp,DZ _ _ _ (by simp;omega)]
    unfold swap at h
    rw[d0,d1]at h;rw[h];simp
   simp only[go_sem,hv,of_decide_eq_true hv];refine vDq ?_;simp only[go_sem,w3,b1.1,b1.2,b0.1,b0.2,g0,g1,klen,kpart,katom,kknown,hln,Zaf,g2,List.length_set,es];subst hj;exact⟨⟨(A',y::C),by simpa using hAC,λz hz=>by
    rcases JN.1 hz with rfl|hz;exact hxy;exact hCx z hz⟩,by show A'.length<(A'++ [y]).length;simp,FF rfl (Fc6 rfl rfl rfl rfl rfl rfl) rfl rfl rfl⟩
  have hv':¬cv x y<0:=by
   have:lt x y=false:=by simpa using hxy
   rw[this]at hv;simpa using hv
  have hy:y∈L.take k:=by rw[<-Zog (lt:=lt),hs,<-hAC];simp
  have hyx:lt y x=true:=((Unl.append.1 hUk).2.2 y hy x (by simp)).resolve_right hxy;have hA2:∀p∈A',lt p y=true:=λp hp=>by
   rw[<-hAC]at hinc;exact(Inc.append.1 (Inc.append.1 hinc).1).2.2 p hp y (by simp)
  have fin:=fin λp hp=>by
   rcases List.mem_append.1 hp with hp|hp;exact K.good.trans _ _ _ (hA2 p hp) hyx;simp only[List.mem_singleton]at hp;subst hp;exact hyx
  simp only[go_sem,hv',w2];refine⟨⟨k+1,by omega,by omega⟩,nx9 (by omega),FF rfl (Fc5 rfl rfl rfl rfl rfl) rfl ?_ rfl⟩;show Hs _=Hs _;rw[<-next _ fin,<-hl];simp
 have c1:¬((X.length+k:Nat):Int)<((X.length+L.length:Nat):Int):=by omega
 have e1:L.take k=L:=List.take_of_length_le (by omega);have e2:L.drop k= []:=List.drop_eq_nil_of_le (by omega);simp only[go_sem,c1];refine ZhA (r0:= .tup []) (hc _) rfl (.clean rfl) rfl ?_ rfl;show Hs _=Hs _;rw[e1,e2];simp
end
open Go.PL Go.PL.Srt
section
variable {α:Type} [Inhabited α] {pv:α->PV} {g:FuncId} {lt:α->α->Bool} {cv:α->α->Int}
theorem Zot {A B:List α} (h:Unl lt B) (s:A.Sublist B):Unl lt A:=Kh.sublist s h
theorem FH (K:SortK pv g lt cv) (e:TypeId) (n:Nat) (X L Y:List α) (hU:Unl lt L) (hn:X.length+L.length+Y.length=n) (hm:n<=1000000000000) (l0 r:List PV) (hl0:l0=(X++(L++Y)).map pv) (hr:r=(X++(srt lt L++Y)).map pv) (ia ib:Int) (ha:ia=(X.length:Int)) (hb:ib=((X.length+L.length:Nat):Int)):
  Eff prog 118 [.vsl 1000 n 15,.int .i64 ia,.int .i64 ib,.fn g []] (Sb n 15 e l0) (.tup []) (Sb n 15 e r):=by
 subst ha hb hl0;exact Zee K e n X L Y hU hn hm r hr
theorem Zlm (K:SortK pv g lt cv) (e:TypeId) (n:Nat) (hm:n<=20) (L:List α) (hU:Unl lt L) (hn:L.length=n) (r:List PV) (hr:r=(srt lt L).map pv):
  Eff prog 76 [.vsl 1000 n 15,.int .i64 (n:Int),.fn g []] (Sb n 15 e (L.map pv)) (.tup []) (Sb n 15 e r):=by
 subst hr;have hcl:∀l:List α,∀p∈l.map pv,p.ids= []:=λl=>WJ K.ids l
 refine Eff.vw [] func76 (by decide) rfl ntmps76 results76 (by simp) (hcl _) (hcl _) (by simp[JE,JL]) (by simp[JE,JL]) λq=> ?_
 simp only[go_sem];refine SZ (ι:= { s:List α×List α // s.1++srt lt s.2=srt lt L/\s.1.length+s.2.length=n/\s.2.Sublist L }) 63 (λy=> [(0,.vsl 1000 n 15),(1,.int .i64 (n:Int)),(2,.fn g []),(6,.int .i64 20),(7,.int .i64 (y.1.1.length:Int)),(8,.int .i64 ((y.1.1.length+20:Nat):Int))]) (λ_=> []) (λ_=> [(1000,.vec n 15 e)]) (λ_=> []) (λ_=> []) (λy=> [(1000,(y.1.1++y.1.2).map pv)]) (λ_=> []) [] [(1000,q)] [] (λy=>y.1.2.length) ⟨([],L),rfl,by simpa using hn,List.Sublist.refl L⟩
  (FF rfl (Fc6 rfl rfl rfl rfl rfl rfl) rfl rfl rfl) (λx=>Zap (by simp[JE,JL,ZX]) (Vq K.ids _)) (λy=> ?_)
 obtain⟨⟨D,R⟩,h1,h2,h3⟩:=y;simp only at h1 h2 h3 ⊢;by_cases hk:20<=R.length;have c1:((D.length+20:Nat):Int)<=(n:Int):=by omega
 have w1:IntKind.i64.wrap (((D.length+20:Nat):Int)+20)=((D.length+20+20:Nat):Int):=by rw[Zv3 (by omega) (by omega)];omega
 simp only[go_sem,c1];refine Dv 1000 (FH K e n D R [] (Zot hU h3) (by simpa using h2) (by omega) _ ((D++srt lt R).map pv) (by simp) (by simp) _ _ rfl (by omega)) (by simp[JE,JL]) (hcl _) (hcl _) rfl rfl rfl ?_;simp only[go_sem,w1];refine⟨⟨(D++srt lt R,[]),by rw[<-h1];simp[srt],by simp[Wu];omega,List.nil_sublist _⟩,by show 0<R.length;omega,FF rfl ?_ rfl (by show Hs _=Hs _;simp) rfl⟩;show ∀x∈ [(0,PV.vsl 1000 n 15),(1,.int .i64 (n:Int)),(2,.fn g []),(6,.int .i64 20),(7,.int .i64 ((D++srt lt R).length:Int)),(8,.int .i64 (((D++srt lt R).length+20:Nat):Int))],_;rw[show(D++srt lt R).length=D.length+20 by simp[Wu];omega];exact(Fc6 rfl rfl rfl rfl rfl rfl);have c1:¬((D.length+20:Nat):Int)<=(n:Int):=by omega
 simp only[go_sem,c1];refine Dv 1000 (FH K e n D R [] (Zot hU h3) (by simpa using h2) (by omega) _ ((srt lt L).map pv) (by simp) (by rw[Je,h1]) _ _ rfl (by omega)) (by simp[JE,JL]) (hcl _) (hcl _) rfl rfl rfl ?_;clear h1 h2 h3 hk c1;simp only[go_sem];refine SZ (ι:=Unit) 63 (λ_=> [(0,.vsl 1000 n 15),(1,.int .i64 (n:Int)),(2,.fn g []),(6,.int .i64 20)]) (λ_=> []) (λ_=> [(1000,.vec n 15 e)]) (λ_=> []) (λ_=> []) (λ_=> [(1000,(srt lt L).map pv)]) (λ_=> []) [] [(1000,q)] [] (λ_=>0) ()
  (FF rfl (Fc4 rfl rfl rfl rfl) rfl rfl rfl) (λx=>Zap (by simp[JE,JL,ZX]) (Vq K.ids _)) (λy=> ?_)
 have c1:¬(20:Int)<(n:Int):=by omega
 simp only[go_sem,c1];exact ZhA (r0:= .tup []) (hcl _) rfl (.clean rfl) rfl rfl rfl
theorem SV (K:SortK pv g lt cv) (e:TypeId) (n:Nat) (hm:n<=20) (L:List α) (hU:Unl lt L) (hn:L.length=n) (r:List PV) (hr:r=(srt lt L).map pv):
  Eff prog 31 [.vsl 1000 n 15,.fn g []] (Sb n 15 e (L.map pv)) (.tup []) (Sb n 15 e r):=by
 subst hr;have hcl:∀l:List α,∀p∈l.map pv,p.ids= []:=λl=>WJ K.ids l
 refine Eff.vw [] func31 (by decide) rfl ntmps31 results31 (by simp) (hcl _) (hcl _) (by simp[JE,JL]) (by simp[JE,JL]) λq=> ?_
 simp only[go_sem];refine Dv 1000 (Zlm K e n hm L hU hn _ rfl) (by simp[JE,JL]) (hcl _) (hcl _) rfl rfl rfl ?_;simp only[go_sem];exact ZhA (r0:= .tup []) (hcl _) rfl (.clean rfl) rfl rfl rfl
end
open Go.Shelf
def Zh8:Go.Shelf.Ren:=⟨λ|190=>115|125=>168|258=>167|128=>217|129=>218|302=>208|303=>209|304=>210|305=>211|306=>212|307=>213|308=>214|309=>215|310=>216|333=>236|329=>237|330=>238|334=>239|335=>240|336=>241|344=>255|n=>n,λ|31=>63|9=>9|3=>3|46=>216|0=>0|51=>247|53=>249|4=>4|183=>239|182=>238|131=>244|5=>5|218=>263|222=>267|228=>284|229=>285|n=>n,λ|n=>n⟩
theorem Zn6:Go.Proofs.Lays.n190 prog Zh8 where
 mixed:=by kernel_rfl
 f125:=func168.trans (congrArg Hs (by kernel_rfl))
 f128:=func217.trans (congrArg Hs (by kernel_rfl))
 f129:=func218.trans (congrArg Hs (by kernel_rfl))
 f190:=func115.trans (congrArg Hs (by kernel_rfl))
 f258:=func167.trans (congrArg Hs (by kernel_rfl))
 f302:=func208.trans (congrArg Hs (by kernel_rfl))
 f303:=func209.trans (congrArg Hs (by kernel_rfl))
 f304:=func210.trans (congrArg Hs (by kernel_rfl))
 f305:=func211.trans (congrArg Hs (by kernel_rfl))
 f306:=func212.trans (congrArg Hs (by kernel_rfl))
 f307:=func213.trans (congrArg Hs (by kernel_rfl))
 f308:=func214.trans (congrArg Hs (by kernel_rfl))
 f309:=func215.trans (congrArg Hs (by kernel_rfl))
 f310:=func216.trans (congrArg Hs (by kernel_rfl))
 f329:=func237.trans (congrArg Hs (by kernel_rfl))
 f330:=func238.trans (congrArg Hs (by kernel_rfl))
 f333:=func236.trans (congrArg Hs (by kernel_rfl))
 f334:=func239.trans (congrArg Hs (by kernel_rfl))
 f335:=func240.trans (congrArg Hs (by kernel_rfl))
 f336:=func241.trans (congrArg Hs (by kernel_rfl))
 f344:=func255.trans (congrArg Hs (by kernel_rfl))
 t0:=underlying0
 a0:=isAgg0
 z0:=sizeOf0
 v0:=zeroValue0
 t3:=underlying3
 a3:=isAgg3
 z3:=sizeOf3
 v3:=zeroValue3
 t4:=underlying4
 a4:=isAgg4
 z4:=sizeOf4
 v4:=zeroValue4
 t5:=underlying5
 a5:=isAgg5
 z5:=sizeOf5
 v5:=zeroValue5
 t9:=underlying9
 a9:=isAgg9
 z9:=sizeOf9
 v9:=zeroValue9
 t31:=underlying63
 a31:=isAgg63
 z31:=sizeOf63
 v31:=zeroValue63
 t46:=underlying216
 a46:=isAgg216
 z46:=sizeOf216
 v46:=zeroValue216
 t51:=underlying247
 a51:=isAgg247
 z51:=sizeOf247
 v51:=zeroValue247
 t53:=underlying249
 a53:=isAgg249
 z53:=sizeOf249
 v53:=zeroValue249
 t131:=underlying244
 a131:=isAgg244
 z131:=sizeOf244
 v131:=zeroValue244
 t182:=underlying238
 a182:=isAgg238
 z182:=sizeOf238
 v182:=zeroValue238
 t183:=underlying239
 a183:=isAgg239
 z183:=sizeOf239
 v183:=zeroValue239
 t218:=underlying263
 a218:=isAgg263
 z218:=sizeOf263
 v218:=zeroValue263
 t222:=underlying267
 a222:=isAgg267
 z222:=sizeOf267
 v222:=zeroValue267
 t228:=underlying284
 a228:=isAgg284
 z228:=sizeOf284
 v228:=zeroValue284
 t229:=underlying285
 a229:=isAgg285
 z229:=sizeOf285
 v229:=zeroValue285
def Zht:Go.Shelf.Ren:=⟨λ|194=>116|n=>n,λ|31=>63|9=>9|3=>3|4=>4|0=>0|n=>n,λ|n=>n⟩
theorem Zmr:Go.Proofs.Lays.n194 prog Zht where
 mixed:=by kernel_rfl
 f194:=func116.trans (congrArg Hs (by kernel_rfl))
 t0:=underlying0
 a0:=isAgg0
 z0:=sizeOf0
 v0:=zeroValue0
 t3:=underlying3
 a3:=isAgg3
 z3:=sizeOf3
 v3:=zeroValue3
 t4:=underlying4
 a4:=isAgg4
 z4:=sizeOf4
 v4:=zeroValue4
 t9:=underlying9
 a9:=isAgg9
 z9:=sizeOf9
 v9:=zeroValue9
 t31:=underlying63
 a31:=isAgg63
 z31:=sizeOf63
 v31:=zeroValue63
open Go.PL
theorem Zmd (l:List Rw):XO (l.map row):=λe he=>by
 obtain⟨t,_,rfl⟩:=Ju.1 he;rfl
theorem Zqv (r:Rw):(row r).dids= []:=by simp only[row,Jt,Jj,GS,Je]
theorem Zmy (l:List Rw):Jj (l.map row)= []:=by
 induction l with
 |nil=>rfl
 |cons t l ih=>simp only[Jq,Jj,ih,Zqv,Je]
theorem ZpI (d:Dc):(doc d).dids= []:=by simp only[doc,Jt,Jj,GS,Zmy,Je]
def ZlK (i:Nat) (l:List Rw):Nat->PV
 |0=> .sl .nil []
 |k+1=> .sl (.row i) ((l.take (k+1)).map row)
def ZlL (i:Nat):Nat->List (Nat×Row)
 |0=> []
 |k+1=> [(i,.live (k+1) 2 109)]
open Go.PL
theorem Zaq (a b:En) (ha:a.l.length<=maxLen) (hb:b.l.length<=maxLen):Pp 123 [ent a,ent b] (.bool (decide (a=b))):=by
 have hE:=Zcp a.l b.l ha hb;refine ZM func123 rfl ntmps123 results123 ?_;simp only[go_sem,ent,Zr,List.append_eq,List.cons_append];repeat' ((first|(first|apply ZC|apply ZB|apply ZO)<;>intro h|refine vc1 hE ?_|refine vDq ?_)<;>first|simp only[go_sem,h,Zr]|simp only[go_sem,Zr]|skip)
 all_goals (clear hE ha hb;(cases a;cases b;simp_all)<;>rfl)
open Go.PL
theorem ZdG (l:List Str) (hl:l.length<=1000000):Pp 173 [Yo l] (Yo l):=by
 cases l with
 |nil=>
  refine Zx func173 rfl ntmps173 results173 (Uj _) ?_;simp only[go_sem,Yo];intro b;cases b;simp only[go_sem,Yo];exact Yw (by omega) (by omega);simp only[go_sem,Yo]
 |cons x l=>
  have hr:=Yw (show(x::l).length<=100000000000 by omega) (show 16<=1000 by omega);have hs:=ZZ (x::l);have ha:=Yz (x::l);simp only[Jq]at hs ha;refine Zx func173 rfl ntmps173 results173 (Uj _) ?_;simp only[go_sem,Yo,hs,ha];exact hr
theorem UH (e:En) (he:e.l.length<=1000000):Pp 124 [ent e] (ent e):=by
 have hC:=ZdG e.l he;refine Zx func124 rfl ntmps124 results124 (Xq _) ?_;simp only[go_sem,ent];refine vc1 hC ?_;simp only[go_sem,ent,Yo]
open Go.PL
theorem ZdP (f:Fd):Pp 140 [fld f] (ent (Z6 f)):=by
 by_cases h1:f.kind=1;have k1:(f.kind==1)=true:=by rw[h1];rfl
 refine Zx func140 rfl ntmps140 results140 (Xq _) ?_;simp only[go_sem,fld,k1,Z6,ent,h1,if_true];have k1:(f.kind==1)=false:=beq_eq_false_iff_ne.2 h1;by_cases h4:f.kind=4;have k4:(f.kind==4)=true:=by rw[h4];rfl
 refine Zx func140 rfl ntmps140 results140 (Xq _) ?_;simp only[go_sem,fld,k1,k4,Z6,ent,h4,if_true];have k4:(f.kind==4)=false:=beq_eq_false_iff_ne.2 h4;refine Zx func140 rfl ntmps140 results140 (Xq _) ?_;simp only[go_sem,fld,k1,k4,Z6,ent,h1,h4,or_self,if_false]
open Go.PL
end Go.Proofs.YtadgngamdofhiaaGreat
namespace Go.PL
open Go.RowKit
theorem Rep.cells_at {S:Stable} {v:Value} {es:List PV} {sz:Nat} (r:Rep S v (.sl .no es)) (hz:∀i,i<es.length->(es.getD i .any).cells.length=sz):
  ∃(A:Option Addr) (cap:Nat) (vs:Nat->Nat->Value),v= .slice A es.length cap/\(0<es.length-> ∃b o,A=Hs ⟨b,o,none⟩/\
   ∀i j,i<es.length->j<sz->S b (o+i*sz+j)=Hs (vs i j))/\(∀i j,i<es.length->j<sz->Rep S (vs i j) ((es.getD i .any).cells.getD j .any)):=by
 generalize hes:es=es' at r;cases r with
 |sl0 a cap=>subst hes;exact⟨a,cap,λ_ _=>undef,rfl,λh=>absurd h (by simp),λi j hi=>absurd hi (by simp)⟩
 |sl b o cap sz' es vals hsz hcap hS hR=>
  subst hes;refine⟨_,cap,vals,rfl,λh=>⟨b,o,rfl,λi j hi hj=> ?_⟩,λi j hi hj=> ?_⟩
  ·have:=(hsz i hi).symm.trans (hz i hi);subst this;exact hS i j hi hj
  ·have:=(hsz i hi).symm.trans (hz i hi);subst this;exact hR i j hi hj
theorem GU {n k:Nat} (h:k<n):(Kv n).take (k+1)=(Kv n).take k++ [⟨k,h⟩]:=by
 rw[JD (by simpa using h)];simp
section
variable {P:Program} {n:Nat} {ops:Array Oper} {rest:List Oper} {Q:Exit->Act->World->Prop} {a:Act} {w:World}
theorem ZiD {dst:Option Nat} {t ty:TypeId} {x:Operand} {pos:String} {after:Array Edge} {A:Addr} {v:Value} (hx:a.eval x= .pointer (Hs A)) (hl:(loadVar t A).run P w= .ok v w) (h:wpListIn Fence.wide n P ops Q rest (a.put dst v) w):
  wpListIn Fence.wide n P ops Q (⟨dst,.load t x,ty,pos,after,none⟩::rest) a w:=by
 refine wpListIn_plain rfl λK hK'=> ?_
 unfold Oper.wpIn;refine⟨λ_ _=>trivial,?_⟩;rw[Oper.semAt_plain Fence.wide _ _ (by intro c hc';cases hc')];simp[execOp,Instr.loadAt,Instr.sureAddr,hx,hl,Result.andThen,Kx];exact hK' _ _ h
theorem ZnX {t:TypeId} {d:TypeDesc} (hu:P.underlying t=Hs d) {b o sz:Nat} {vals:Nat->Value} (hg:Yy P t=Ht) (hz:tsz P t=sz) (hc:∀j,j<sz->w.cell? ⟨b,o+j,none⟩=Hs (vals j)):
  (loadVar t ⟨b,o,none⟩).run P w= .ok (.agg ⟨(Jr sz).map vals⟩) w:=by
 subst hz;obtain⟨i,hi⟩:=XK hu;have hl:=run_loadCells (P:=P) (w:=w) (⟨b,o,none⟩:Addr) (tsz P t) vals (λj hj=>by rw[YQ];exact hc _ hj);unfold loadVar;simp only[Kx,Uf hu,Result.andThen_ok,hg,if_true,YE hi,hl,Sem.run_pure]
end
end Go.PL
namespace Go.Proofs.YtadgngamdofhiaaGreat
open Go.PL Go.RowKit
open Go.PL
def Zq9 (l:List Tg) (t:Tg):Int:=idx (λx=>decide (x=t)) l
theorem ZaA (l:List Tg) (t:Tg) (hl:l.length<=maxLen):Pp 138 [tgs l,tg t] (.int .i64 (Zq9 l t)):=Zcw l t hl
theorem ZrS {l:List Tg} {t:Tg} (h:t∉l):Zq9 l t= -1:=by
 unfold Zq9;apply We (d:=Jd);intro j hj;rw[decide_eq_false_iff_not];intro e;exact h (e▸Ze hj)
theorem ZpT {l:List Tg} {t:Tg} (h:t∈l):0<=Zq9 l t:=by
 unfold Zq9 idx;cases hf:l.findIdx? λx=>decide (x=t)with
 |none=>rw[JB]at hf;have:=hf t h;simp at this
 |some i=>simp
open Go.PL
open Go.PL
open Go.ChangeShapes Go.WideShapes Go.ChangeAt Go.RowKit
theorem own:ownKnob prog.godebug=Option.none:=by kernel_rfl
theorem laidOut:laidOutB prog=true:=by kernel_rfl
theorem lays:Zc7 prog=true:=by kernel_rfl
theorem Zr5:ZeP prog 63=false:=by kernel_rfl
theorem ZtP:ZeP prog 74=false:=by kernel_rfl
theorem ZtN:ZeP prog 22=false:=by kernel_rfl
structure LenLn' (x:Ln):Prop where
 c:x.fd.cases'.length<=maxLen
 f:x.fo.length<=maxLen
 b:x.ba.length<=maxLen
theorem Zsf {cs:List PV} (h:PT prog 63 cs):∃l:List Str,cs= [.sl .no (l.map .str)]/\l.length<=maxLen:=by
 obtain⟨l,rfl,h1,h2⟩:=h.slice_inv Zr5 underlying63;obtain⟨xs,rfl,_⟩:=Sw (enc:=Ky) (Q:=λ_=>True) (λp hp=>by
  obtain⟨s,rfl,_⟩:=(h2 p hp).string underlying9;exact⟨s,rfl,trivial⟩)
 exact⟨xs,rfl,by simpa using h1⟩
theorem Zgh {cs:List PV} (h:PT prog 25 cs):∃r:Tg,cs= [.int .i64 r.r,.int .i64 r.n]:=by
 have h1:PTs prog [3,3] cs:=h.struct_inv underlying25;obtain⟨a,b,rfl,h2,h3⟩:=h1.cons_inv;obtain⟨c,d,rfl,h4,h5⟩:=h3.cons_inv;obtain⟨x,rfl,_⟩:=h2.int_inv underlying3;obtain⟨y,rfl,_⟩:=h4.int_inv underlying3;rw[h5.nil_inv];exact⟨⟨x,y⟩,rfl⟩
theorem Zji {cs:List PV} (h:PT prog 27 cs):∃r:Rf,cs= [.int .i64 r.sc,.str r.gr,.str r.nm]:=by
 have h1:PTs prog [3,9,9] cs:=h.struct_inv underlying27;obtain⟨a,b,rfl,h2,h3⟩:=h1.cons_inv;obtain⟨c,d,rfl,h4,h5⟩:=h3.cons_inv;obtain⟨e,f,rfl,h6,h7⟩:=h5.cons_inv;obtain⟨x,rfl,_⟩:=h2.int_inv underlying3;obtain⟨y,rfl,_⟩:=h4.string_inv underlying9;obtain⟨z,rfl,_⟩:=h6.string_inv underlying9;rw[h7.nil_inv];exact⟨⟨x,y,z⟩,rfl⟩
theorem ZtZ {cs:List PV} (h:PT prog 73 cs):∃f:Fd,cs= [.int .i64 f.at'.sc,.str f.at'.gr,.str f.at'.nm,.int .i64 f.kind,.str f.df,.sl .no (f.cases'.map .str),.int .i64 f.worth]/\f.cases'.length<=maxLen:=by
 have h1:PTs prog [27,3,9,63,2] cs:=h.struct_inv underlying73;obtain⟨a1,b1,rfl,h2,h3⟩:=h1.cons_inv;obtain⟨a2,b2,rfl,h4,h5⟩:=h3.cons_inv;obtain⟨a3,b3,rfl,h6,h7⟩:=h5.cons_inv;obtain⟨a4,b4,rfl,h8,h9⟩:=h7.cons_inv;obtain⟨a5,b5,rfl,h10,h11⟩:=h9.cons_inv;obtain⟨r,rfl⟩:=Zji h2;obtain⟨x,rfl,_⟩:=h4.int_inv underlying3;obtain⟨y,rfl,_⟩:=h6.string_inv underlying9;obtain⟨l,rfl,hl⟩:=Zsf h8;obtain⟨z,rfl,_⟩:=h10.int_inv underlying2;rw[h11.nil_inv];exact⟨⟨r,x,y,l,z⟩,rfl,hl⟩
theorem Zsb {p:PV} (h:PA prog 162 p):∃e:Pr,p=pr e:=by
 obtain⟨cs,rfl,h1⟩:=PA.agg ZqE h;have h1:PTs prog [9,9] cs:=h1.struct_inv underlying162;obtain⟨a,b,rfl,h2,h3⟩:=h1.cons_inv;obtain⟨c,d,rfl,h4,h5⟩:=h3.cons_inv;obtain⟨x,rfl,_⟩:=h2.string_inv underlying9;obtain⟨y,rfl,_⟩:=h4.string_inv underlying9;rw[h5.nil_inv];exact⟨⟨x,y⟩,rfl⟩
theorem Zrm {cs:List PV} (h:PT prog 74 cs):∃l:List Pr,cs= [.sl .no (l.map pr)]/\l.length<=maxLen:=by
 obtain⟨l,rfl,h1,h2⟩:=h.slice_inv ZtP underlying74;obtain⟨xs,rfl,_⟩:=Sw (enc:=pr) (Q:=λ_=>True) (λp hp=>by
  obtain⟨s,rfl⟩:=Zsb (h2 p hp);exact⟨s,rfl,trivial⟩)
 exact⟨xs,rfl,by simpa using h1⟩
def Zp9 (x:Ln):List PV:= [.int .i64 x.kind,.int .i64 x.at'.sc,.str x.at'.gr,.str x.at'.nm,.str x.nm,.str x.ot,.int .i64 x.fac,.int .i64 x.fd.at'.sc,.str x.fd.at'.gr,.str x.fd.at'.nm,.int .i64 x.fd.kind,.str x.fd.df,.sl .no (x.fd.cases'.map .str),.int .i64 x.fd.worth,.sl .no (x.fo.map pr),.sl .no (x.ba.map pr)]
theorem Zse {cs:List PV} (h:PT prog 76 cs):∃x:Ln,cs=Zp9 x/\LenLn' x:=by
 have h1:PTs prog [3,27,9,9,2,73,74,74] cs:=h.struct_inv underlying76;obtain⟨a1,b1,rfl,h2,h3⟩:=h1.cons_inv;obtain⟨a2,b2,rfl,h4,h5⟩:=h3.cons_inv;obtain⟨a3,b3,rfl,h6,h7⟩:=h5.cons_inv;obtain⟨a4,b4,rfl,h8,h9⟩:=h7.cons_inv;obtain⟨a5,b5,rfl,h10,h11⟩:=h9.cons_inv;obtain⟨a6,b6,rfl,h12,h13⟩:=h11.cons_inv;obtain⟨a7,b7,rfl,h14,h15⟩:=h13.cons_inv;obtain⟨a8,b8,rfl,h16,h17⟩:=h15.cons_inv;obtain⟨x1,rfl,_⟩:=h2.int_inv underlying3;obtain⟨x2,rfl⟩:=Zji h4;obtain⟨x3,rfl,_⟩:=h6.string_inv underlying9;obtain⟨x4,rfl,_⟩:=h8.string_inv underlying9;obtain⟨x5,rfl,_⟩:=h10.int_inv underlying2;obtain⟨x6,rfl,k6⟩:=ZtZ h12;obtain⟨x7,rfl,k7⟩:=Zrm h14;obtain⟨x8,rfl,k8⟩:=Zrm h16;rw[h17.nil_inv];exact⟨⟨x1,x2,x3,x4,x5,x6,x7,x8⟩,rfl,⟨k6,k7,k8⟩⟩
theorem Zsa {p:PV} (h:PA prog 78 p):∃e:Eg,p=eg e/\LenLn' e.ln:=by
 obtain⟨cs,rfl,h1⟩:=PA.agg Zst h;have h1:PTs prog [25,25,76] cs:=h1.struct_inv underlying78;obtain⟨a1,b1,rfl,h2,h3⟩:=h1.cons_inv;obtain⟨a2,b2,rfl,h4,h5⟩:=h3.cons_inv;obtain⟨a3,b3,rfl,h6,h7⟩:=h5.cons_inv;obtain⟨x1,rfl⟩:=Zgh h2;obtain⟨x2,rfl⟩:=Zgh h4;obtain⟨x3,rfl,k3⟩:=Zse h6;rw[h7.nil_inv];exact⟨⟨x1,x2,x3⟩,rfl,k3⟩
theorem pa_edges {p:PV} (h:PA prog 22 p):∃l:List Eg,p=egs l/\l.length<=maxLen/\ ∀e∈l,LenLn' e.ln:=by
 obtain⟨l,rfl,h1,h2⟩:=h.slice ZtN underlying22;obtain⟨xs,rfl,h3⟩:=Sw (λp hp=>Zsa (h2 p hp));exact⟨xs,rfl,by simpa using h1,h3⟩
theorem pa_tag {p:PV} (h:PA prog 25 p):∃t:Tg,p=tg t:=by
 obtain⟨cs,rfl,h1⟩:=PA.agg Zsq h;obtain⟨r,rfl⟩:=Zgh h1;exact⟨r,rfl⟩
theorem pa_ref {p:PV} (h:PA prog 27 p):∃r:Rf,p=ref r:=by
 obtain⟨cs,rfl,h1⟩:=PA.agg Zsr h;obtain⟨r,rfl⟩:=Zji h1;exact⟨r,rfl⟩
end Go.Proofs.YtadgngamdofhiaaGreat
