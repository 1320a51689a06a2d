/- Lemmas of the proof. -/
import Derived.Test.YtepchngegclagaaGreatPlH
import Derived.Test.YtepchngegclagaaGreatProg
import Derived.KernelRfl
import Derived.Shelf.Slices.CompactS
import Derived.Shelf.Sort.Plain
import Derived.Shelf.Slices.In.SortNone
import Derived.Shelf.SlSortCmp.WholeK
open Inhabited renaming default→Jd
open Option renaming some→Hs
open Bool renaming true→Ht,false→Hf
open Go.Proofs.Tryz
open Go Go.PL
open Bool renaming false_and→Je,true_and→Jj,and_eq_false_iff→JE,or_eq_false_iff→JG,and_eq_true→JN,eq_iff_iff→JQ,or_eq_true→JS,not_false→JU,not_true→JV
open Int renaming natCast_nonneg→Jp
open List renaming take_append_drop→Ja,append_assoc→Jb,getD_eq_getElem?_getD→Jc,length_take→Jg,length_eq_zero_iff→Jh,getElem_of_mem→Jk,getElem_mem→Jl,sublist_append_right→Jm,take_succ_eq_append_getElem→Jn,sublist_append_left→Jo,length_drop→Jq,take→Jr,findIdx?_eq_some_iff_getElem→Jt,Pairwise→Ju,length_set→Jv,drop_eq_getElem_cons→Jw,all_eq_false→Jy,getElem?_eq_getElem→Jz,all_eq_true→JA,perm_middle→JB,length_eq_one_iff→JC,Sublist→JD,perm_append_comm→JF,mem_range→JH,map_cons→JJ,range→JK,mem_map→JL,drop_length→JO,take_length→JP,append_nil→JR
open Nat renaming le_refl→Js,zero_le→JI,not_lt_zero→JT,lt_or_ge→JW,sub_zero→JX
open PV renaming idsL→Jf,ids→Ji,didsL→JM,givableL→JY,dids→JZ,str→J2
open Srt renaming Good→J3
namespace Go.Proofs.YtepchngegclagaaGreat
set_option maxHeartbeats 64000000
set_option maxRecDepth 20000
set_option linter.unusedVariables false
set_option linter.unusedSectionVars false
set_option linter.unusedSimpArgs false
open Go.PL
@[go_sem] theorem Zvh:tkn prog 2=true:=by kernel_rfl
@[go_sem] theorem Zvm:tsz prog 2=1:=by kernel_rfl
@[go_sem] theorem Zt8:Ys prog 2=false:=by kernel_rfl
@[go_sem] theorem Zvi:tkn prog 3=true:=by kernel_rfl
@[go_sem] theorem Zvn:tsz prog 3=1:=by kernel_rfl
@[go_sem] theorem Zt9:Ys prog 3=false:=by kernel_rfl
@[go_sem] theorem Zvj:tkn prog 4=true:=by kernel_rfl
@[go_sem] theorem Zvo:tsz prog 4=1:=by kernel_rfl
@[go_sem] theorem Zua:Ys prog 4=false:=by kernel_rfl
@[go_sem] theorem Zun:Zfj prog 4= .bool:=by kernel_rfl
@[go_sem] theorem Zvk:tkn prog 9=true:=by kernel_rfl
@[go_sem] theorem Zvp:tsz prog 9=1:=by kernel_rfl
@[go_sem] theorem Zub:Ys prog 9=false:=by kernel_rfl
@[go_sem] theorem Zvg:tix prog 9= .str:=by kernel_rfl
@[go_sem] theorem ZuL:Ze1 prog 9= .str:=by kernel_rfl
@[go_sem] theorem Zuo:tix prog 22= .slc 20 true:=by kernel_rfl
@[go_sem] theorem Ztz:Ze1 prog 22= .slc:=by kernel_rfl
@[go_sem] theorem Zsv:WW prog 22=Hs ⟨82,20,264⟩:=by kernel_rfl
@[go_sem] theorem Zuw:tkn prog 23=true:=by kernel_rfl
@[go_sem] theorem ZuM:tsz prog 23=1:=by kernel_rfl
@[go_sem] theorem Zs4:Ys prog 23=false:=by kernel_rfl
@[go_sem] theorem Zup:tix prog 23= .slc 15 true:=by kernel_rfl
@[go_sem] theorem ZtA:Ze1 prog 23= .slc:=by kernel_rfl
@[go_sem] theorem Zsw:WW prog 23=Hs ⟨48,15,176⟩:=by kernel_rfl
@[go_sem] theorem Zux:tkn prog 25=true:=by kernel_rfl
@[go_sem] theorem ZuN:tsz prog 25=2:=by kernel_rfl
@[go_sem] theorem Zps:Ys prog 25=true:=by kernel_rfl
@[go_sem] theorem ZsI:V7 prog 25=Hs [.int .i64 0,.int .i64 0]:=by kernel_rfl
@[go_sem] theorem Zrf:WC prog 25 0=Hs (0,1,Hf):=by kernel_rfl
@[go_sem] theorem Zrg:WC prog 25 1=Hs (1,1,Hf):=by kernel_rfl
@[go_sem] theorem Zuc:tbd prog 25= .str [(0,1),(1,1)] [.int .i64 0,.int .i64 0]:=by kernel_rfl
@[go_sem] theorem Zqt:ZaI prog 25=Hs [.int,.int]:=by kernel_rfl
@[go_sem] theorem Zuy:tkn prog 27=true:=by kernel_rfl
@[go_sem] theorem ZuO:tsz prog 27=3:=by kernel_rfl
@[go_sem] theorem Zs5:Ys prog 27=true:=by kernel_rfl
@[go_sem] theorem ZsJ:V7 prog 27=Hs [.int .i64 0,.str [],.str []]:=by kernel_rfl
@[go_sem] theorem Zrh:WC prog 27 0=Hs (0,1,Hf):=by kernel_rfl
@[go_sem] theorem Zri:WC prog 27 1=Hs (1,1,Hf):=by kernel_rfl
@[go_sem] theorem Zrj:WC prog 27 2=Hs (2,1,Hf):=by kernel_rfl
@[go_sem] theorem Zud:tbd prog 27= .str [(0,1),(1,1),(2,1)] [.int .i64 0,.str [],.str []]:=by kernel_rfl
@[go_sem] theorem Zqu:ZaI prog 27=Hs [.int,.str,.str]:=by kernel_rfl
@[go_sem] theorem Zuz:tkn prog 28=true:=by kernel_rfl
@[go_sem] theorem ZuP:tsz prog 28=1:=by kernel_rfl
@[go_sem] theorem Zs6:Ys prog 28=false:=by kernel_rfl
@[go_sem] theorem Zuq:tix prog 28= .slc 1 false:=by kernel_rfl
@[go_sem] theorem ZtB:Ze1 prog 28= .slc:=by kernel_rfl
@[go_sem] theorem Zsx:WW prog 28=Hs ⟨9,1,16⟩:=by kernel_rfl
@[go_sem] theorem ZuA:tkn prog 30=true:=by kernel_rfl
@[go_sem] theorem ZuQ:tsz prog 30=7:=by kernel_rfl
@[go_sem] theorem Zs7:Ys prog 30=true:=by kernel_rfl
@[go_sem] theorem ZsK:V7 prog 30=Hs [.int .i64 0,.str [],.str [],.int .i64 0,.str [],.sl .nil [],.int .i64 0]:=by kernel_rfl
@[go_sem] theorem Zrk:WC prog 30 0=Hs (0,3,Ht):=by kernel_rfl
@[go_sem] theorem Zrl:WC prog 30 1=Hs (3,1,Hf):=by kernel_rfl
@[go_sem] theorem Zrm:WC prog 30 2=Hs (4,1,Hf):=by kernel_rfl
@[go_sem] theorem Zrn:WC prog 30 3=Hs (5,1,Hf):=by kernel_rfl
@[go_sem] theorem Zro:WC prog 30 4=Hs (6,1,Hf):=by kernel_rfl
@[go_sem] theorem Zue:tbd prog 30= .str [(0,3),(3,1),(4,1),(5,1),(6,1)] [.int .i64 0,.str [],.str [],.int .i64 0,.str [],.sl .nil [],.int .i64 0]:=by kernel_rfl
@[go_sem] theorem ZuB:tkn prog 31=true:=by kernel_rfl
@[go_sem] theorem ZuR:tsz prog 31=1:=by kernel_rfl
@[go_sem] theorem Zs8:Ys prog 31=false:=by kernel_rfl
@[go_sem] theorem Zur:tix prog 31= .slc 2 true:=by kernel_rfl
@[go_sem] theorem ZtC:Ze1 prog 31= .slc:=by kernel_rfl
@[go_sem] theorem Zsy:WW prog 31=Hs ⟨194,2,32⟩:=by kernel_rfl
@[go_sem] theorem ZuC:tkn prog 33=true:=by kernel_rfl
@[go_sem] theorem ZuS:tsz prog 33=16:=by kernel_rfl
@[go_sem] theorem Zs9:Ys prog 33=true:=by kernel_rfl
@[go_sem] theorem ZsL:V7 prog 33=Hs [.int .i64 0,.int .i64 0,.str [],.str [],.str [],.str [],.int .i64 0,.int .i64 0,.str [],.str [],.int .i64 0,.str [],.sl .nil [],.int .i64 0,.sl .nil [],.sl .nil []]:=by kernel_rfl
@[go_sem] theorem Zrp:WC prog 33 0=Hs (0,1,Hf):=by kernel_rfl
@[go_sem] theorem Zrq:WC prog 33 1=Hs (1,3,Ht):=by kernel_rfl
@[go_sem] theorem Zrr:WC prog 33 2=Hs (4,1,Hf):=by kernel_rfl
@[go_sem] theorem Zrs:WC prog 33 3=Hs (5,1,Hf):=by kernel_rfl
@[go_sem] theorem Zrt:WC prog 33 4=Hs (6,1,Hf):=by kernel_rfl
@[go_sem] theorem Zru:WC prog 33 5=Hs (7,7,Ht):=by kernel_rfl
@[go_sem] theorem Zrv:WC prog 33 6=Hs (14,1,Hf):=by kernel_rfl
@[go_sem] theorem Zrw:WC prog 33 7=Hs (15,1,Hf):=by kernel_rfl
@[go_sem] theorem Zuf:tbd prog 33= .str [(0,1),(1,3),(4,1),(5,1),(6,1),(7,7),(14,1),(15,1)] [.int .i64 0,.int .i64 0,.str [],.str [],.str [],.str [],.int .i64 0,.int .i64 0,.str [],.str [],.int .i64 0,.str [],.sl .nil [],.int .i64 0,.sl .nil [],.sl .nil []]:=by kernel_rfl
@[go_sem] theorem ZuD:tkn prog 35=true:=by kernel_rfl
@[go_sem] theorem ZuT:tsz prog 35=26:=by kernel_rfl
@[go_sem] theorem Zpt:Ys prog 35=true:=by kernel_rfl
@[go_sem] theorem ZsM:V7 prog 35=Hs [.int .i64 0,.str [],.str [],.int .i64 0,.str [],.str [],.int .i64 0,.str [],.int .i64 0,.int .i64 0,.int .i64 0,.int .i64 0,.str [],.str [],.str [],.str [],.int .i64 0,.int .i64 0,.str [],.str [],.int .i64 0,.str [],.sl .nil [],.int .i64 0,.sl .nil [],.sl .nil []]:=by kernel_rfl
@[go_sem] theorem Zrx:WC prog 35 0=Hs (0,1,Hf):=by kernel_rfl
@[go_sem] theorem Zry:WC prog 35 1=Hs (1,1,Hf):=by kernel_rfl
@[go_sem] theorem Zrz:WC prog 35 2=Hs (2,1,Hf):=by kernel_rfl
@[go_sem] theorem ZrA:WC prog 35 3=Hs (3,3,Ht):=by kernel_rfl
@[go_sem] theorem ZrB:WC prog 35 4=Hs (6,1,Hf):=by kernel_rfl
@[go_sem] theorem ZrC:WC prog 35 5=Hs (7,1,Hf):=by kernel_rfl
@[go_sem] theorem Zug:tbd prog 35= .str [(0,1),(1,1),(2,1),(3,3),(6,1),(7,1),(8,2),(10,16)] [.int .i64 0,.str [],.str [],.int .i64 0,.str [],.str [],.int .i64 0,.str [],.int .i64 0,.int .i64 0,.int .i64 0,.int .i64 0,.str [],.str [],.str [],.str [],.int .i64 0,.int .i64 0,.str [],.str [],.int .i64 0,.str [],.sl .nil [],.int .i64 0,.sl .nil [],.sl .nil []]:=by kernel_rfl
@[go_sem] theorem ZuE:tkn prog 40=true:=by kernel_rfl
@[go_sem] theorem ZuU:tsz prog 40=1:=by kernel_rfl
@[go_sem] theorem Zta:Ys prog 40=false:=by kernel_rfl
@[go_sem] theorem Ztl:Zfj prog 40= .ptr:=by kernel_rfl
@[go_sem] theorem Ztm:Zfj prog 43= .ptr:=by kernel_rfl
@[go_sem] theorem ZuF:tkn prog 46=true:=by kernel_rfl
@[go_sem] theorem ZuV:tsz prog 46=1:=by kernel_rfl
@[go_sem] theorem Ztb:Ys prog 46=false:=by kernel_rfl
@[go_sem] theorem Zus:tix prog 46= .slc 2 true:=by kernel_rfl
@[go_sem] theorem ZtD:Ze1 prog 46= .slc:=by kernel_rfl
@[go_sem] theorem Zsz:WW prog 46=Hs ⟨25,2,16⟩:=by kernel_rfl
@[go_sem] theorem ZuG:tkn prog 48=true:=by kernel_rfl
@[go_sem] theorem ZuW:tsz prog 48=15:=by kernel_rfl
@[go_sem] theorem Zpu:Ys prog 48=true:=by kernel_rfl
@[go_sem] theorem ZsN:V7 prog 48=Hs [.int .i64 0,.int .i64 0,.int .i64 0,.int .i64 0,.int .i64 0,.str [],.int .i64 0,.str [],.int .i64 0,.str [],.str [],.int .i64 0,.bool Hf,.str [],.sl .nil []]:=by kernel_rfl
@[go_sem] theorem ZrD:WC prog 48 0=Hs (0,2,Ht):=by kernel_rfl
@[go_sem] theorem ZrE:WC prog 48 1=Hs (2,2,Ht):=by kernel_rfl
@[go_sem] theorem ZrF:WC prog 48 2=Hs (4,1,Hf):=by kernel_rfl
@[go_sem] theorem ZrG:WC prog 48 3=Hs (5,1,Hf):=by kernel_rfl
@[go_sem] theorem ZrH:WC prog 48 4=Hs (6,1,Hf):=by kernel_rfl
@[go_sem] theorem ZrI:WC prog 48 5=Hs (7,1,Hf):=by kernel_rfl
@[go_sem] theorem ZrJ:WC prog 48 6=Hs (8,3,Ht):=by kernel_rfl
@[go_sem] theorem ZrK:WC prog 48 7=Hs (11,1,Hf):=by kernel_rfl
@[go_sem] theorem ZrL:WC prog 48 8=Hs (12,1,Hf):=by kernel_rfl
@[go_sem] theorem ZrM:WC prog 48 9=Hs (13,1,Hf):=by kernel_rfl
@[go_sem] theorem Zqs:WC prog 48 10=Hs (14,1,Hf):=by kernel_rfl
@[go_sem] theorem Zuh:tbd prog 48= .str [(0,2),(2,2),(4,1),(5,1),(6,1),(7,1),(8,3),(11,1),(12,1),(13,1),(14,1)] [.int .i64 0,.int .i64 0,.int .i64 0,.int .i64 0,.int .i64 0,.str [],.int .i64 0,.str [],.int .i64 0,.str [],.str [],.int .i64 0,.bool Hf,.str [],.sl .nil []]:=by kernel_rfl
@[go_sem] theorem ZuH:tkn prog 55=true:=by kernel_rfl
@[go_sem] theorem ZuX:tsz prog 55=1:=by kernel_rfl
@[go_sem] theorem Ztc:Ys prog 55=false:=by kernel_rfl
@[go_sem] theorem Zut:tix prog 55= .slc 7 true:=by kernel_rfl
@[go_sem] theorem ZtE:Ze1 prog 55= .slc:=by kernel_rfl
@[go_sem] theorem ZsA:WW prog 55=Hs ⟨30,7,96⟩:=by kernel_rfl
@[go_sem] theorem ZuI:tkn prog 62=true:=by kernel_rfl
@[go_sem] theorem ZuY:tsz prog 62=6:=by kernel_rfl
@[go_sem] theorem Ztd:Ys prog 62=true:=by kernel_rfl
@[go_sem] theorem ZsO:V7 prog 62=Hs [.int .i64 0,.int .i64 0,.int .i64 0,.int .i64 0,.int .i64 0,.int .i64 0]:=by kernel_rfl
@[go_sem] theorem Zuu:tix prog 62= .arr 6 1 false:=by kernel_rfl
@[go_sem] theorem Zui:tbd prog 62= .arr 1 [.int .i64 0,.int .i64 0,.int .i64 0,.int .i64 0,.int .i64 0,.int .i64 0]:=by kernel_rfl
@[go_sem] theorem Zuv:tix prog 79= .slc 26 true:=by kernel_rfl
@[go_sem] theorem ZtF:Ze1 prog 79= .slc:=by kernel_rfl
@[go_sem] theorem ZsB:WW prog 79=Hs ⟨35,26,352⟩:=by kernel_rfl
@[go_sem] theorem ZuJ:tkn prog 82=true:=by kernel_rfl
@[go_sem] theorem ZuZ:tsz prog 82=20:=by kernel_rfl
@[go_sem] theorem Zpv:Ys prog 82=true:=by kernel_rfl
@[go_sem] theorem ZsP:V7 prog 82=Hs [.int .i64 0,.int .i64 0,.int .i64 0,.int .i64 0,.int .i64 0,.int .i64 0,.str [],.str [],.str [],.str [],.int .i64 0,.int .i64 0,.str [],.str [],.int .i64 0,.str [],.sl .nil [],.int .i64 0,.sl .nil [],.sl .nil []]:=by kernel_rfl
@[go_sem] theorem ZrN:WC prog 82 0=Hs (0,2,Ht):=by kernel_rfl
@[go_sem] theorem ZrO:WC prog 82 1=Hs (2,2,Ht):=by kernel_rfl
@[go_sem] theorem ZrP:WC prog 82 2=Hs (4,16,Ht):=by kernel_rfl
@[go_sem] theorem Zuj:tbd prog 82= .str [(0,2),(2,2),(4,16)] [.int .i64 0,.int .i64 0,.int .i64 0,.int .i64 0,.int .i64 0,.int .i64 0,.str [],.str [],.str [],.str [],.int .i64 0,.int .i64 0,.str [],.str [],.int .i64 0,.str [],.sl .nil [],.int .i64 0,.sl .nil [],.sl .nil []]:=by kernel_rfl
@[go_sem] theorem ZuK:tkn prog 94=true:=by kernel_rfl
@[go_sem] theorem Zu0:tsz prog 94=31:=by kernel_rfl
@[go_sem] theorem Zte:Ys prog 94=true:=by kernel_rfl
@[go_sem] theorem ZsQ:V7 prog 94=Hs [.nilp,.int .i64 0,.int .i64 0,.sl .nil [],.sl .nil [],.int .i64 0,.str [],.str [],.int .i64 0,.str [],.str [],.int .i64 0,.str [],.int .i64 0,.int .i64 0,.int .i64 0,.int .i64 0,.str [],.str [],.str [],.str [],.int .i64 0,.int .i64 0,.str [],.str [],.int .i64 0,.str [],.sl .nil [],.int .i64 0,.sl .nil [],.sl .nil []]:=by kernel_rfl
@[go_sem] theorem ZrQ:WC prog 94 0=Hs (0,1,Hf):=by kernel_rfl
@[go_sem] theorem ZrR:WC prog 94 1=Hs (1,2,Ht):=by kernel_rfl
@[go_sem] theorem ZrS:WC prog 94 2=Hs (3,1,Hf):=by kernel_rfl
@[go_sem] theorem ZrT:WC prog 94 3=Hs (4,1,Hf):=by kernel_rfl
@[go_sem] theorem ZrU:WC prog 94 4=Hs (5,26,Ht):=by kernel_rfl
@[go_sem] theorem Zuk:tbd prog 94= .str [(0,1),(1,2),(3,1),(4,1),(5,26)] [.nilp,.int .i64 0,.int .i64 0,.sl .nil [],.sl .nil [],.int .i64 0,.str [],.str [],.int .i64 0,.str [],.str [],.int .i64 0,.str [],.int .i64 0,.int .i64 0,.int .i64 0,.int .i64 0,.str [],.str [],.str [],.str [],.int .i64 0,.int .i64 0,.str [],.str [],.int .i64 0,.str [],.sl .nil [],.int .i64 0,.sl .nil [],.sl .nil []]:=by kernel_rfl
@[go_sem] theorem Zts:tkn prog 110=true:=by kernel_rfl
@[go_sem] theorem ZtG:tsz prog 110=23:=by kernel_rfl
@[go_sem] theorem Zsq:Ys prog 110=true:=by kernel_rfl
@[go_sem] theorem ZrY:V7 prog 110=Hs [.int .i64 0,.int .i64 0,.int .i64 0,.int .i64 0,.int .i64 0,.int .i64 0,.str [],.str [],.str [],.str [],.int .i64 0,.int .i64 0,.str [],.str [],.int .i64 0,.str [],.sl .nil [],.int .i64 0,.sl .nil [],.sl .nil [],.int .i64 0,.sl .nil [],.int .i64 0]:=by kernel_rfl
@[go_sem] theorem Zqi:WC prog 110 0=Hs (0,20,Ht):=by kernel_rfl
@[go_sem] theorem Zqj:WC prog 110 1=Hs (20,1,Hf):=by kernel_rfl
@[go_sem] theorem Zqk:WC prog 110 2=Hs (21,1,Hf):=by kernel_rfl
@[go_sem] theorem Zql:WC prog 110 3=Hs (22,1,Hf):=by kernel_rfl
@[go_sem] theorem Ztf:tbd prog 110= .str [(0,20),(20,1),(21,1),(22,1)] [.int .i64 0,.int .i64 0,.int .i64 0,.int .i64 0,.int .i64 0,.int .i64 0,.str [],.str [],.str [],.str [],.int .i64 0,.int .i64 0,.str [],.str [],.int .i64 0,.str [],.sl .nil [],.int .i64 0,.sl .nil [],.sl .nil [],.int .i64 0,.sl .nil [],.int .i64 0]:=by kernel_rfl
@[go_sem] theorem Ztt:tkn prog 116=true:=by kernel_rfl
@[go_sem] theorem ZtH:tsz prog 116=6:=by kernel_rfl
@[go_sem] theorem Zsr:Ys prog 116=true:=by kernel_rfl
@[go_sem] theorem Ztn:tix prog 116= .arr 6 1 false:=by kernel_rfl
@[go_sem] theorem Zqm:WC prog 118 0=Hs (0,6,Ht):=by kernel_rfl
@[go_sem] theorem Ztg:tbd prog 118= .str [(0,6)] [.sl .nil [],.sl .nil [],.sl .nil [],.sl .nil [],.sl .nil [],.sl .nil []]:=by kernel_rfl
@[go_sem] theorem ZsG:Zom prog 146=Hs ([.int,.int],.agg []):=by kernel_rfl
@[go_sem] theorem Ztu:tkn prog 147=true:=by kernel_rfl
@[go_sem] theorem ZtI:tsz prog 147=0:=by kernel_rfl
@[go_sem] theorem ZrZ:V7 prog 147=Hs []:=by kernel_rfl
@[go_sem] theorem Zth:tbd prog 147= .str [] []:=by kernel_rfl
@[go_sem] theorem Ztv:tkn prog 149=true:=by kernel_rfl
@[go_sem] theorem ZtJ:tsz prog 149=1:=by kernel_rfl
@[go_sem] theorem Zss:Ys prog 149=false:=by kernel_rfl
@[go_sem] theorem ZsC:Zfj prog 149= .map:=by kernel_rfl
@[go_sem] theorem ZrV:Zgt prog 149=true:=by kernel_rfl
@[go_sem] theorem ZsH:Zom prog 149=Hs ([.int,.int],.agg [.int .i64 0,.int .i64 0,.int .i64 0,.int .i64 0,.int .i64 0,.int .i64 0,.str [],.str [],.str [],.str [],.int .i64 0,.int .i64 0,.str [],.str [],.int .i64 0,.str [],.sl .nil [],.int .i64 0,.sl .nil [],.sl .nil [],.int .i64 0,.sl .nil [],.int .i64 0]):=by kernel_rfl
@[go_sem] theorem Zqn:WC prog 151 0=Hs (0,1,Hf):=by kernel_rfl
@[go_sem] theorem Zti:tbd prog 151= .str [(0,1)] [.nilmap]:=by kernel_rfl
@[go_sem] theorem Ztw:tkn prog 194=true:=by kernel_rfl
@[go_sem] theorem ZtK:tsz prog 194=2:=by kernel_rfl
@[go_sem] theorem Znu:Ys prog 194=true:=by kernel_rfl
@[go_sem] theorem Zr0:V7 prog 194=Hs [.str [],.str []]:=by kernel_rfl
@[go_sem] theorem Zqo:WC prog 194 0=Hs (0,1,Hf):=by kernel_rfl
@[go_sem] theorem Zqp:WC prog 194 1=Hs (1,1,Hf):=by kernel_rfl
@[go_sem] theorem Zpx:ZaI prog 194=Hs [.str,.str]:=by kernel_rfl
@[go_sem] theorem Zto:tix prog 237= .slc 3 true:=by kernel_rfl
@[go_sem] theorem ZsD:Ze1 prog 237= .slc:=by kernel_rfl
@[go_sem] theorem Zrc:WW prog 237=Hs ⟨27,3,40⟩:=by kernel_rfl
@[go_sem] theorem Ztp:tix prog 246= .slc 16 true:=by kernel_rfl
@[go_sem] theorem ZsE:Ze1 prog 246= .slc:=by kernel_rfl
@[go_sem] theorem Zrd:WW prog 246=Hs ⟨33,16,232⟩:=by kernel_rfl
@[go_sem] theorem Ztq:tix prog 281= .slc 3 true:=by kernel_rfl
@[go_sem] theorem ZsF:Ze1 prog 281= .slc:=by kernel_rfl
@[go_sem] theorem Zre:WW prog 281=Hs ⟨287,3,24⟩:=by kernel_rfl
@[go_sem] theorem Ztx:tkn prog 287=true:=by kernel_rfl
@[go_sem] theorem ZtL:tsz prog 287=3:=by kernel_rfl
@[go_sem] theorem Zst:Ys prog 287=true:=by kernel_rfl
@[go_sem] theorem Zr1:V7 prog 287=Hs [.int .i64 0,.int .i64 0,.bool Hf]:=by kernel_rfl
@[go_sem] theorem Zqq:WC prog 287 0=Hs (0,2,Ht):=by kernel_rfl
@[go_sem] theorem Zqr:WC prog 287 1=Hs (2,1,Hf):=by kernel_rfl
@[go_sem] theorem Ztj:tbd prog 287= .str [(0,2),(2,1)] [.int .i64 0,.int .i64 0,.bool Hf]:=by kernel_rfl
@[go_sem] theorem Zty:tkn prog 314=true:=by kernel_rfl
@[go_sem] theorem ZtM:tsz prog 314=2:=by kernel_rfl
@[go_sem] theorem Zsu:Ys prog 314=true:=by kernel_rfl
@[go_sem] theorem Zr2:V7 prog 314=Hs [.flt .f64 0,.flt .f64 0]:=by kernel_rfl
@[go_sem] theorem Ztr:tix prog 314= .arr 2 1 false:=by kernel_rfl
@[go_sem] theorem Ztk:tbd prog 314= .arr 1 [.flt .f64 0,.flt .f64 0]:=by kernel_rfl
@[go_sem] theorem Zrb:tcv prog 3 226= .int .u64:=by kernel_rfl
@[go_sem] theorem Zra:tcv prog 226 3= .int .i64:=by kernel_rfl
open Go.PL
attribute [go_sem_proc] reduceIte Nat.reduceEqDiff reduceCtorEq Nat.reduceLT Nat.reduceAdd Nat.reduceSub Nat.reduceMul Nat.reduceLeDiff Int.reduceLT Int.reduceLE Int.reduceToNat Int.reduceEq Int.reduceAdd Int.reduceSub Int.reduceNeg Int.reduceBNe Int.reduceBEq
attribute [go_sem] true_or or_true List.getElem?_cons_zero List.getElem?_cons_succ List.getElem?_nil decide_true decide_false JV JU imp_self false_implies true_implies List.all_cons List.all_nil Bool.and_true Bool.false_eq_true Nat.zero_add Nat.add_zero Option.some.injEq true_and and_true List.getD_cons_zero List.getD_cons_succ List.length_cons List.length_nil ne_eq not_false_eq_true implies_true and_self Jr List.drop JJ List.map_nil List.reverse_cons List.reverse_nil List.nil_append PV.bool.injEq List.length_map Int.toNat_natCast Nat.mul_one beq_self_eq_true bne_self_eq_false Bool.or_self Bool.false_or Bool.true_or Bool.or_true Bool.or_false
theorem mxo:prog.follows .mixedOrders=true:=by kernel_rfl
theorem vDq {id:Nat} {l:List Oper} {Q:Exit->St->Prop} {s:St} (h:@vA prog Hf ⟨@vQ ⟨Q⟩ .normal⟩ ⟨l⟩ ⟨l⟩ s) (hB:ZjV l.toArray=true:=by kernel_rfl):awp prog (.region id l.toArray Ht) Q s:=Zoo mxo hB h
abbrev Pp:=PL.Pure prog
theorem ZM {f:FuncId} {fn:Func} {c:Code} {args:List PV} {r:PV} {n:Nat} {rs:List ResultVar} (hf:prog.funcs[f]? = Hs fn) (hb:fn.body=Hs c) (hn:fn.ntmps=n) (hrs:fn.results=rs.toArray) (h:@vC prog ⟨c⟩ ⟨Zfe prog rs r⟩ (St.init args n)) (hi:r.dids= []:=by rfl) (hname:fn.name≠ "runtime.NumGoroutine" :=by decide) (hl:args.length<=n:=by simp):Pp f args r:=pov hf hname hb hn hrs hl hi h
theorem ZB {f:FuncId} {fn:Func} {c:Code} {args:List PV} {r:PV} {n:Nat} {rs:List ResultVar} (hf:prog.funcs[f]? = Hs fn) (hb:fn.body=Hs c) (hn:fn.ntmps=n) (hrs:fn.results=rs.toArray) (hi:r.dids= []) (h:@vC prog ⟨c⟩ ⟨Zfe prog rs r⟩ (St.init args n)) (hname:fn.name≠ "runtime.NumGoroutine" :=by decide) (hl:args.length<=n:=by simp):Pp f args r:=pov hf hname hb hn hrs hl hi h
theorem w64 {x:Int} (h: -9223372036854775808<=x/\x<=9223372036854775807):IntKind.i64.wrap x=x:=IntWalk.i64_in _ (by omega)
theorem nx9 {n k:Nat} (h:k<n):n-(k+1)<n-k:=by omega
theorem wk9 {k:Nat} (h:(k:Int)<9223372036854775807):IntKind.i64.wrap ((k:Int)+1)=((k+1:Nat):Int):=by
 rw[w64 (by omega)];rfl
theorem Zc:maxLen=9223372036854775807:=by decide
theorem WD {k n:Nat} (h:k<n) (hn:n<=maxLen):IntKind.i64.wrap ((k:Int)+1)=((k+1:Nat):Int):=by
 rw[Zc]at hn;rw[w64 (by omega)];rfl
abbrev Str:=List UInt8
structure Rf where
 sc:Int
 gr:Str
 nm:Str
 deriving DecidableEq,Inhabited
structure En where
 at':Rf
 n:Int
 l:List Str
 deriving DecidableEq,Inhabited
structure Rw where
 item:Str
 l:List En
 deriving DecidableEq,Inhabited
structure Dc where
 head:List En
 rows:List Rw
 deriving DecidableEq,Inhabited
def Y3 (l:List Str):PV:= .sl .no (l.map .str)
def ref (r:Rf):PV:= .agg [.int .i64 r.sc,.str r.gr,.str r.nm]
def ent (e:En):PV:= .agg [.int .i64 e.at'.sc,.str e.at'.gr,.str e.at'.nm,.int .i64 e.n,.sl .no (e.l.map .str)]
def DK (l:List En):PV:= .sl .no (l.map ent)
def row (r:Rw):PV:= .agg [.str r.item,.sl .no (r.l.map ent)]
def doc (d:Dc):PV:= .agg [.sl .no (d.head.map ent),.sl .no (d.rows.map row)]
theorem vc1 {x:Bool} {M:KH} {g:FuncId} {args args':List PV} {K:KR} {r:PV} (h1:PL.Pure prog g args' r) (h2:K.k r M.m) (h0:JY M.m args:=by first|(simp only[go_sem,ref,ent,DK,doc,Y3,row];done)|exact rfl) (he:PV.giveL M.m args=args':=by first|(simp only[go_sem,ref,ent,DK,doc,Y3,row];done)|exact rfl):@WX prog x M (Hs (g,args)) K:=Zl h1 h0 he h2
theorem ZN (a b:Rf):(a.sc==b.sc&&(a.gr==b.gr&&a.nm==b.nm))=decide (a=b):=by
 cases a;cases b;rw[JQ];simp
theorem Yo {l:List Str} {i:Nat} (h:i<l.length):(l.map J2).getD i .any= .str (l.getD i []):=by
 simp[Jc,h]
theorem ZF {α:Type} {l:List α} {i:Nat} {d:α} (h:i<l.length):l.getD i d∈l:=by
 rw[Jc,Jz h];exact Jl h
theorem VD {α:Type} {a b:List α} {d:α} (hl:a.length=b.length) (h:∀j,j<a.length->a.getD j d=b.getD j d):a=b:=by
 apply List.ext_getElem hl;intro i h1 h2;have:=h i h1;simpa[Jc,h1,h2]using this
theorem VF {α:Type} {a b:List α} {d:α} {j:Nat} (h:a.getD j d≠b.getD j d):a≠b:=λe=>h (by rw[e])
theorem Zbo (a b:List Str) (ha:a.length<=maxLen) (hb:b.length<=maxLen):Pp 125 [Y3 a,Y3 b] (.bool (decide (a=b))):=by
 by_cases hl:a.length=b.length;have hl':((a.length:Int) !=(b.length:Int))=false:=by rw[hl];exact bne_self_eq_false _
 refine ZM func125 rfl ntmps125 results125 ?_;simp only[go_sem,Y3,hl'];refine ZA (ι:= { k:Nat // k<=a.length/\ ∀j,j<k->a.getD j []=b.getD j [] }) 26 (λx=> [(0,Y3 a),(1,Y3 b),(5,.int .i64 (x.1:Int))]) (λx=> []) (λx=> []) (λx=>a.length-x.1) ⟨0,by omega,λj hj=>by omega⟩
  ⟨rfl,(Fc3 rfl rfl rfl),fnl,fnl⟩ (λx=>⟨(Fc3 rfl rfl rfl),fnl⟩) (λx=> ?_)
 obtain⟨k,hk,hall⟩:=x;simp only;by_cases h:(k:Int)<(a.length:Int);have hka:k<a.length:=by omega
 have hkb:k<b.length:=by omega
 have w1:=WD hka ha;have i1:=Jp k
 have i2:(k:Int)<(b.length:Int):=by omega
 by_cases he:a.getD k []=b.getD k [];have he':(a.getD k []==b.getD k [])=true:=beq_iff_eq.2 he;simp only[go_sem,Y3,h];refine vDq ?_;simp only[go_sem,Yo hka,Yo hkb,h,i1,i2,he',w1];exact⟨⟨k+1,by omega,λj hj=>by
  rcases JW j k with h1|h1;exact hall j h1;obtain rfl:j=k:=by omega
  exact he⟩,nx9 (by omega),⟨rfl,(Fc3 rfl rfl rfl),fnl,fnl⟩⟩
 have he':(a.getD k []==b.getD k [])=false:=beq_eq_false_iff_ne.2 he;have hab:¬a=b:=VF he;simp only[go_sem,Y3,h];refine vDq ?_;simp only[go_sem,Yo hka,Yo hkb,h,i1,i2,he',hab];have hab:decide (a=b)=true:=decide_eq_true (VD (d:= []) hl λj hj=>hall j (by omega));simp only[go_sem,Y3,h,hab];have hl':((a.length:Int) !=(b.length:Int))=true:=bne_iff_ne.2 (by omega);have hab:¬a=b:=λe=>hl (by rw[e])
 refine ZM func125 rfl ntmps125 results125 ?_;simp only[go_sem,Y3,hl',hab]
open Go.PL
def idx {α:Type} (p:α->Bool) (l:List α):Int:=match l.findIdx? p with|some i=>(i:Int)|none=> -1
theorem Wn {α:Type} {p:α->Bool} {l:List α} {k:Nat} {d:α} (hk:k<l.length) (h:∀j,j<k->p (l.getD j d)=Hf) (hp:p (l.getD k d)=Ht):idx p l=k:=by
 have:l.findIdx? p=Hs k:=by
  rw[Jt];refine⟨hk,?_,λj hj=> ?_⟩;simpa[Jc,hk]using hp;have:=h j hj;simp[Jc,show j<l.length by omega]at this;simp[this]
 simp[idx,this]
theorem Vt {α:Type} {p:α->Bool} {l:List α} {d:α} (h:∀j,j<l.length->p (l.getD j d)=Hf):idx p l= -1:=by
 have:l.findIdx? p=none:=by
  rw[List.findIdx?_eq_none_iff];intro x hx;obtain⟨j,hj,rfl⟩:=Jk hx;have:=h j hj;simpa[Jc,hj]using this
 simp[idx,this]
theorem Zu {p:Nat->Prop} {k:Nat} (h:∀j,j<k->p j) (hk:p k):∀j,j<k+1->p j:=λj hj=>by
 rcases JW j k with h1|h1;exact h j h1;obtain rfl:j=k:=by omega
 exact hk
open Go.PL
theorem UY {α:Type} {p:α->Bool} {l:List α} {k:Nat} {d:α} (hk:k<l.length) (h:p (l.getD k d)=Ht):l.any p=true:=
 List.any_eq_true.2 ⟨_,ZF hk,h⟩
theorem Ux {α:Type} {p:α->Bool} {l:List α} {d:α} (h:∀j,j<l.length->p (l.getD j d)=Hf):l.any p=false:=by
 rw[List.any_eq_false];intro x hx;obtain⟨j,hj,rfl⟩:=Jk hx;have:=h j hj;simpa[Jc,hj]using this
def Ws (n:Nat) (s:Str):Bool:=decide ((n:Int)<(s.length:Int))
open Go.PL
@[go_sem] theorem Zqy {α:Type}:(#[]:Array α).isEmpty=true:=rfl
theorem Xj {α:Type} (p:α->Bool) (l:List α):idx p l= -1\/ ∃k:Nat,k<l.length/\idx p l=k:=by
 unfold idx;cases h:l.findIdx? p with
 |none=>exact .inl rfl
 |some k=>
  rw[Jt]at h;exact .inr ⟨k,h.1,rfl⟩
theorem Xm {n b:Nat} (hn:n<=100000000000) (hb:b<=1000):Zh3 n b:=by
 refine⟨?_,by unfold maxLen;omega⟩
 calc n*b<=100000000000*1000:=Nat.mul_le_mul hn hb
  _<=140737488355328:=by decide
@[go_sem] theorem Zq9 (n:Nat):Sized n []=True:=by simp[Sized]
@[go_sem] theorem Zqh (n:Nat) (e:PV) (l:List PV):Sized n (e::l)=(e.cells.length=n/\Sized n l):=by simp[Sized]
@[go_sem] theorem Zqz:Vo []=True:=by simp[Vo]
@[go_sem] theorem Zqb (e:PV) (l:List PV):Vo (e::l)=(e.cells.all PV.atom=Ht/\Vo l):=by simp[Vo]
theorem Xy (l:List Str):Sized 1 (l.map .str):=λe he=>by
 obtain⟨x,_,rfl⟩:=JL.1 he;rfl
theorem ZjF (l:List Str):Vo (l.map .str):=λe he=>by
 obtain⟨x,_,rfl⟩:=JL.1 he;rfl
theorem UA (l:List Str):JM (l.map .str)= []:=by
 induction l with
 |nil=>rfl
 |cons t l ih=>simp only[JJ,JM,ih,JZ,JR]
open Go.PL
attribute [go_sem] Bool.not_eq_true'
theorem ZoK {s:Str} (h:s= []):(s== [])=true:=by rw[h];rfl
theorem Zmr {s:Str} (h:¬s= []):(s== [])=false:=beq_eq_false_iff_ne.2 h
open Go.PL
structure Fd where
 at':Rf
 kind:Int
 df:Str
 cases':List Str
 worth:Int
 deriving DecidableEq,Inhabited
def fld (f:Fd):PV:= .agg [.int .i64 f.at'.sc,.str f.at'.gr,.str f.at'.nm,.int .i64 f.kind,.str f.df,.sl .no (f.cases'.map .str),.int .i64 f.worth]
def Zh (l:List Fd):PV:= .sl .no (l.map fld)
theorem vc2 {x:Bool} {M:KH} {g:FuncId} {args args':List PV} {K:KR} {r:PV} (h1:PL.Pure prog g args' r) (h2:K.k r M.m) (h0:JY M.m args:=by first|(simp only[go_sem,ref,ent,DK,doc,Y3,row,Zh,fld];done)|exact rfl) (he:PV.giveL M.m args=args':=by first|(simp only[go_sem,ref,ent,DK,doc,Y3,row,Zh,fld];done)|exact rfl):@WX prog x M (Hs (g,args)) K:=Zl h1 h0 he h2
theorem Zx {l:List Fd} {i:Nat} (h:i<l.length):(l.map fld).getD i .any=fld (l.getD i Jd):=by
 simp[Jc,h]
attribute [go_sem] Zai
theorem Yx {α:Type} {l:List α} {k:Nat} (h:k<l.length) {d:α}:l.take (k+1)=l.take k++ [l.getD k d]:=by
 rw[Jn h,Jc,Jz h];rfl
def Tc:List Fd:= [⟨⟨0,[],[99,111,117,112,111,110]⟩,2,[],[],0⟩,⟨⟨1,[],[110,111,116,101]⟩,2,[],[],0⟩,⟨⟨1,[],[113,116,121]⟩,1,[],[],1⟩,
 ⟨⟨1,[],[115,105,122,101]⟩,3,[109,101,100,105,117,109],[[115,109,97,108,108],[109,101,100,105,117,109],[108,97,114,103,101]],0⟩,⟨⟨1,[],[116,97,103,115]⟩,4,[],[],0⟩]
theorem YZ (l:List Fd):Sized 7 (l.map fld):=λe he=>by
 obtain⟨x,_,rfl⟩:=JL.1 he;rfl
theorem Zd4 (l:List Fd):JM (l.map fld)= []:=by
 induction l with
 |nil=>rfl
 |cons e l ih=>rw[JJ,JM,ih];simp only[fld,JZ,JM,UA,JR]
theorem VR (l:List Fd):(Zh l).dids= []:=by simp only[Zh,JZ,Zd4]
theorem ZdM:Pp 145 [] (Zh Tc):=by
 refine ZB func145 rfl ntmps145 results145 (VR _) ?_;simp (config:= { maxSteps:=2000000 }) only[go_sem,Xm,Zh,fld,Tc]
open Go.PL
@[go_sem] theorem Zu3:((0:Nat):Int)=0:=rfl
@[go_sem] theorem Zu4:((1:Nat):Int)=1:=rfl
attribute [go_sem] Int.cast_ofNat_Int
def nm (s:Str) (i:Nat):Int:=((s.getD i 0).toNat:Int)
def ZiC (s:Str) (i:Nat):Bool:=decide (97<=nm s i/\nm s i<=122)||(decide (48<=nm s i/\nm s i<=57)&&decide (i≠0))
def ZU (s:Str):Bool:=decide (1<=s.length/\s.length<=12)&&(JK s.length).all (ZiC s)
theorem Vi (s:Str) (i:Nat):((s.getD i 0).toNat:Int)=nm s i:=rfl
theorem Xs (s:Str):Pp 34 [.str s] (.bool (ZU s)):=by
 by_cases h1:(s.length:Int)<1;have hx:ZU s=false:=by simp only[ZU,show ¬(1<=s.length/\s.length<=12)by omega,decide_false,Je]
 refine ZM func34 rfl ntmps34 results34 ?_;simp only[go_sem,h1,hx];by_cases h2:(12:Int)<(s.length:Int);have hx:ZU s=false:=by simp only[ZU,show ¬(1<=s.length/\s.length<=12)by omega,decide_false,Je]
 refine ZM func34 rfl ntmps34 results34 ?_;simp only[go_sem,h1,h2,hx];have hn:ZU s=(JK s.length).all (ZiC s):=by simp only[ZU,show(1<=s.length/\s.length<=12)by omega,and_self,decide_true,Jj]
 refine ZM func34 rfl ntmps34 results34 ?_;simp only[go_sem,h1,h2];refine ZA (ι:= { k:Nat // k<=s.length/\ ∀j,j<k->ZiC s j=Ht }) 50 (λx=> [(0,.str s),(15,.int .i64 (s.length:Int)),(16,.int .i64 (x.1:Int))]) (λx=> []) (λx=> []) (λx=>s.length-x.1) ⟨0,by omega,λj hj=>by omega⟩
  ⟨rfl,(Fc3 rfl rfl rfl),fnl,fnl⟩ (λx=>⟨(Fc3 rfl rfl rfl),fnl⟩) (λx=> ?_)
 obtain⟨k,hk,hall⟩:=x;simp only;by_cases h:(k:Int)<(s.length:Int);have hka:k<s.length:=by omega
 have w1:=wk9 (k:=k) (by omega)
 have i1:=Jp k
 cases ho:ZiC s k;have hx:ZU s=false:=by
  rw[hn,Jy];exact⟨k,by simpa using hka,by simp[ho]⟩
 simp only[ZiC,JG,decide_eq_false_iff_not,JE]at ho;by_cases g1:97<=nm s k;have g2:¬nm s k<=122:=by omega
 have g3:48<=nm s k:=by omega
 have g4:¬nm s k<=57:=by omega
 simp only[go_sem,h,i1,Vi,g1,g2,g3,g4,hx];by_cases g3:48<=nm s k;by_cases g4:nm s k<=57;have hk0:((k:Int)==0)=true:=by
  rw[beq_iff_eq];rcases ho.2 with h'|h'<;>omega
 simp only[go_sem,h,i1,Vi,g1,g3,g4,hk0,hx];simp only[go_sem,h,i1,Vi,g1,g3,g4,hx];simp only[go_sem,h,i1,Vi,g1,g3,hx];have nx:∀j,j<k+1->ZiC s j=true:=Zu hall ho;simp only[ZiC,JS,decide_eq_true_eq,JN]at ho;by_cases g1:97<=nm s k;have g2:nm s k<=122:=by omega
 have g3:48<=nm s k:=by omega
 have g4:¬nm s k<=57:=by omega
 simp only[go_sem,h,i1,Vi,g1,g2,g3,g4,w1];exact⟨⟨k+1,by omega,nx⟩,nx9 (by omega),⟨rfl,(Fc3 rfl rfl rfl),fnl,fnl⟩⟩;have g3:48<=nm s k:=by omega
 have g4:nm s k<=57:=by omega
 have hk0:((k:Int)==0)=false:=beq_eq_false_iff_ne.2 (by omega);simp only[go_sem,h,i1,Vi,g1,g3,g4,hk0,w1];exact⟨⟨k+1,by omega,nx⟩,nx9 (by omega),⟨rfl,(Fc3 rfl rfl rfl),fnl,fnl⟩⟩;have hx:ZU s=true:=by
  rw[hn,JA];intro j hj;exact hall j (by have:=JH.1 hj;omega)
 simp only[go_sem,h,hx]
def Xq (r:Rf):Bool:=(decide (r.sc=0)||decide (r.sc=1))&&(ZU r.nm&&(decide (r.gr= [])||ZU r.gr))
theorem G4 (r:Rf):Pp 103 [ref r] (.bool (Xq r)):=by
 have hN:=Xs r.nm;have hG:=Xs r.gr;by_cases hs:r.sc=0\/r.sc=1;have hs':(decide (r.sc=0)||decide (r.sc=1))=true:=by simpa using hs
 have key:Pp 103 [ref r] (.bool (ZU r.nm&&(decide (r.gr= [])||ZU r.gr))):=by
  cases hn:ZU r.nm;rw[hn]at hN;rcases hs with h0|h1;have q:(r.sc !=0)=false:=by rw[h0];rfl
  refine ZM func103 rfl ntmps103 results103 ?_;simp only[go_sem,ref,q];refine vc1 hN ?_;simp only[go_sem,Je];have q:(r.sc !=0)=true:=by rw[h1];rfl
  have q1:(r.sc !=1)=false:=by rw[h1];rfl
  refine ZM func103 rfl ntmps103 results103 ?_;simp only[go_sem,ref,q,q1];refine vc1 hN ?_;simp only[go_sem,Je];rw[hn]at hN;by_cases hg:r.gr= [];have hg':=ZoK hg;rcases hs with h0|h1;have q:(r.sc !=0)=false:=by rw[h0];rfl
  refine ZM func103 rfl ntmps103 results103 ?_;simp only[go_sem,ref,q];refine vc1 hN ?_;simp only[go_sem,Jj,hg',decide_eq_true hg];have q:(r.sc !=0)=true:=by rw[h1];rfl
  have q1:(r.sc !=1)=false:=by rw[h1];rfl
  refine ZM func103 rfl ntmps103 results103 ?_;simp only[go_sem,ref,q,q1];refine vc1 hN ?_;simp only[go_sem,Jj,hg',decide_eq_true hg];have hg':=Zmr hg;rcases hs with h0|h1;have q:(r.sc !=0)=false:=by rw[h0];rfl
  refine ZM func103 rfl ntmps103 results103 ?_;simp only[go_sem,ref,q];refine vc1 hN ?_;simp only[go_sem,hg'];refine vc1 hG ?_;simp only[go_sem,Jj,decide_eq_false hg];have q:(r.sc !=0)=true:=by rw[h1];rfl
  have q1:(r.sc !=1)=false:=by rw[h1];rfl
  refine ZM func103 rfl ntmps103 results103 ?_;simp only[go_sem,ref,q,q1];refine vc1 hN ?_;simp only[go_sem,hg'];refine vc1 hG ?_;simp only[go_sem,Jj,decide_eq_false hg]
 simp only[Xq,hs',Jj];exact key;have q:(r.sc !=0)=true:=bne_iff_ne.2 (by omega);have q1:(r.sc !=1)=true:=bne_iff_ne.2 (by omega);have hx:Xq r=false:=by
  have:(decide (r.sc=0)||decide (r.sc=1))=false:=by simp;omega
  simp only[Xq,this,Je]
 refine ZM func103 rfl ntmps103 results103 ?_;simp only[go_sem,ref,q,q1,hx]
theorem Gg (s:Str):Pp 104 [.str s] (.bool (decide ((s.length:Int)<=40))):=by
 refine ZM func104 rfl ntmps104 results104 ?_;simp only[go_sem]
open Go.PL
theorem ZT (s:Str):Pp 40 [.str s] (.bool (ZU s)):=by
 by_cases h1:(s.length:Int)<1;have hx:ZU s=false:=by simp only[ZU,show ¬(1<=s.length/\s.length<=12)by omega,decide_false,Je]
 refine ZM func40 rfl ntmps40 results40 ?_;simp only[go_sem,h1,hx];by_cases h2:(12:Int)<(s.length:Int);have hx:ZU s=false:=by simp only[ZU,show ¬(1<=s.length/\s.length<=12)by omega,decide_false,Je]
 refine ZM func40 rfl ntmps40 results40 ?_;simp only[go_sem,h1,h2,hx];have hn:ZU s=(JK s.length).all (ZiC s):=by simp only[ZU,show(1<=s.length/\s.length<=12)by omega,and_self,decide_true,Jj]
 refine ZM func40 rfl ntmps40 results40 ?_;simp only[go_sem,h1,h2];refine ZA (ι:= { k:Nat // k<=s.length/\ ∀j,j<k->ZiC s j=Ht }) 50 (λx=> [(0,.str s),(3,.int .i64 (x.1:Int))]) (λx=> []) (λx=> []) (λx=>s.length-x.1) ⟨0,by omega,λj hj=>by omega⟩
  ⟨rfl,(Fc2 rfl rfl),fnl,fnl⟩ (λx=>⟨(Fc2 rfl rfl),fnl⟩) (λx=> ?_)
 obtain⟨k,hk,hall⟩:=x;simp only;by_cases h:(k:Int)<(s.length:Int);have hka:k<s.length:=by omega
 have w1:=wk9 (k:=k) (by omega)
 have i1:=Jp k
 cases ho:ZiC s k;have hx:ZU s=false:=by
  rw[hn,Jy];exact⟨k,by simpa using hka,by simp[ho]⟩
 simp only[ZiC,JG,decide_eq_false_iff_not,JE]at ho;by_cases g1:97<=nm s k;have g2:¬nm s k<=122:=by omega
 have g3:48<=nm s k:=by omega
 have g4:¬nm s k<=57:=by omega
 simp only[go_sem,h,i1,Vi,g1,g2,g3,g4,hx];by_cases g3:48<=nm s k;by_cases g4:nm s k<=57;have hk0:((k:Int)==0)=true:=by
  rw[beq_iff_eq];rcases ho.2 with h'|h'<;>omega
 simp only[go_sem,h,i1,Vi,g1,g3,g4,hk0,hx];simp only[go_sem,h,i1,Vi,g1,g3,g4,hx];simp only[go_sem,h,i1,Vi,g1,g3,hx];have nx:∀j,j<k+1->ZiC s j=true:=Zu hall ho;simp only[ZiC,JS,decide_eq_true_eq,JN]at ho;by_cases g1:97<=nm s k;have g2:nm s k<=122:=by omega
 have g3:48<=nm s k:=by omega
 have g4:¬nm s k<=57:=by omega
 simp only[go_sem,h,i1,Vi,g1,g2,g3,g4,w1];exact⟨⟨k+1,by omega,nx⟩,nx9 (by omega),⟨rfl,(Fc2 rfl rfl),fnl,fnl⟩⟩;have g3:48<=nm s k:=by omega
 have g4:nm s k<=57:=by omega
 have hk0:((k:Int)==0)=false:=beq_eq_false_iff_ne.2 (by omega);simp only[go_sem,h,i1,Vi,g1,g3,g4,hk0,w1];exact⟨⟨k+1,by omega,nx⟩,nx9 (by omega),⟨rfl,(Fc2 rfl rfl),fnl,fnl⟩⟩;have hx:ZU s=true:=by
  rw[hn,JA];intro j hj;exact hall j (by have:=JH.1 hj;omega)
 simp only[go_sem,h,hx]
theorem ZkP (r:Rf):Xq r=(decide (0<=r.sc)&&(decide (r.sc<=1)&&(ZU r.nm&&(decide (r.gr= [])||ZU r.gr)))):=by
 have:(decide (r.sc=0)||decide (r.sc=1))=(decide (0<=r.sc)&&decide (r.sc<=1)):=by
  rw[JQ];simp;omega
 rw[Xq,this,Bool.and_assoc]
theorem SK (r:Rf):Pp 134 [ref r] (.bool (Xq r)):=by
 rw[ZkP];have hN:=ZT r.nm;have hG:=ZT r.gr;refine ZM func134 rfl ntmps134 results134 ?_;simp only[go_sem,ref];repeat' ((first|(first|apply Zt|apply Zs|apply Zm)<;>intro h|refine vc1 hN ?_|refine vc1 hG ?_|refine vDq ?_)<;>first|simp only[go_sem,h]|simp only[go_sem]|skip)
 all_goals (simp_all)
theorem Ty (l:List Str) (s:Str) (hl:l.length<=maxLen):Pp 95 [Y3 l,.str s] (.bool (l.any (· == s))):=by
 refine ZM func95 rfl ntmps95 results95 ?_;simp only[go_sem,Y3];refine ZA (ι:= { k:Nat // k<=l.length/\ ∀j,j<k->(l.getD j []==s)=Hf }) 18 (λx=> [(0,Y3 l),(1,.str s),(5,.int .i64 (x.1:Int))]) (λx=> []) (λx=> []) (λx=>l.length-x.1) ⟨0,by omega,λj hj=>by omega⟩
  ⟨rfl,(Fc3 rfl rfl rfl),fnl,fnl⟩ (λx=>⟨(Fc3 rfl rfl rfl),fnl⟩) (λx=> ?_)
 obtain⟨k,hk,hall⟩:=x;simp only;by_cases h:(k:Int)<(l.length:Int);have hka:k<l.length:=by omega
 have w1:=WD hka hl;have i1:=Jp k
 cases he:(l.getD k []==s);simp only[go_sem,Y3,h,Yo hka,i1,he,w1];exact⟨⟨k+1,by omega,Zu hall he⟩,nx9 (by omega),⟨rfl,(Fc3 rfl rfl rfl),fnl,fnl⟩⟩;have hx:=UY (p:=(· == s)) hka he;simp only[go_sem,Y3,h,Yo hka,i1,he,hx];have hx:=Ux (p:=(· == s)) (d:= []) (l:=l) (λj hj=>hall j (by omega));simp only[go_sem,Y3,h,hx]
def WN (a b:Rf):Bool:=if a.sc≠b.sc then decide (a.sc<b.sc)else if a.gr≠b.gr then Yy a.gr b.gr else Yy a.nm b.nm
theorem Zbm (a b:Rf):Pp 236 [ref a,ref b] (.bool (WN a b)):=by
 refine ZM func236 rfl ntmps236 results236 ?_;simp only[go_sem,ref];repeat' ((first|(first|apply Zt|apply Zs|apply Zm)<;>intro h|refine vDq ?_)<;>first|simp only[go_sem,h]|simp only[go_sem]|skip)
 all_goals (simp_all[WN])
open Go.PL
attribute [go_sem] Option.map_some Option.map_none Option.isNone_none
theorem Fq (l:List Str) (k:Nat):Jr k (l.map J2)=(l.take k).map J2:=by rw[List.map_take]
def Ug (l:List Str) (i:Nat):Bool:=ZU (l.getD i [])&& !((l.take i).any (· == l.getD i []))
def Gs (l:List Str):Bool:=(JK l.length).all (Ug l)
theorem Uh {l:List Str} {k:Nat} (hk:k<l.length) (h:Ug l k=Hf):Gs l=false:=by
 rw[Gs,Jy];exact⟨k,by simpa using hk,by simp[h]⟩
theorem FL {l:List Str} (h:∀j,j<l.length->Ug l j=Ht):Gs l=true:=by
 rw[Gs,JA];intro j hj;exact h j (JH.1 hj)
def Za6 (f:Fd):Bool:=Gs f.cases'&&(decide ((f.cases'.length:Int)<7)&&f.cases'.any (· == f.df))
def ZiY (f:Fd):Bool:= !decide (0<(f.cases'.length:Int))&&((decide (f.kind=2)&&decide ((f.df.length:Int)<41))||(decide (f.kind=4)&&decide (f.df= [])))
def Yc (f:Fd):Bool:=
 Xq f.at'&&(if f.kind=1 then decide (f.df= [])&&(decide ((f.cases'.length:Int)=0)&&(decide (0<f.worth)&&decide (f.worth<1048577)))
  else decide (f.worth=0)&&(if f.kind=3 then Za6 f else ZiY f))
theorem UV (f:Fd) (hl:f.cases'.length<=maxLen):Pp 94 [fld f] (.bool (Yc f)):=by
 have hP:=SK f.at';by_cases h3:f.kind=3;have k1:(f.kind==1)=false:=by rw[h3];rfl
 have k3:(f.kind==3)=true:=by rw[h3];rfl
 cases hp:Xq f.at';rw[hp]at hP;refine ZM func94 rfl ntmps94 results94 ?_;simp only[go_sem,fld];refine vc1 hP ?_;simp only[go_sem,Yc,hp,Je];rw[hp]at hP;by_cases hw:f.worth=0;have hw':(f.worth !=0)=false:=by rw[hw];rfl
 have hx:Yc f=Za6 f:=by
  simp only[Yc,hp,h3,hw,Jj,decide_true,if_true];rfl
 rw[hx];refine ZM func94 rfl ntmps94 results94 ?_;simp only[go_sem,fld];refine vc1 hP ?_;simp only[go_sem,k1,k3,hw'];refine ZA (ι:= { k:Nat // k<=f.cases'.length/\ ∀j,j<k->Ug f.cases' j=Ht }) 96 (λx=> [(1,.ptr 1 0),(3,.int .i64 (x.1:Int))]) (λx=> [(1,[.int .i64 f.at'.sc,.str f.at'.gr,.str f.at'.nm,.int .i64 f.kind,.str f.df,.sl .no (f.cases'.map .str),.int .i64 f.worth],Hf)]) (λx=> []) (λx=>f.cases'.length-x.1) ⟨0,by omega,λj hj=>by omega⟩
  ⟨rfl,(Fc2 rfl rfl),fcs ⟨rfl,rfl⟩ fnl,fnl⟩ (λx=>⟨(Fc2 rfl rfl),(fcs rfl fnl)⟩) (λx=> ?_)
 obtain⟨k,hk,hall⟩:=x;simp only;by_cases h:(k:Int)<(f.cases'.length:Int);have hka:k<f.cases'.length:=by omega
 have w1:=WD hka hl;have i1:=Jp k
 have i2:(k:Int)<=(f.cases'.length:Int):=by omega
 have hN:=ZT (f.cases'.getD k []);have hT:(f.cases'.take k).length<=maxLen:=by rw[Jg];omega
 have hH:=Ty (f.cases'.take k) (f.cases'.getD k []) hT;cases hn:ZU (f.cases'.getD k []);rw[hn]at hN;have hz:Za6 f=false:=by simp only[Za6,Uh hka (by simp only[Ug,hn,Je]),Je]
 simp only[go_sem,h,i1];refine vDq ?_;simp only[go_sem,Yo hka,h,i1];refine vc1 hN ?_;simp only[go_sem,hz];rw[hn]at hN;cases hh:(f.cases'.take k).any (· == f.cases'.getD k []);rw[hh]at hH;have ok:Ug f.cases' k=true:=by simp only[Ug,hn,hh,JU,Bool.and_self]
 simp only[go_sem,h,i1];refine vDq ?_;simp only[go_sem,Yo hka,h,i1];refine vc1 hN ?_;simp only[go_sem,Yo hka,h,i1,i2,cut,JX,Fq,Xy];refine vc1 hH ?_;simp only[go_sem,w1];exact⟨⟨k+1,by omega,Zu hall ok⟩,nx9 (by omega),⟨rfl,(Fc2 rfl rfl),fcs ⟨rfl,rfl⟩ fnl,fnl⟩⟩;rw[hh]at hH;have hz:Za6 f=false:=by simp only[Za6,Uh hka (by simp only[Ug,hn,hh,JV,Bool.and_false]),Je]
 simp only[go_sem,h,i1];refine vDq ?_;simp only[go_sem,Yo hka,h,i1];refine vc1 hN ?_;simp only[go_sem,Yo hka,h,i1,i2,cut,JX,Fq,Xy];refine vc1 hH ?_;simp only[go_sem,hz];have hc:=FL (l:=f.cases') (λj hj=>hall j (by omega));have hH:=Ty f.cases' f.df hl;by_cases h7:(f.cases'.length:Int)<7;simp only[go_sem,h,h7];refine vc1 hH ?_;simp only[go_sem,Za6,hc,h7,Jj];simp only[go_sem,h,h7,Za6,hc,Jj,Je];have hw':(f.worth !=0)=true:=bne_iff_ne.2 hw;have hx:Yc f=false:=by
  simp only[Yc,hp,h3,hw,Jj,decide_false,Je];rfl
 refine ZM func94 rfl ntmps94 results94 ?_;simp only[go_sem,fld];refine vc1 hP ?_;simp only[go_sem,k1,k3,hw',hx];have k3:(f.kind==3)=false:=beq_eq_false_iff_ne.2 h3;have hx:Yc f=(Xq f.at'&&(if f.kind=1 then decide (f.df= [])&&(decide ((f.cases'.length:Int)=0)&&(decide (0<f.worth)&&decide (f.worth<1048577)))else decide (f.worth=0)&&ZiY f)):=by
  simp only[Yc,h3,if_false]
 rw[hx];refine ZM func94 rfl ntmps94 results94 ?_;simp only[go_sem,fld];refine vc1 hP ?_;simp only[go_sem];repeat' ((first|(first|apply Zt|apply Zs|apply Zm)<;>intro h|refine vDq ?_)<;>first|simp only[go_sem,h,k3]|simp only[go_sem,k3]|skip)
 all_goals (simp_all[ZiY])
 all_goals (cases f.df<;>simp)
def UC (f:Fd) (s:Str):Bool:=(Yc f&& !decide (f.kind=1))&&(if f.kind=3 then f.cases'.any (· == s)else decide ((s.length:Int)<41))
theorem Uv (f:Fd) (s:Str) (hl:f.cases'.length<=maxLen):Pp 47 [fld f,.str s] (.bool (UC f s)):=by
 have hR:=UV f hl;have hH:=Ty f.cases' s hl;refine ZM func47 rfl ntmps47 results47 ?_;simp only[go_sem,fld];repeat' ((first|(first|apply Zt|apply Zs|apply Zm)<;>intro h|refine vc2 hR ?_|refine vc2 hH ?_|refine vDq ?_)<;>first|simp only[go_sem,h]|simp only[go_sem]|skip)
 all_goals (simp_all[UC])
open Go.PL Go.PL.Srt
structure SortK {α:Type} (pv:α->PV) (g:FuncId) (lt:α->α->Bool) (cv:α->α->Int):Prop where
 len:∀a,(pv a).cells.length=15
 atom:∀a,(pv a).cells.all PV.atom=Ht
 ids:∀a,(pv a).ids= []
 known:∀a,(pv a).known=Ht
 give:∀a m,(pv a).give m=pv a
 givable:∀a m,(pv a).givable m
 part:∀a,Vb Ht 15 (pv a).cells 0=pv a
 cmp:∀a b,Pp g [pv a,pv b] (.int .i64 (cv a b))
 cv:∀a b,decide (cv a b<0)=lt a b
 good:J3 lt
theorem Ur {x:Int} (h0:0<=x) (h1:x<=9223372036854775807):IntKind.i64.wrap x=x:=w64 (by omega)
section
variable {α:Type} [Inhabited α] {pv:α->PV} {g:FuncId} {lt:α->α->Bool} {cv:α->α->Int}
theorem ZcP (K:SortK pv g lt cv) (e:TypeId) (n:Nat) (X L Y:List α) (hU:Unl lt L) (hn:X.length+L.length+Y.length=n) (hm:n<=1000000000000) (r:List PV) (hr:r=(X++(srt lt L++Y)).map pv):
  Eff prog 194 [.vsl 1000 n 15,.int .i64 (X.length:Int),.int .i64 ((X.length+L.length:Nat):Int),.fn g []] (Vj n 15 e ((X++(L++Y)).map pv)) (.tup []) (Vj n 15 e r):=by
 subst hr;have hc:∀l:List α,∀p∈l.map pv,p.ids= []:=λl=>XE K.ids l
 refine Eff.vw [] func194 (by decide) rfl ntmps194 results194 (by simp) (hc _) (hc _) (by simp[Ji,Jf]) (by simp[Ji,Jf]) λq=> ?_
 have w1:IntKind.i64.wrap ((X.length:Int)+1)=((X.length+1:Nat):Int):=by rw[Ur (by omega) (by omega)];rfl
 have klen:=K.len;have kpart:=K.part;have katom:=K.atom;have kknown:=K.known;simp only[go_sem]at klen kpart katom kknown;have one:∀l:List α,srt lt (l.take 1)=l.take 1:=λl=>by cases l<;>rfl
 simp only[go_sem,w1];refine Wx (ι:= { k:Nat // 1<=k/\(k<=L.length\/k=1) }) 53 (λx=> [(0,.vsl 1000 n 15),(1,.int .i64 (X.length:Int)),(2,.int .i64 ((X.length+L.length:Nat):Int)),(3,.fn g []),(8,.int .i64 ((X.length+x.1:Nat):Int))]) (λ_=> []) (λ_=> [(1000,.vec n 15 e)]) (λ_=> []) (λ_=> []) (λx=> [(1000,(X++(srt lt (L.take x.1)++(L.drop x.1++Y))).map pv)]) (λ_=> []) [] [(1000,q)] [] (λx=>L.length-x.1) ⟨1,by omega,.inr rfl⟩
  (YB rfl (Fc5 rfl rfl rfl rfl rfl) rfl (by rw[one,<-Jb (Jr 1 L),Ja];rfl) rfl) (λx=>XI (by simp[Ji,Jf,ZV]) (YM K.ids _)) (λx=> ?_)
 obtain⟨k,hk1,hk2⟩:=x;simp only;by_cases hk:k<L.length
 ·have c1:((X.length+k:Nat):Int)<((X.length+L.length:Nat):Int):=by omega
  have eD:L.drop k=L.getD k Jd::L.drop (k+1):=by rw[Jw hk,getD_lt hk]
  have eT:L.take (k+1)=L.take k++ [L.getD k Jd]:=by rw[Jn hk,getD_lt hk]
  have hUk:Unl lt (L.take k++ [L.getD k Jd]):=by rw[<-eT];exact Ju.sublist (List.take_sublist _ _) hU
  have hUt:=(Unl.append.1 hUk).1;have hinc:=V6 K.good hUt;have hlenT:(L.take k).length=k:=by rw[Jg];omega
  generalize hx:L.getD k Jd=x at *;generalize hD:L.drop (k+1)=D at *;generalize hs:srt lt (L.take k)=sk at *;have hsl:sk.length=k:=by rw[<-hs,ZI];omega
  rw[eD];simp only[go_sem,c1];refine Wx (ι:= { pq:List α×List α // pq.1++pq.2=sk/\ ∀y∈pq.2,lt x y=Ht }) 53 (λy=> [(0,.vsl 1000 n 15),(1,.int .i64 (X.length:Int)),(2,.int .i64 ((X.length+L.length:Nat):Int)),(3,.fn g []),(8,.int .i64 ((X.length+k:Nat):Int)),(9,.int .i64 ((X.length+y.1.1.length:Nat):Int))]) (λ_=> []) (λ_=> [(1000,.vec n 15 e)]) (λ_=> []) (λ_=> []) (λy=> [(1000,(X++(y.1.1++x::(y.1.2++(D++Y)))).map pv)]) (λ_=> []) [] [(1000,q)] [] (λy=>y.1.1.length) ⟨(sk,[]),by simp,by simp⟩
   (YB rfl (by rw[show(⟨(sk,[]),by simp,by simp⟩: { pq:List α×List α // pq.1++pq.2=sk/\ ∀y∈pq.2,lt x y=Ht }).1.1.length=k from hsl];exact(Fc6 rfl rfl rfl rfl rfl rfl)) rfl (by show Hs _=Hs _;simp) rfl) (λy=>XI (by simp[Ji,Jf,ZV]) (YM K.ids _)) (λy=> ?_)
  obtain⟨⟨A,C⟩,hAC,hC⟩:=y;simp only;have w2:IntKind.i64.wrap (((X.length+k:Nat):Int)+1)=((X.length+(k+1):Nat):Int):=by rw[Ur (by omega) (by omega)];omega
  have hLD:L.length=k+1+D.length:=by rw[<-hD,Jq];omega
  have hACl:A.length+C.length=k:=by rw[<-hsl,<-hAC];simp
  have next:∀M:List α,srt lt (L.take (k+1))=M->(X++(M++(D++Y)))=(X++(srt lt (L.take (k+1))++(L.drop (k+1)++Y))):=λM h=>by rw[h,hD]
  have hCx:∀c∈C,lt x c=true:=hC;have fin:(∀p∈A,lt p x=Ht)->srt lt (L.take (k+1))=A++x::C:=λhp=>by
   refine Zdj K.good (by rw[hAC];exact hinc) hp hCx ?_;rw[eT];have p1:(A++x::C).Perm (x::(A++C)):=JB;refine p1.trans ?_;rw[hAC,<-hs];exact((Y4 (L.take k)).cons x).trans (JF (l₁:= [x]))
  rcases List.eq_nil_or_concat A with hA|⟨A',y,hA⟩
  ·subst hA;have fin:=fin (by simp);have e9:X.length+([]:List α).length=X.length:=by simp
   rw[e9];have d1:¬((X.length:Int)<(X.length:Int)):=by omega
   simp only[go_sem,d1];refine vDq ?_;simp only[go_sem,d1,w2];refine⟨⟨k+1,by omega,by omega⟩,nx9 (by omega),YB rfl (Fc5 rfl rfl rfl rfl rfl) rfl ?_ rfl⟩;show Hs _=Hs _;rw[<-next _ fin];simp
  have hA:A=A'++ [y]:=by simpa using hA
  subst hA;obtain⟨j,hj⟩:∃j,j=X.length+A'.length:=⟨_,rfl⟩;have e9:X.length+(A'++ [y]).length=j+1:=by simp;omega
  simp only[List.length_append,List.length_singleton]at hACl;rw[e9];have el:X++((A'++ [y])++x::(C++(D++Y)))=(X++A')++y::([]++x::(C++(D++Y))):=by simp
  rw[el];generalize hl:(X++A')++y::([]++x::(C++(D++Y)))=l;have hln:l.length=n:=by rw[<-hl];simp;omega
  have g0:(l.map pv).getD j .any=pv y:=by rw[Z6 (by omega),<-hl,Y6 _ _ _ (by simp;omega)]
  have g1:(l.map pv).getD (j+1) .any=pv x:=by
   rw[Z6 (by omega),<-hl,show(X++A')++y::([]++x::(C++(D++Y)))=(X++A'++ [y])++x::(C++(D++Y))by simp,Y6 _ _ _ (by simp;omega)]
  have w3:IntKind.i64.wrap (((j+1:Nat):Int)-1)=(j:Int):=by rw[Ur (by omega) (by omega)];omega
  have d1:(X.length:Int)<((j+1:Nat):Int):=by omega
  have b1:0<=((j+1:Nat):Int)/\((j+1:Nat):Int)<(n:Int):=by omega
  have b0:0<=(j:Int)/\(j:Int)<(n:Int):=by omega
  have hv:=K.cv x y;simp only[go_sem,d1];refine vDq ?_;simp only[go_sem,d1,w3,b1.1,b1.2,b0.1,b0.2,g0,g1,klen,kpart,hln];refine Zl (K.cmp x y) ?_ ?_ ?_;simp only[go_sem,K.give,K.givable];simp only[go_sem,K.give,K.givable];by_cases hxy:lt x y=Ht
  ·rw[hxy]at hv;have g2:((l.set (j+1) y).map pv).getD j .any=pv y:=by
    rw[Z6 (by simp;omega),<-Z6 (pv:=pv) (by simp;omega),<-Sn,getD_setN (by omega),g0]
   have es:(l.set (j+1) y).set j x=X++(A'++x::((y::C)++(D++Y))):=by
    have h:=Zdl (X++A') [] (C++(D++Y)) y x (i:=j) (j:=j+1) (by simp;omega) (by simp;omega);rw[hl,ZeZ _ _ _ (by omega) (by omega)]at h;have d0:l.getD j Jd=y:=by rw[<-hl];exact Y6 _ _ _ (by simp;omega)
    have d1:l.getD (j+1) Jd=x:=by
     rw[<-hl,show(X++A')++y::([]++x::(C++(D++Y)))=(X++A'++ [y])++x::(C++(D++Y))by simp,Y6 _ _ _ (by simp;omega)]
    unfold swap at h
    rw[d0,d1]at h;rw[h];simp
   simp only[go_sem,hv,of_decide_eq_true hv];refine vDq ?_;simp only[go_sem,w3,b1.1,b1.2,b0.1,b0.2,g0,g1,klen,kpart,katom,kknown,hln,Sn,g2,Jv,es];subst hj;exact⟨⟨(A',y::C),by simpa using hAC,λz hz=>by
    rcases List.mem_cons.1 hz with rfl|hz;exact hxy;exact hCx z hz⟩,by show A'.length<(A'++ [y]).length;simp,YB rfl (Fc6 rfl rfl rfl rfl rfl rfl) rfl rfl rfl⟩
  have hv':¬cv x y<0:=by
   have:lt x y=false:=by simpa using hxy
   rw[this]at hv;simpa using hv
  have hy:y∈L.take k:=by rw[<-Zdi (lt:=lt),hs,<-hAC];simp
  have hyx:lt y x=true:=((Unl.append.1 hUk).2.2 y hy x (by simp)).resolve_right hxy;have hA2:∀p∈A',lt p y=true:=λp hp=>by
   rw[<-hAC]at hinc;exact(Inc.append.1 (Inc.append.1 hinc).1).2.2 p hp y (by simp)
  have fin:=fin λp hp=>by
   rcases List.mem_append.1 hp with hp|hp;exact K.good.trans _ _ _ (hA2 p hp) hyx;simp only[List.mem_singleton]at hp;subst hp;exact hyx
  simp only[go_sem,hv',w2];refine⟨⟨k+1,by omega,by omega⟩,nx9 (by omega),YB rfl (Fc5 rfl rfl rfl rfl rfl) rfl ?_ rfl⟩;show Hs _=Hs _;rw[<-next _ fin,<-hl];simp
 have c1:¬((X.length+k:Nat):Int)<((X.length+L.length:Nat):Int):=by omega
 have e1:L.take k=L:=List.take_of_length_le (by omega);have e2:L.drop k= []:=List.drop_eq_nil_of_le (by omega);simp only[go_sem,c1];refine U2 (r0:= .tup []) (hc _) rfl (.clean rfl) rfl ?_ rfl;show Hs _=Hs _;rw[e1,e2];simp
end
open Go.PL Go.PL.Srt
section
variable {α:Type} [Inhabited α] {pv:α->PV} {g:FuncId} {lt:α->α->Bool} {cv:α->α->Int}
theorem XP {l:List α} {i:Nat} (h:i<l.length):l.drop i=l.getD i Jd::l.drop (i+1):=by rw[Jw h,getD_lt h]
theorem GU {l:List α} {i:Nat} (h:i<l.length):l.take (i+1)=l.take i++ [l.getD i Jd]:=by rw[Jn h,getD_lt h]
theorem Th (K:SortK pv g lt cv) (e:TypeId) (n:Nat) (X A B C Y:List α) (hAC:A.length=C.length) (hn:X.length+A.length+B.length+C.length+Y.length=n) (hm:n<=1000000000000) (l0 r:List PV) (hl0:l0=(X++(A++(B++(C++Y)))).map pv) (hr:r=(X++(C++(B++(A++Y)))).map pv) (ia ib ic:Int) (ha:ia=(X.length:Int)) (hb:ib=((X.length+A.length+B.length:Nat):Int)) (hc:ic=(A.length:Int)):
  Eff prog 264 [.vsl 1000 n 15,.int .i64 ia,.int .i64 ib,.int .i64 ic,.fn g []] (Vj n 15 e l0) (.tup []) (Vj n 15 e r):=by
 subst hr hl0 ha hb hc;have hcl:∀l:List α,∀p∈l.map pv,p.ids= []:=λl=>XE K.ids l
 refine Eff.vw [] func264 (by decide) rfl ntmps264 results264 (by simp) (hcl _) (hcl _) (by simp[Ji,Jf]) (by simp[Ji,Jf]) λq=> ?_
 have klen:=K.len;have kpart:=K.part;have katom:=K.atom;have kknown:=K.known;simp only[go_sem]at klen kpart katom kknown;simp only[go_sem];refine Wx (ι:= { i:Nat // i<=A.length }) 38 (λx=> [(0,.vsl 1000 n 15),(1,.int .i64 (X.length:Int)),(2,.int .i64 ((X.length+A.length+B.length:Nat):Int)),(3,.int .i64 (A.length:Int)),(10,.int .i64 (x.1:Int))]) (λ_=> []) (λ_=> [(1000,.vec n 15 e)]) (λ_=> []) (λ_=> []) (λx=> [(1000,(X++(C.take x.1++(A.drop x.1++(B++(A.take x.1++(C.drop x.1++Y)))))).map pv)]) (λ_=> []) [] [(1000,q)] [] (λx=>A.length-x.1) ⟨0,JI _⟩
  (YB rfl (Fc5 rfl rfl rfl rfl rfl) rfl (by show Hs _=Hs _;simp) rfl) (λx=>XI (by simp[Ji,Jf,ZV]) (YM K.ids _)) (λx=> ?_)
 obtain⟨i,hi⟩:=x;simp only;by_cases hk:i<A.length
 ·have hk':i<C.length:=by omega
  have c1:(i:Int)<(A.length:Int):=by omega
  obtain⟨p,hp⟩:∃p,p=X.length+i:=⟨_,rfl⟩;obtain⟨p2,hp2⟩:∃p2,p2=X.length+A.length+B.length+i:=⟨_,rfl⟩;have w1:IntKind.i64.wrap ((X.length:Int)+(i:Int))=(p:Int):=by rw[Ur (by omega) (by omega)];omega
  have w2:IntKind.i64.wrap (((X.length+A.length+B.length:Nat):Int)+(i:Int))=(p2:Int):=by rw[Ur (by omega) (by omega)];omega
  have w3:IntKind.i64.wrap ((i:Int)+1)=((i+1:Nat):Int):=by rw[Ur (by omega) (by omega)];omega
  have el:X++(C.take i++(A.drop i++(B++(A.take i++(C.drop i++Y)))))=(X++C.take i)++A.getD i Jd::((A.drop (i+1)++(B++A.take i))++C.getD i Jd::(C.drop (i+1)++Y)):=by
   rw[XP hk,XP hk'];simp
  have en:X++(C.take (i+1)++(A.drop (i+1)++(B++(A.take (i+1)++(C.drop (i+1)++Y)))))=(X++C.take i)++C.getD i Jd::((A.drop (i+1)++(B++A.take i))++A.getD i Jd::(C.drop (i+1)++Y)):=by
   rw[GU hk,GU hk'];simp
  have hx1:p=(X++C.take i).length:=by simp;omega
  have hx2:p2=(X++C.take i).length+1+(A.drop (i+1)++(B++A.take i)).length:=by simp;omega
  have hlen:((X++C.take i)++A.getD i Jd::((A.drop (i+1)++(B++A.take i))++C.getD i Jd::(C.drop (i+1)++Y))).length=n:=by simp;omega
  rw[el];obtain⟨G,hG⟩:∃G:List α,G=X++(C.take (i+1)++(A.drop (i+1)++(B++(A.take (i+1)++(C.drop (i+1)++Y))))):=⟨_,rfl⟩;rw[<-hG]at en;generalize C.drop (i+1)++Y=Z at hx1 hx2 hlen en ⊢;generalize A.drop (i+1)++(B++A.take i)=M at hx1 hx2 hlen en ⊢;generalize X++C.take i=X' at hx1 hx2 hlen en ⊢;generalize A.getD i Jd=a at hx1 hx2 hlen en ⊢;generalize C.getD i Jd=c at hx1 hx2 hlen en ⊢;have sw:=Zdl X' M Z a c (i:=p) (j:=p2) hx1 hx2;have d0:(X'++a::(M++c::Z)).getD p Jd=a:=Y6 _ _ _ hx1;have d1:(X'++a::(M++c::Z)).getD p2 Jd=c:=by
   rw[show X'++a::(M++c::Z)=(X'++a::M)++c::Z by simp,Y6 _ _ _ (by simp;omega)]
  have hpl:p2<n:=by omega
  generalize X'++a::(M++c::Z)=l at sw d0 d1 hlen ⊢;unfold swap at sw
  rw[d0,d1]at sw;have g0:(l.map pv).getD p .any=pv a:=by rw[Z6 (by omega),d0]
  have g1:(l.map pv).getD p2 .any=pv c:=by rw[Z6 (by omega),d1]
  have g2:((l.set p c).map pv).getD p2 .any=pv c:=by
   rw[Z6 (by simp;omega),getD_setN (by omega),d1]
  have b0:0<=(p:Int)/\(p:Int)<(n:Int):=by omega
  have b1:0<=(p2:Int)/\(p2:Int)<(n:Int):=by omega
  simp only[go_sem,c1];refine vDq ?_;simp only[go_sem,w1,w2,w3,b1.1,b1.2,b0.1,b0.2,g0,g1,klen,kpart,katom,kknown,hlen,Sn,g2,Jv,sw];exact⟨⟨i+1,by omega⟩,nx9 (by omega),YB rfl (Fc5 rfl rfl rfl rfl rfl) rfl (by show Hs _=Hs _;rw[<-en,hG]) rfl⟩
 have c1:¬(i:Int)<(A.length:Int):=by omega
 have hi:i=A.length:=by omega
 subst hi;simp only[go_sem,c1];refine U2 (r0:= .tup []) (hcl _) rfl (.clean rfl) rfl ?_ rfl;show Hs _=Hs _;rw[JO,JP,show C.take A.length=C by rw[hAC,JP],show C.drop A.length= []by rw[hAC,JO]];simp
end
open Go.PL Go.PL.Srt
section
variable {α:Type} [Inhabited α] {pv:α->PV} {g:FuncId} {lt:α->α->Bool} {cv:α->α->Int}
def Zu1 (R:List α) (m:Nat) (s:List α×List α×List α×List α):Prop:=s.1++(s.2.2.1++(s.2.1++s.2.2.2))=R/\s.1.length+s.2.1.length=m/\0<s.2.1.length/\0<s.2.2.1.length
theorem Zb5 (K:SortK pv g lt cv) (e:TypeId) (n:Nat) (X A B Y:List α) (hA:0<A.length) (hB:0<B.length) (hn:X.length+A.length+B.length+Y.length=n) (hm:n<=1000000000000) (l0 r:List PV) (hl0:l0=(X++(A++(B++Y))).map pv) (hr:r=(X++(B++(A++Y))).map pv) (ia ib ic:Int) (ha:ia=(X.length:Int)) (hb:ib=((X.length+A.length:Nat):Int)) (hc:ic=((X.length+A.length+B.length:Nat):Int)):
  Eff prog 242 [.vsl 1000 n 15,.int .i64 ia,.int .i64 ib,.int .i64 ic,.fn g []] (Vj n 15 e l0) (.tup []) (Vj n 15 e r):=by
 subst hr hl0 ha hb hc;have hcl:∀l:List α,∀p∈l.map pv,p.ids= []:=λl=>XE K.ids l
 refine Eff.vw [] func242 (by decide) rfl ntmps242 results242 (by simp) (hcl _) (hcl _) (by simp[Ji,Jf]) (by simp[Ji,Jf]) λq=> ?_
 have w1:IntKind.i64.wrap (((X.length+A.length:Nat):Int)-(X.length:Int))=(A.length:Int):=by rw[Ur (by omega) (by omega)];omega
 have w2:IntKind.i64.wrap (((X.length+A.length+B.length:Nat):Int)-((X.length+A.length:Nat):Int))=(B.length:Int):=by rw[Ur (by omega) (by omega)];omega
 simp only[go_sem,w1,w2];generalize hR:X++(B++(A++Y))=R;generalize hM:X.length+A.length=m;have hRl:R.length=n:=by rw[<-hR];simp;omega
 refine Wx (ι:= { s:List α×List α×List α×List α // Zu1 R m s }) 58 (λx=> [(0,.vsl 1000 n 15),(2,.int .i64 (m:Int)),(4,.fn g []),(10,.int .i64 (x.1.2.1.length:Int)),(11,.int .i64 (x.1.2.2.1.length:Int))]) (λ_=> []) (λ_=> [(1000,.vec n 15 e)]) (λ_=> []) (λ_=> []) (λx=> [(1000,(x.1.1++(x.1.2.1++(x.1.2.2.1++x.1.2.2.2))).map pv)]) (λ_=> []) [] [(1000,q)] [] (λx=>x.1.2.1.length+x.1.2.2.1.length) ⟨(X,A,B,Y),hR,hM,hA,hB⟩
  (YB rfl (Fc5 rfl rfl rfl rfl rfl) rfl rfl rfl) (λx=>XI (by simp[Ji,Jf,ZV]) (YM K.ids _)) (λx=> ?_)
 obtain⟨⟨X',A',B',Y'⟩,h1,h2,h3,h4⟩:=x;simp only at h1 h2 h3 h4 ⊢;have hlen:X'.length+A'.length+B'.length+Y'.length=n:=by rw[<-hRl,<-h1];simp;omega
 have w3:IntKind.i64.wrap ((m:Int)-(A'.length:Int))=(X'.length:Int):=by rw[Ur (by omega) (by omega)];omega
 by_cases hne:(A'.length:Int)=(B'.length:Int);have hne':A'.length=B'.length:=by omega
 have w4:IntKind.i64.wrap ((m:Int)-(B'.length:Int))=(X'.length:Int):=by rw[<-hne];exact w3
 simp only[go_sem,hne,w4];refine Xg 1000 (Th K e n X' A' [] B' Y' hne' (by simp;omega) hm _ (R.map pv) (by simp) (by rw[<-h1];simp) _ _ _ rfl (by simp;omega) hne.symm) (by simp[Ji,Jf]) (hcl _) (hcl _) rfl rfl rfl ?_;simp only[go_sem];exact U2 (r0:= .tup []) (hcl _) rfl (.clean rfl) rfl rfl rfl;have hbn:((A'.length:Int) !=(B'.length:Int))=true:=bne_iff_ne.2 hne;by_cases hgt:(B'.length:Int)<(A'.length:Int);have e1:A'.take B'.length++A'.drop B'.length=A':=Ja _ _;have l1:(A'.take B'.length).length=B'.length:=by rw[Jg];omega
 have l2:(A'.drop B'.length).length=A'.length-B'.length:=Jq;generalize A'.take B'.length=A1 at e1 l1;generalize A'.drop B'.length=A2 at e1 l2;subst e1;have w5:IntKind.i64.wrap (((A1++A2).length:Int)-(B'.length:Int))=(A2.length:Int):=by rw[Ur (by omega) (by omega)];omega
 simp only[go_sem,hbn,hgt,w3,w5];refine Xg 1000 (Th K e n X' A1 A2 B' Y' l1 (by simp at hlen;omega) hm _ ((X'++(B'++(A2++(A1++Y')))).map pv) (by simp) rfl _ _ _ rfl (by simp at h2;omega) (by omega)) (by simp[Ji,Jf]) (hcl _) (hcl _) rfl rfl rfl ?_;simp only[go_sem,w5];refine⟨⟨(X'++B',A2,A1,Y'),by simpa using h1,by simp at h2 ⊢;omega,by show 0<A2.length;omega,by show 0<A1.length;omega⟩,by show A2.length+A1.length<(A1++A2).length+B'.length;simp;omega,YB rfl ?_ rfl (by show Hs _=Hs _;simp) rfl⟩;show ∀x∈ [(0,PV.vsl 1000 n 15),(2,.int .i64 (m:Int)),(4,.fn g []),(10,.int .i64 (A2.length:Int)),(11,.int .i64 (A1.length:Int))],_;rw[l1];exact(Fc5 rfl rfl rfl rfl rfl);have e1:B'.take (B'.length-A'.length)++B'.drop (B'.length-A'.length)=B':=Ja _ _;have l1:(B'.take (B'.length-A'.length)).length=B'.length-A'.length:=by rw[Jg];omega
 have l2:(B'.drop (B'.length-A'.length)).length=A'.length:=by rw[Jq];omega
 generalize B'.take (B'.length-A'.length)=B1 at e1 l1;generalize B'.drop (B'.length-A'.length)=B2 at e1 l2;subst e1;have w5:IntKind.i64.wrap (((B1++B2).length:Int)-(A'.length:Int))=(B1.length:Int):=by rw[Ur (by omega) (by omega)];omega
 have w6:IntKind.i64.wrap ((m:Int)+((B1++B2).length:Int))=((m+(B1++B2).length:Nat):Int):=by rw[Ur (by omega) (by omega)];omega
 have w7:IntKind.i64.wrap (((m+(B1++B2).length:Nat):Int)-(A'.length:Int))=((m+B1.length:Nat):Int):=by rw[Ur (by omega) (by omega)];omega
 simp only[go_sem,hbn,hgt,w3,w6,w7];refine Xg 1000 (Th K e n X' A' B1 B2 Y' l2.symm (by simp at hlen;omega) hm _ ((X'++(B2++(B1++(A'++Y')))).map pv) (by simp) rfl _ _ _ rfl (by omega) rfl) (by simp[Ji,Jf]) (hcl _) (hcl _) rfl rfl rfl ?_;simp only[go_sem,w5];refine⟨⟨(X',B2,B1,A'++Y'),by simpa using h1,by simp at h2 ⊢;omega,by show 0<B2.length;omega,by show 0<B1.length;omega⟩,by show B2.length+B1.length<A'.length+(B1++B2).length;simp;omega,YB rfl ?_ rfl (by show Hs _=Hs _;simp) rfl⟩;show ∀x∈ [(0,PV.vsl 1000 n 15),(2,.int .i64 (m:Int)),(4,.fn g []),(10,.int .i64 (B2.length:Int)),(11,.int .i64 (B1.length:Int))],_;rw[l2];exact(Fc5 rfl rfl rfl rfl rfl)
end
open Go.PL Go.PL.Srt
section
variable {α:Type} [Inhabited α] {pv:α->PV} {g:FuncId} {lt:α->α->Bool} {cv:α->α->Int}
theorem F5 {a b h:Nat} (hh:h=(a+b) / 2) (hm:a+b<=4000000000000):IntKind.i64.wrap ((IntKind.u64.wrap ((a+b:Nat):Int)).fdiv (2 ^ min 1 64))=(h:Int):=by
 have e1:IntKind.u64.wrap ((a+b:Nat):Int)=((a+b:Nat):Int):=IntWalk.u64_in _ (by omega);have e2:((a+b:Nat):Int).fdiv (2 ^ min 1 64)=(h:Int):=by
  show Int.fdiv ((a+b:Nat):Int) 2=(h:Int);rw[Int.fdiv_eq_ediv_of_nonneg _ (by omega)];omega
 rw[e1,e2,Ur (by omega) (by omega)]
theorem Ze0 (K:SortK pv g lt cv) (e:TypeId) (n:Nat) (X B Y:List α) (x:α) (hB:Inc lt B) (hU:∀y∈B,lt x y=Ht\/lt y x=Ht) (hB0:0<B.length) (hn:X.length+1+B.length+Y.length=n) (hm:n<=1000000000000) (l0 r:List PV) (hl0:l0=(X++(x::(B++Y))).map pv) (hr:r=(X++(srt lt (x::B)++Y)).map pv) (ia ib ic:Int) (ha:ia=(X.length:Int)) (hb:ib=((X.length+1:Nat):Int)) (hc:ic=((X.length+1+B.length:Nat):Int)):
  Eff prog 195 [.vsl 1000 n 15,.int .i64 ia,.int .i64 ib,.int .i64 ic,.fn g []] (Vj n 15 e l0) (.tup []) (Vj n 15 e r):=by
 subst hr hl0 ha hb hc;have hcl:∀l:List α,∀p∈l.map pv,p.ids= []:=λl=>XE K.ids l
 refine Eff.vw [] func195 (by decide) rfl ntmps195 results195 (by simp) (hcl _) (hcl _) (by simp[Ji,Jf]) (by simp[Ji,Jf]) λq=> ?_
 have klen:=K.len;have kpart:=K.part;have katom:=K.atom;have kknown:=K.known;simp only[go_sem]at klen kpart katom kknown;have w1:IntKind.i64.wrap (((X.length+1:Nat):Int)-(X.length:Int))=1:=by rw[Ur (by omega) (by omega)];omega
 have hl:(X++(x::(B++Y))).length=n:=by simp;omega
 simp only[go_sem,w1];refine Wx (ι:= { uv:Nat×Nat // uv.1<=uv.2/\uv.2<=B.length/\(∀t,t<uv.1->lt (B.getD t Jd) x=Ht)/\ ∀t,uv.2<=t->t<B.length->lt x (B.getD t Jd)=Ht }) 220 (λy=> [(0,.vsl 1000 n 15),(1,.int .i64 (X.length:Int)),(4,.fn g []),(10,.int .i64 ((X.length+1+y.1.1:Nat):Int)),(11,.int .i64 ((X.length+1+y.1.2:Nat):Int))]) (λ_=> []) (λ_=> [(1000,.vec n 15 e)]) (λ_=> []) (λ_=> []) (λy=> [(1000,(X++(x::(B++Y))).map pv)]) (λ_=> []) [] [(1000,q)] [] (λy=>y.1.2-y.1.1) ⟨(0,B.length),JI _,Js _,λt h=>absurd h (JT _),λt h1 h2=>absurd h2 (by omega)⟩
  (YB rfl (Fc5 rfl rfl rfl rfl rfl) rfl rfl rfl) (λx=>XI (by simp[Ji,Jf,ZV]) (YM K.ids _)) (λy=> ?_)
 obtain⟨⟨u,v⟩,h1,h2,h3,h4⟩:=y;simp only at h1 h2 h3 h4 ⊢;by_cases huv:u<v;have c1:((X.length+1+u:Nat):Int)<((X.length+1+v:Nat):Int):=by omega
 have w2:IntKind.i64.wrap (((X.length+1+u:Nat):Int)+((X.length+1+v:Nat):Int))=(((X.length+1+u)+(X.length+1+v):Nat):Int):=by rw[Ur (by omega) (by omega)];omega
 obtain⟨d,hd⟩:∃d,d=(u+v) / 2:=⟨_,rfl⟩;have hw:=F5 (a:=X.length+1+u) (b:=X.length+1+v) (h:=X.length+1+d) (by omega) (by omega);have hdB:d<B.length:=by omega
 have g0:((X++(x::(B++Y))).map pv).getD X.length .any=pv x:=by rw[Z6 (by omega),Y6 _ _ _ rfl]
 have g1:((X++(x::(B++Y))).map pv).getD (X.length+1+d) .any=pv (B.getD d Jd):=by
  rw[Z6 (by omega),show X++(x::(B++Y))=(X++x::B.take d)++(B.drop d++Y)by rw[Jb,List.cons_append,<-Jb (Jr d B),Ja],XP hdB];exact congrArg pv (Y6 _ _ _ (by simp;omega))
 have b0:0<=(X.length:Int)/\(X.length:Int)<(n:Int):=by omega
 have b1:0<=((X.length+1+d:Nat):Int)/\((X.length+1+d:Nat):Int)<(n:Int):=by omega
 have w3:IntKind.i64.wrap (((X.length+1+d:Nat):Int)+1)=((X.length+1+(d+1):Nat):Int):=by rw[Ur (by omega) (by omega)];omega
 have hv:=K.cv (B.getD d Jd) x;simp only[go_sem,c1,w2,hw];refine vDq ?_;simp only[go_sem,b1.1,b1.2,b0.1,b0.2,g0,g1,klen,kpart,hl];refine Zl (K.cmp (B.getD d Jd) x) ?_ ?_ ?_;simp only[go_sem,K.give,K.givable];simp only[go_sem,K.give,K.givable];by_cases hlt:lt (B.getD d Jd) x=Ht;rw[hlt]at hv;simp only[go_sem,hv,of_decide_eq_true hv,w3];refine⟨⟨(d+1,v),by show d+1<=v;omega,h2,λt ht=> ?_,h4⟩,by show v-(d+1)<v-u;omega,YB rfl (Fc5 rfl rfl rfl rfl rfl) rfl rfl rfl⟩;have ht:t<d+1:=ht;by_cases e:t=d;subst e;exact hlt;refine K.good.trans _ _ _ ?_ hlt;rw[getD_lt (by omega),getD_lt (by omega)];exact hB.lt_get K.good (by omega) (by omega);have hv':¬cv (B.getD d Jd) x<0:=by
  have:lt (B.getD d Jd) x=false:=by simpa using hlt
  rw[this]at hv;simpa using hv
 have hx:lt x (B.getD d Jd)=true:=by
  rw[getD_lt hdB]at hlt ⊢;exact(hU _ (Jl _)).resolve_right hlt
 simp only[go_sem,hv'];refine⟨⟨(u,d),by show u<=d;omega,by show d<=B.length;omega,h3,λt ht ht2=> ?_⟩,by show d-u<v-u;omega,YB rfl (Fc5 rfl rfl rfl rfl rfl) rfl rfl rfl⟩;have ht:d<=t:=ht;by_cases e:t=d;subst e;exact hx;refine K.good.trans _ _ _ hx ?_;rw[getD_lt (by omega),getD_lt (by omega)];exact hB.lt_get K.good (by omega) (by omega);have c1:¬((X.length+1+u:Nat):Int)<((X.length+1+v:Nat):Int):=by omega
 have huv:v=u:=by omega
 subst huv;have hs:srt lt (x::B)=B.take v++x::B.drop v:=Zdj K.good (by rw[Ja];exact hB) (λp hp=>by
  obtain⟨t,ht,rfl⟩:=Jk hp;rw[Jg]at ht;have:=h3 t (by omega);rw[getD_lt (by omega)]at this;simpa using this) (λp hp=>by
  obtain⟨t,ht,rfl⟩:=Jk hp;rw[Jq]at ht;have:=h4 (v+t) (by omega) (by omega);rw[getD_lt (by omega)]at this;simpa using this) (by
  refine JB.trans ?_;rw[Ja])
 simp only[go_sem,c1];refine Wx (ι:= { t:Nat // t<=v }) 220 (λy=> [(0,.vsl 1000 n 15),(10,.int .i64 ((X.length+1+v:Nat):Int)),(13,.int .i64 ((X.length+y.1:Nat):Int))]) (λ_=> []) (λ_=> [(1000,.vec n 15 e)]) (λ_=> []) (λ_=> []) (λy=> [(1000,(X++(B.take y.1++x::(B.drop y.1++Y))).map pv)]) (λ_=> []) [] [(1000,q)] [] (λy=>v-y.1) ⟨0,JI _⟩
  (YB rfl (Fc3 rfl rfl rfl) rfl (by show Hs _=Hs _;simp) rfl) (λx=>XI (by simp[Ji,Jf,ZV]) (YM K.ids _)) (λy=> ?_)
 obtain⟨t,ht⟩:=y;simp only;have w5:IntKind.i64.wrap (((X.length+1+v:Nat):Int)-1)=((X.length+v:Nat):Int):=by rw[Ur (by omega) (by omega)];omega
 by_cases htv:t<v
 ·have c2:((X.length+t:Nat):Int)<((X.length+v:Nat):Int):=by omega
  have htB:t<B.length:=by omega
  obtain⟨p,hp⟩:∃p,p=X.length+t:=⟨_,rfl⟩;rw[<-hp];rw[<-hp]at c2;have w6:IntKind.i64.wrap ((p:Int)+1)=((p+1:Nat):Int):=by rw[Ur (by omega) (by omega)];omega
  have el:X++(B.take t++x::(B.drop t++Y))=(X++B.take t)++x::([]++B.getD t Jd::(B.drop (t+1)++Y)):=by rw[XP htB];simp
  have en:X++(B.take (t+1)++x::(B.drop (t+1)++Y))=(X++B.take t)++B.getD t Jd::([]++x::(B.drop (t+1)++Y)):=by rw[GU htB];simp
  have sw:=Zdl (X++B.take t) [] (B.drop (t+1)++Y) x (B.getD t Jd) (i:=p) (j:=p+1) (by simp;omega) (by simp;omega);rw[<-en]at sw;have d0:((X++B.take t)++x::([]++B.getD t Jd::(B.drop (t+1)++Y))).getD p Jd=x:=Y6 _ _ _ (by simp;omega);have d1:((X++B.take t)++x::([]++B.getD t Jd::(B.drop (t+1)++Y))).getD (p+1) Jd=B.getD t Jd:=by
   rw[show(X++B.take t)++x::([]++B.getD t Jd::(B.drop (t+1)++Y))=(X++B.take t++ [x])++B.getD t Jd::(B.drop (t+1)++Y)by simp,Y6 _ _ _ (by simp;omega)]
  have hlen:((X++B.take t)++x::([]++B.getD t Jd::(B.drop (t+1)++Y))).length=n:=by simp;omega
  rw[el];generalize (X++B.take t)++x::([]++B.getD t Jd::(B.drop (t+1)++Y))=l at sw d0 d1 hlen ⊢;generalize B.getD t Jd=y at sw d0 d1 ⊢;unfold swap at sw
  rw[d0,d1]at sw;have g0:(l.map pv).getD p .any=pv x:=by rw[Z6 (by omega),d0]
  have g1:(l.map pv).getD (p+1) .any=pv y:=by rw[Z6 (by omega),d1]
  have g2:((l.set p y).map pv).getD (p+1) .any=pv y:=by rw[Z6 (by simp;omega),getD_setN (by omega),d1]
  have b0:0<=(p:Int)/\(p:Int)<(n:Int):=by omega
  have b1:0<=((p+1:Nat):Int)/\((p+1:Nat):Int)<(n:Int):=by omega
  simp only[go_sem,w5,c2];refine vDq ?_;simp only[go_sem,w6,b1.1,b1.2,b0.1,b0.2,g0,g1,klen,kpart,katom,kknown,hlen,Sn,g2,Jv,sw];subst hp;exact⟨⟨t+1,by omega⟩,by show v-(t+1)<v-t;omega,YB rfl (Fc3 rfl rfl rfl) rfl rfl rfl⟩
 have c2:¬((X.length+t:Nat):Int)<((X.length+v:Nat):Int):=by omega
 have htv:t=v:=by omega
 subst htv;simp only[go_sem,w5,c2];refine U2 (r0:= .tup []) (hcl _) rfl (.clean rfl) rfl ?_ rfl;show Hs _=Hs _;rw[hs];simp
end
open Go.PL Go.PL.Srt
section
variable {α:Type} [Inhabited α] {pv:α->PV} {g:FuncId} {lt:α->α->Bool} {cv:α->α->Int}
theorem Zdm (K:SortK pv g lt cv) (e:TypeId) (n:Nat) (X A Y:List α) (x:α) (hA:Inc lt A) (hU:∀y∈A,lt x y=Ht\/lt y x=Ht) (hA0:1<A.length) (hn:X.length+A.length+1+Y.length=n) (hm:n<=1000000000000) (l0 r:List PV) (hl0:l0=(X++(A++(x::Y))).map pv) (hr:r=(X++(srt lt (A++ [x])++Y)).map pv) (ia ib ic:Int) (ha:ia=(X.length:Int)) (hb:ib=((X.length+A.length:Nat):Int)) (hc:ic=((X.length+A.length+1:Nat):Int)):
  Eff prog 195 [.vsl 1000 n 15,.int .i64 ia,.int .i64 ib,.int .i64 ic,.fn g []] (Vj n 15 e l0) (.tup []) (Vj n 15 e r):=by
 subst hr hl0 ha hb hc;have hcl:∀l:List α,∀p∈l.map pv,p.ids= []:=λl=>XE K.ids l
 refine Eff.vw [] func195 (by decide) rfl ntmps195 results195 (by simp) (hcl _) (hcl _) (by simp[Ji,Jf]) (by simp[Ji,Jf]) λq=> ?_
 have klen:=K.len;have kpart:=K.part;have katom:=K.atom;have kknown:=K.known;simp only[go_sem]at klen kpart katom kknown;have w0:IntKind.i64.wrap (((X.length+A.length:Nat):Int)-(X.length:Int))=(A.length:Int):=by rw[Ur (by omega) (by omega)];omega
 have w1:IntKind.i64.wrap (((X.length+A.length+1:Nat):Int)-((X.length+A.length:Nat):Int))=1:=by rw[Ur (by omega) (by omega)];omega
 have c0:((A.length:Int)==1)=false:=by simp;omega
 have hl:(X++(A++(x::Y))).length=n:=by simp;omega
 simp only[go_sem,w0,w1,c0];refine Wx (ι:= { uv:Nat×Nat // uv.1<=uv.2/\uv.2<=A.length/\(∀t,t<uv.1->lt (A.getD t Jd) x=Ht)/\ ∀t,uv.2<=t->t<A.length->lt x (A.getD t Jd)=Ht }) 220 (λy=> [(0,.vsl 1000 n 15),(2,.int .i64 ((X.length+A.length:Nat):Int)),(4,.fn g []),(14,.int .i64 ((X.length+y.1.1:Nat):Int)),(15,.int .i64 ((X.length+y.1.2:Nat):Int))]) (λ_=> []) (λ_=> [(1000,.vec n 15 e)]) (λ_=> []) (λ_=> []) (λy=> [(1000,(X++(A++(x::Y))).map pv)]) (λ_=> []) [] [(1000,q)] [] (λy=>y.1.2-y.1.1) ⟨(0,A.length),JI _,Js _,λt h=>absurd h (JT _),λt h1 h2=>absurd h2 (by omega)⟩
  (YB rfl (Fc5 rfl rfl rfl rfl rfl) rfl rfl rfl) (λx=>XI (by simp[Ji,Jf,ZV]) (YM K.ids _)) (λy=> ?_)
 obtain⟨⟨u,v⟩,h1,h2,h3,h4⟩:=y;simp only at h1 h2 h3 h4 ⊢;by_cases huv:u<v;have c1:((X.length+u:Nat):Int)<((X.length+v:Nat):Int):=by omega
 have w2:IntKind.i64.wrap (((X.length+u:Nat):Int)+((X.length+v:Nat):Int))=(((X.length+u)+(X.length+v):Nat):Int):=by rw[Ur (by omega) (by omega)];omega
 obtain⟨d,hd⟩:∃d,d=(u+v) / 2:=⟨_,rfl⟩;have hw:=F5 (a:=X.length+u) (b:=X.length+v) (h:=X.length+d) (by omega) (by omega);have hdA:d<A.length:=by omega
 have g0:((X++(A++(x::Y))).map pv).getD (X.length+A.length) .any=pv x:=by
  rw[Z6 (by omega),show X++(A++(x::Y))=(X++A)++x::Y by simp];exact congrArg pv (Y6 _ _ _ (by simp))
 have g1:((X++(A++(x::Y))).map pv).getD (X.length+d) .any=pv (A.getD d Jd):=by
  rw[Z6 (by omega),show X++(A++(x::Y))=(X++A.take d)++(A.drop d++(x::Y))by rw[Jb,<-Jb (Jr d A),Ja],XP hdA];exact congrArg pv (Y6 _ _ _ (by simp;omega))
 have b0:0<=((X.length+A.length:Nat):Int)/\((X.length+A.length:Nat):Int)<(n:Int):=by omega
 have b1:0<=((X.length+d:Nat):Int)/\((X.length+d:Nat):Int)<(n:Int):=by omega
 have w3:IntKind.i64.wrap (((X.length+d:Nat):Int)+1)=((X.length+(d+1):Nat):Int):=by rw[Ur (by omega) (by omega)];omega
 have hv:=K.cv x (A.getD d Jd);simp only[go_sem,c1,w2,hw];refine vDq ?_;simp only[go_sem,b1.1,b1.2,b0.1,b0.2,g0,g1,klen,kpart,hl];refine Zl (K.cmp x (A.getD d Jd)) ?_ ?_ ?_;simp only[go_sem,K.give,K.givable];simp only[go_sem,K.give,K.givable];by_cases hlt:lt x (A.getD d Jd)=Ht;rw[hlt]at hv;simp only[go_sem,hv,of_decide_eq_true hv];refine⟨⟨(u,d),by show u<=d;omega,by show d<=A.length;omega,h3,λt ht ht2=> ?_⟩,by show d-u<v-u;omega,YB rfl (Fc5 rfl rfl rfl rfl rfl) rfl rfl rfl⟩;have ht:d<=t:=ht;by_cases e:t=d;subst e;exact hlt;refine K.good.trans _ _ _ hlt ?_;rw[getD_lt (by omega),getD_lt (by omega)];exact hA.lt_get K.good (by omega) (by omega);have hv':¬cv x (A.getD d Jd)<0:=by
  have:lt x (A.getD d Jd)=false:=by simpa using hlt
  rw[this]at hv;simpa using hv
 have hx:lt (A.getD d Jd) x=true:=by
  rw[getD_lt hdA]at hlt ⊢;exact(hU _ (Jl _)).resolve_left hlt
 simp only[go_sem,hv',w3];refine⟨⟨(d+1,v),by show d+1<=v;omega,h2,λt ht=> ?_,h4⟩,by show v-(d+1)<v-u;omega,YB rfl (Fc5 rfl rfl rfl rfl rfl) rfl rfl rfl⟩;have ht:t<d+1:=ht;by_cases e:t=d;subst e;exact hx;refine K.good.trans _ _ _ ?_ hx;rw[getD_lt (by omega),getD_lt (by omega)];exact hA.lt_get K.good (by omega) (by omega);have c1:¬((X.length+u:Nat):Int)<((X.length+v:Nat):Int):=by omega
 have huv:v=u:=by omega
 subst huv;have hs:srt lt (A++ [x])=A.take v++x::A.drop v:=Zdj K.good (by rw[Ja];exact hA) (λp hp=>by
  obtain⟨t,ht,rfl⟩:=Jk hp;rw[Jg]at ht;have:=h3 t (by omega);rw[getD_lt (by omega)]at this;simpa using this) (λp hp=>by
  obtain⟨t,ht,rfl⟩:=Jk hp;rw[Jq]at ht;have:=h4 (v+t) (by omega) (by omega);rw[getD_lt (by omega)]at this;simpa using this) (by
  refine JB.trans ?_;rw[Ja];exact JF (l₁:= [x]))
 simp only[go_sem,c1];refine Wx (ι:= { t:Nat // v<=t/\t<=A.length }) 220 (λy=> [(0,.vsl 1000 n 15),(14,.int .i64 ((X.length+v:Nat):Int)),(17,.int .i64 ((X.length+y.1:Nat):Int))]) (λ_=> []) (λ_=> [(1000,.vec n 15 e)]) (λ_=> []) (λ_=> []) (λy=> [(1000,(X++(A.take y.1++x::(A.drop y.1++Y))).map pv)]) (λ_=> []) [] [(1000,q)] [] (λy=>y.1-v) ⟨A.length,h2,Js _⟩
  (YB rfl (Fc3 rfl rfl rfl) rfl (by show Hs _=Hs _;simp) rfl) (λx=>XI (by simp[Ji,Jf,ZV]) (YM K.ids _)) (λy=> ?_)
 obtain⟨t,ht1,ht2⟩:=y;simp only;by_cases htv:v<t
 ·obtain⟨t,rfl⟩:∃t',t=t'+1:=⟨t-1,by omega⟩;have c2:((X.length+v:Nat):Int)<((X.length+(t+1):Nat):Int):=by omega
  have htA:t<A.length:=by omega
  obtain⟨p,hp⟩:∃p,p=X.length+t:=⟨_,rfl⟩;have ep:X.length+(t+1)=p+1:=by omega
  rw[ep];rw[ep]at c2;have w6:IntKind.i64.wrap (((p+1:Nat):Int)-1)=(p:Int):=by rw[Ur (by omega) (by omega)];omega
  have el:X++(A.take (t+1)++x::(A.drop (t+1)++Y))=(X++A.take t)++A.getD t Jd::([]++x::(A.drop (t+1)++Y)):=by rw[GU htA];simp
  have en:X++(A.take t++x::(A.drop t++Y))=(X++A.take t)++x::([]++A.getD t Jd::(A.drop (t+1)++Y)):=by rw[XP htA];simp
  have sw:=Zdl (X++A.take t) [] (A.drop (t+1)++Y) (A.getD t Jd) x (i:=p) (j:=p+1) (by simp;omega) (by simp;omega);rw[<-en]at sw;have d0:((X++A.take t)++A.getD t Jd::([]++x::(A.drop (t+1)++Y))).getD p Jd=A.getD t Jd:=Y6 _ _ _ (by simp;omega);have d1:((X++A.take t)++A.getD t Jd::([]++x::(A.drop (t+1)++Y))).getD (p+1) Jd=x:=by
   rw[show(X++A.take t)++A.getD t Jd::([]++x::(A.drop (t+1)++Y))=(X++A.take t++ [A.getD t Jd])++x::(A.drop (t+1)++Y)by simp,Y6 _ _ _ (by simp;omega)]
  have hlen:((X++A.take t)++A.getD t Jd::([]++x::(A.drop (t+1)++Y))).length=n:=by simp;omega
  rw[el];generalize (X++A.take t)++A.getD t Jd::([]++x::(A.drop (t+1)++Y))=l at sw d0 d1 hlen ⊢;generalize A.getD t Jd=y at sw d0 d1 ⊢;rw[ZeZ _ _ _ (by omega) (by omega)]at sw;unfold swap at sw
  rw[d0,d1]at sw;have g0:(l.map pv).getD p .any=pv y:=by rw[Z6 (by omega),d0]
  have g1:(l.map pv).getD (p+1) .any=pv x:=by rw[Z6 (by omega),d1]
  have g2:((l.set (p+1) y).map pv).getD p .any=pv y:=by rw[Z6 (by simp;omega),getD_setN (by omega),d0]
  have b0:0<=(p:Int)/\(p:Int)<(n:Int):=by omega
  have b1:0<=((p+1:Nat):Int)/\((p+1:Nat):Int)<(n:Int):=by omega
  simp only[go_sem,c2];refine vDq ?_;simp only[go_sem,w6,b1.1,b1.2,b0.1,b0.2,g0,g1,klen,kpart,katom,kknown,hlen,Sn,g2,Jv,sw];subst hp;exact⟨⟨t,by omega,by omega⟩,by show t-v<t+1-v;omega,YB rfl (Fc3 rfl rfl rfl) rfl rfl rfl⟩
 have c2:¬((X.length+v:Nat):Int)<((X.length+t:Nat):Int):=by omega
 have htv:t=v:=by omega
 subst htv;simp only[go_sem,c2];refine U2 (r0:= .tup []) (hcl _) rfl (.clean rfl) rfl ?_ rfl;show Hs _=Hs _;rw[hs];simp
end
open Go.PL Go.PL.Srt
section
variable {α:Type} [Inhabited α] {pv:α->PV} {g:FuncId} {lt:α->α->Bool} {cv:α->α->Int}
theorem Inc.left {A B:List α} (h:Inc lt (A++B)):Inc lt A:=(Inc.append.1 h).1
theorem Inc.right {A B:List α} (h:Inc lt (A++B)):Inc lt B:=(Inc.append.1 h).2.1
theorem Zhs (gd:J3 lt) {A B:List α} (hA:Inc lt A) (hB:Inc lt B) (hU:Unl lt (A++B)) (s H lo hi:Nat) (c1:lo<=s) (c2:s<=hi) (c3:hi<=H) (c4:hi<=A.length) (c5:H<=lo+B.length) (d1:lo=0\/lo+B.length=H) (d2:hi=H\/hi=A.length)
  (h3:∀t,lo<=t->t<s->lt (A.getD t Jd) (B.getD (H-1-t) Jd)=Ht) (h4:∀t,s<=t->t<hi->lt (B.getD (H-1-t) Jd) (A.getD t Jd)=Ht):
  ∃A1 A2 B1 B2,A=A1++A2/\B=B1++B2/\s=A1.length/\H=A1.length+B1.length/\srt lt (A++B)=srt lt (A1++B1)++srt lt (A2++B2):=by
 refine⟨A.take s,A.drop s,B.take (H-s),B.drop (H-s),(Ja _ _).symm,(Ja _ _).symm,by rw[Jg];omega,by rw[Jg,Jg];omega,?_⟩;refine Znr gd hA hB hU s (H-s) (by omega) (by omega) (λk1 k2=> ?_) (λk1 k2=> ?_);have:=h3 (s-1) (by omega) (by omega);rw[getD_lt (by omega),getD_lt (by omega)]at this;have e:H-1-(s-1)=H-s:=by omega
 simpa only[e]using this;have:=h4 s (by omega) (by omega);rw[getD_lt (by omega),getD_lt (by omega)]at this;have e:H-1-s=H-s-1:=by omega
 simpa only[e]using this
theorem DW (K:SortK pv g lt cv) (e:TypeId) (n:Nat) (hm:n<=1000000000000) (tot:Nat):∀(X A B Y:List α) (_:A.length+B.length<=tot) (hA:Inc lt A) (hB:Inc lt B) (hU:Unl lt (A++B)) (_:0<A.length) (_:0<B.length) (hn:X.length+A.length+B.length+Y.length=n) (l0 r:List PV) (hl0:l0=(X++(A++(B++Y))).map pv) (hr:r=(X++(srt lt (A++B)++Y)).map pv) (ia ib ic:Int) (ha:ia=(X.length:Int)) (hb:ib=((X.length+A.length:Nat):Int)) (hc:ic=((X.length+A.length+B.length:Nat):Int)),
  Eff prog 195 [.vsl 1000 n 15,.int .i64 ia,.int .i64 ib,.int .i64 ic,.fn g []] (Vj n 15 e l0) (.tup []) (Vj n 15 e r):=by
 induction tot with
 |zero=>intro X A B Y h1 _ _ _ h2;omega
 |succ tot ih=>
 intro X A B Y hT hA hB hU hA0 hB0 hn l0 r hl0 hr ia ib ic ha hb hc;by_cases hA1:A.length=1;obtain⟨x,rfl⟩:=JC.1 hA1;refine Ze0 K e n X B Y x hB (λy hy=> ?_) hB0 (by simpa using hn) hm l0 r (by rw[hl0];rfl) (by rw[hr];rfl) ia ib ic ha hb hc;exact(Unl.append.1 hU).2.2 x (by simp) y hy;by_cases hB1:B.length=1;obtain⟨x,rfl⟩:=JC.1 hB1;refine Zdm K e n X A Y x hA (λy hy=> ?_) (by omega) (by simpa using hn) hm l0 r (by rw[hl0];rfl) (by rw[hr]) ia ib ic ha hb hc;exact((Unl.append.1 hU).2.2 y hy x (by simp)).symm;subst hr hl0 ha hb hc;have hcl:∀l:List α,∀p∈l.map pv,p.ids= []:=λl=>XE K.ids l
 refine Eff.vw [] func195 (by decide) rfl ntmps195 results195 (by simp) (hcl _) (hcl _) (by simp[Ji,Jf]) (by simp[Ji,Jf]) λq=> ?_
 have klen:=K.len;have kpart:=K.part;simp only[go_sem]at klen kpart;obtain⟨H,hH⟩:∃H,H=(A.length+B.length) / 2:=⟨_,rfl⟩;have w0:IntKind.i64.wrap (((X.length+A.length:Nat):Int)-(X.length:Int))=(A.length:Int):=by rw[Ur (by omega) (by omega)];omega
 have w1:IntKind.i64.wrap (((X.length+A.length+B.length:Nat):Int)-((X.length+A.length:Nat):Int))=(B.length:Int):=by rw[Ur (by omega) (by omega)];omega
 have c0:((A.length:Int)==1)=false:=by simp;omega
 have c1:((B.length:Int)==1)=false:=by simp;omega
 have w2:IntKind.i64.wrap ((X.length:Int)+((X.length+A.length+B.length:Nat):Int))=((X.length+(X.length+A.length+B.length):Nat):Int):=by rw[Ur (by omega) (by omega)];omega
 have hw:=F5 (a:=X.length) (b:=X.length+A.length+B.length) (h:=X.length+H) (by omega) (by omega);have w3:IntKind.i64.wrap (((X.length+H:Nat):Int)+((X.length+A.length:Nat):Int))=((X.length+H+(X.length+A.length):Nat):Int):=by rw[Ur (by omega) (by omega)];omega
 have w4:IntKind.i64.wrap (((X.length+H+(X.length+A.length):Nat):Int)-1)=((X.length+H+(X.length+A.length)-1:Nat):Int):=by rw[Ur (by omega) (by omega)];omega
 have hl:(X++(A++(B++Y))).length=n:=by simp;omega
 obtain⟨lo,hi,hlh⟩:∃lo hi,(H<A.length/\lo=H-B.length/\hi=H)\/(A.length<=H/\lo=0/\hi=A.length):=by
  by_cases h:H<A.length;exact⟨_,_,.inl ⟨h,rfl,rfl⟩⟩;exact⟨_,_,.inr ⟨by omega,rfl,rfl⟩⟩
 have w5:H<A.length->IntKind.i64.wrap (((X.length+H+(X.length+A.length):Nat):Int)-((X.length+A.length+B.length:Nat):Int))=((X.length+(H-B.length):Nat):Int):=λh=>by rw[Ur (by omega) (by omega)];omega
 have w6:(X.length:Int)=((X.length+0:Nat):Int):=by simp
 have hlh2:=hlh;rcases hlh with ⟨hc,hlo,hhi⟩|⟨hc,hlo,hhi⟩;have c2:((X.length+H:Nat):Int)<((X.length+A.length:Nat):Int):=by omega
 simp only[go_sem,w0,w1,c0,c1,w2,hw,w3,w4,c2,w5 hc];rw[<-hlo];have e1:X.length+H=X.length+hi:=by rw[hhi]
 refine Wx (ι:= { uv:Nat×Nat // lo<=uv.1/\uv.1<=uv.2/\uv.2<=hi/\(∀t,lo<=t->t<uv.1->lt (A.getD t Jd) (B.getD (H-1-t) Jd)=Ht)/\ ∀t,uv.2<=t->t<hi->lt (B.getD (H-1-t) Jd) (A.getD t Jd)=Ht }) 220 (λy=> [(0,.vsl 1000 n 15),(1,.int .i64 (X.length:Int)),(2,.int .i64 ((X.length+A.length:Nat):Int)),(3,.int .i64 ((X.length+A.length+B.length:Nat):Int)),(4,.fn g []),(18,.int .i64 ((X.length+H:Nat):Int)),(19,.int .i64 ((X.length+H+(X.length+A.length):Nat):Int)),(20,.int .i64 ((X.length+y.1.1:Nat):Int)),(21,.int .i64 ((X.length+y.1.2:Nat):Int)),(22,.int .i64 ((X.length+H+(X.length+A.length)-1:Nat):Int))]) (λ_=> []) (λ_=> [(1000,.vec n 15 e)]) (λ_=> []) (λ_=> []) (λy=> [(1000,(X++(A++(B++Y))).map pv)]) (λ_=> []) [] [(1000,q)] [] (λy=>y.1.2-y.1.1) ⟨(lo,hi),Js _,by show lo<=hi;omega,Js _,λt h1 h2=>absurd h1 (by have:t<lo:=h2;omega),λt h1 h2=>absurd h2 (by have:hi<=t:=h1;omega)⟩
  (YB rfl (by subst hhi;exact(Fc10 rfl rfl rfl rfl rfl rfl rfl rfl rfl rfl)) rfl rfl rfl) (λx=>XI (by simp[Ji,Jf,ZV]) (YM K.ids _)) (λy=> ?_)
 obtain⟨⟨u,v⟩,h0,h1,h2,h3,h4⟩:=y;simp only at h0 h1 h2 h3 h4 ⊢;by_cases huv:u<v;have c3:((X.length+u:Nat):Int)<((X.length+v:Nat):Int):=by omega
 have w7:IntKind.i64.wrap (((X.length+u:Nat):Int)+((X.length+v:Nat):Int))=(((X.length+u)+(X.length+v):Nat):Int):=by rw[Ur (by omega) (by omega)];omega
 obtain⟨d,hd⟩:∃d,d=(u+v) / 2:=⟨_,rfl⟩;have hw2:=F5 (a:=X.length+u) (b:=X.length+v) (h:=X.length+d) (by omega) (by omega);obtain⟨f,hf⟩:∃f,f=H-1-d:=⟨_,rfl⟩;have hdA:d<A.length:=by omega
 have hfB:f<B.length:=by omega
 have w8:IntKind.i64.wrap (((X.length+H+(X.length+A.length)-1:Nat):Int)-((X.length+d:Nat):Int))=((X.length+A.length+f:Nat):Int):=by rw[Ur (by omega) (by omega)];omega
 have g0:((X++(A++(B++Y))).map pv).getD (X.length+A.length+f) .any=pv (B.getD f Jd):=by
  rw[Z6 (by omega),show X++(A++(B++Y))=(X++(A++B.take f))++(B.drop f++Y)by rw[Jb,Jb,<-Jb (Jr f B),Ja],XP hfB];exact congrArg pv (Y6 _ _ _ (by simp;omega))
 have g1:((X++(A++(B++Y))).map pv).getD (X.length+d) .any=pv (A.getD d Jd):=by
  rw[Z6 (by omega),show X++(A++(B++Y))=(X++A.take d)++(A.drop d++(B++Y))by rw[Jb,<-Jb (Jr d A),Ja],XP hdA];exact congrArg pv (Y6 _ _ _ (by simp;omega))
 have b0:0<=((X.length+A.length+f:Nat):Int)/\((X.length+A.length+f:Nat):Int)<(n:Int):=by omega
 have b1:0<=((X.length+d:Nat):Int)/\((X.length+d:Nat):Int)<(n:Int):=by omega
 have w9:IntKind.i64.wrap (((X.length+d:Nat):Int)+1)=((X.length+(d+1):Nat):Int):=by rw[Ur (by omega) (by omega)];omega
 have hv:=K.cv (B.getD f Jd) (A.getD d Jd);simp only[go_sem,c3,w7,hw2];refine vDq ?_;simp only[go_sem,w8,b1.1,b1.2,b0.1,b0.2,g0,g1,klen,kpart,hl];refine Zl (K.cmp (B.getD f Jd) (A.getD d Jd)) ?_ ?_ ?_;simp only[go_sem,K.give,K.givable];simp only[go_sem,K.give,K.givable];have hxy:lt (A.getD d Jd) (B.getD f Jd)=Ht\/lt (B.getD f Jd) (A.getD d Jd)=true:=by
  rw[getD_lt hdA,getD_lt hfB];exact(Unl.append.1 hU).2.2 _ (Jl _) _ (Jl _)
 by_cases hlt:lt (B.getD f Jd) (A.getD d Jd)=Ht;rw[hlt]at hv;simp only[go_sem,hv,of_decide_eq_true hv];refine⟨⟨(u,d),h0,by show u<=d;omega,by show d<=hi;omega,h3,λt ht ht2=> ?_⟩,by show d-u<v-u;omega,YB rfl (Fc10 rfl rfl rfl rfl rfl rfl rfl rfl rfl rfl) rfl rfl rfl⟩;have ht:d<=t:=ht;by_cases et:t=d;subst et;rw[<-hf];exact hlt;have i1:lt (A.getD d Jd) (A.getD t Jd)=true:=by
  rw[getD_lt (by omega),getD_lt (by omega)];exact hA.lt_get K.good (by omega) (by omega)
 have i2:lt (B.getD (H-1-t) Jd) (B.getD f Jd)=true:=by
  rw[getD_lt (by omega),getD_lt (by omega)];exact hB.lt_get K.good (by omega) (by omega)
 exact K.good.trans _ _ _ i2 (K.good.trans _ _ _ hlt i1);have hv':¬cv (B.getD f Jd) (A.getD d Jd)<0:=by
  have:lt (B.getD f Jd) (A.getD d Jd)=false:=by simpa using hlt
  rw[this]at hv;simpa using hv
 have hx:=hxy.resolve_right hlt;simp only[go_sem,hv',w9];refine⟨⟨(d+1,v),by show lo<=d+1;omega,by show d+1<=v;omega,h2,λt ht1 ht=> ?_,h4⟩,by show v-(d+1)<v-u;omega,YB rfl (Fc10 rfl rfl rfl rfl rfl rfl rfl rfl rfl rfl) rfl rfl rfl⟩;have ht:t<d+1:=ht;by_cases et:t=d;subst et;rw[<-hf];exact hx;have i1:lt (A.getD t Jd) (A.getD d Jd)=true:=by
  rw[getD_lt (by omega),getD_lt (by omega)];exact hA.lt_get K.good (by omega) (by omega)
 have ht1:lo<=t:=ht1;have i2:lt (B.getD f Jd) (B.getD (H-1-t) Jd)=true:=by
  rw[getD_lt (by omega),getD_lt (by omega)];exact hB.lt_get K.good (by omega) (by omega)
 exact K.good.trans _ _ _ i1 (K.good.trans _ _ _ hx i2)
 ·have c3:¬((X.length+u:Nat):Int)<((X.length+v:Nat):Int):=by omega
  have huv:v=u:=by omega
  subst huv;have hex:=Zhs K.good hA hB hU v H lo hi h0 h2 (by omega) (by omega) (by omega) (by omega) (by omega) h3 h4;obtain⟨A1,A2,B1,B2,eA,eB,l1,l2,hsp⟩:=hex;have lA:A.length=A1.length+A2.length:=by rw[eA];simp
  have lB:B.length=B1.length+B2.length:=by rw[eB];simp
  have iA:Inc lt (A1++A2):=eA▸hA;have iB:Inc lt (B1++B2):=eB▸hB;have iU:Unl lt ((A1++A2)++(B1++B2)):=by rw[<-eA,<-eB];exact hU
  have iU1:Unl lt (A1++B1):=Ju.sublist (JD.append (Jo _ _) (Jo _ _)) iU;have iU2:Unl lt (A2++B2):=Ju.sublist (JD.append (Jm _ _) (Jm _ _)) iU;have el:X++(A++(B++Y))=X++(A1++(A2++(B1++(B2++Y)))):=by rw[eA,eB];simp
  have wE:IntKind.i64.wrap (((X.length+H+(X.length+A.length):Nat):Int)-((X.length+v:Nat):Int))=((X.length+A.length+(H-v):Nat):Int):=by rw[Ur (by omega) (by omega)];omega
  by_cases k1:((X.length+v:Nat):Int)<((X.length+A.length:Nat):Int)<;>by_cases k2:((X.length+A.length:Nat):Int)<((X.length+A.length+(H-v):Nat):Int)<;>by_cases k3:(X.length:Int)<((X.length+v:Nat):Int)<;>by_cases k4:((X.length+v:Nat):Int)<((X.length+H:Nat):Int)<;>by_cases k5:((X.length+H:Nat):Int)<((X.length+A.length+(H-v):Nat):Int)<;>by_cases k6:((X.length+A.length+(H-v):Nat):Int)<((X.length+A.length+B.length:Nat):Int)<;>first|(exfalso;omega)|(simp only[go_sem,c3,wE,k1,k2,k3,k4,k5,k6];rw[el])
  all_goals first
   |(refine Xg 1000 (Zb5 K e n (X++A1) A2 B1 (B2++Y) (by omega) (by omega) (by simp;omega) hm _ ((X++(A1++(B1++(A2++(B2++Y))))).map pv) (by simp) (by simp) _ _ _ (by simp;omega) (by simp;omega) (by simp;omega)) (by simp[Ji,Jf]) (hcl _) (hcl _) rfl rfl rfl ?_;simp only[go_sem,k1,k2,k3,k4,k5,k6])
   |rw[show X++(A1++(A2++(B1++(B2++Y))))=X++(A1++(B1++(A2++(B2++Y))))from by
     have hz:A2.length=0\/B1.length=0:=by omega
     rcases hz with hz|hz<;>rw[Jh]at hz<;>simp[hz]]
  all_goals first
   |(refine Xg 1000 (ih X A1 B1 (A2++(B2++Y)) (by omega) (Inc.left iA) (Inc.left iB) iU1 (by omega) (by omega) (by simp;omega) _ ((X++(srt lt (A1++B1)++(A2++(B2++Y)))).map pv) rfl rfl _ _ _ rfl (by omega) (by omega)) (by simp[Ji,Jf]) (hcl _) (hcl _) rfl rfl rfl ?_;simp only[go_sem,k1,k2,k3,k4,k5,k6])
   |rw[show X++(A1++(B1++(A2++(B2++Y))))=X++(srt lt (A1++B1)++(A2++(B2++Y)))from by
     have hz:A1.length=0\/B1.length=0:=by omega
     rcases hz with hz|hz<;>rw[Jh]at hz<;>simp[hz,Wd K.good (Inc.left iA),Wd K.good (Inc.left iB)]]
  all_goals first
   |(refine Xg 1000 (ih (X++srt lt (A1++B1)) A2 B2 Y (by omega) (Inc.right iA) (Inc.right iB) iU2 (by omega) (by omega) (by simp[ZI];omega) _ ((X++(srt lt (A1++B1)++(srt lt (A2++B2)++Y))).map pv) (by simp) (by simp) _ _ _ (by simp[ZI];omega) (by simp[ZI];omega) (by simp[ZI];omega)) (by simp[Ji,Jf]) (hcl _) (hcl _) rfl rfl rfl ?_;simp only[go_sem,k1,k2,k3,k4,k5,k6])
   |rw[show X++(srt lt (A1++B1)++(A2++(B2++Y)))=X++(srt lt (A1++B1)++(srt lt (A2++B2)++Y))from by
     have hz:A2.length=0\/B2.length=0:=by omega
     rcases hz with hz|hz<;>rw[Jh]at hz<;>simp[hz,Wd K.good (Inc.right iA),Wd K.good (Inc.right iB)]]
  all_goals
   refine U2 (r0:= .tup []) (hcl _) rfl (.clean rfl) rfl ?_ rfl;show Hs _=Hs _;rw[hsp];simp
 have c2:¬((X.length+H:Nat):Int)<((X.length+A.length:Nat):Int):=by omega
 simp only[go_sem,w0,w1,c0,c1,w2,hw,w3,w4,c2];refine Wx (ι:= { uv:Nat×Nat // lo<=uv.1/\uv.1<=uv.2/\uv.2<=hi/\(∀t,lo<=t->t<uv.1->lt (A.getD t Jd) (B.getD (H-1-t) Jd)=Ht)/\ ∀t,uv.2<=t->t<hi->lt (B.getD (H-1-t) Jd) (A.getD t Jd)=Ht }) 220 (λy=> [(0,.vsl 1000 n 15),(1,.int .i64 (X.length:Int)),(2,.int .i64 ((X.length+A.length:Nat):Int)),(3,.int .i64 ((X.length+A.length+B.length:Nat):Int)),(4,.fn g []),(18,.int .i64 ((X.length+H:Nat):Int)),(19,.int .i64 ((X.length+H+(X.length+A.length):Nat):Int)),(20,.int .i64 ((X.length+y.1.1:Nat):Int)),(21,.int .i64 ((X.length+y.1.2:Nat):Int)),(22,.int .i64 ((X.length+H+(X.length+A.length)-1:Nat):Int))]) (λ_=> []) (λ_=> [(1000,.vec n 15 e)]) (λ_=> []) (λ_=> []) (λy=> [(1000,(X++(A++(B++Y))).map pv)]) (λ_=> []) [] [(1000,q)] [] (λy=>y.1.2-y.1.1) ⟨(lo,hi),Js _,by show lo<=hi;omega,Js _,λt h1 h2=>absurd h1 (by have:t<lo:=h2;omega),λt h1 h2=>absurd h2 (by have:hi<=t:=h1;omega)⟩
  (YB rfl (by subst hhi hlo;exact(Fc10 rfl rfl rfl rfl rfl rfl rfl rfl rfl rfl)) rfl rfl rfl) (λx=>XI (by simp[Ji,Jf,ZV]) (YM K.ids _)) (λy=> ?_)
 obtain⟨⟨u,v⟩,h0,h1,h2,h3,h4⟩:=y;simp only at h0 h1 h2 h3 h4 ⊢;by_cases huv:u<v;have c3:((X.length+u:Nat):Int)<((X.length+v:Nat):Int):=by omega
 have w7:IntKind.i64.wrap (((X.length+u:Nat):Int)+((X.length+v:Nat):Int))=(((X.length+u)+(X.length+v):Nat):Int):=by rw[Ur (by omega) (by omega)];omega
 obtain⟨d,hd⟩:∃d,d=(u+v) / 2:=⟨_,rfl⟩;have hw2:=F5 (a:=X.length+u) (b:=X.length+v) (h:=X.length+d) (by omega) (by omega);obtain⟨f,hf⟩:∃f,f=H-1-d:=⟨_,rfl⟩;have hdA:d<A.length:=by omega
 have hfB:f<B.length:=by omega
 have w8:IntKind.i64.wrap (((X.length+H+(X.length+A.length)-1:Nat):Int)-((X.length+d:Nat):Int))=((X.length+A.length+f:Nat):Int):=by rw[Ur (by omega) (by omega)];omega
 have g0:((X++(A++(B++Y))).map pv).getD (X.length+A.length+f) .any=pv (B.getD f Jd):=by
  rw[Z6 (by omega),show X++(A++(B++Y))=(X++(A++B.take f))++(B.drop f++Y)by rw[Jb,Jb,<-Jb (Jr f B),Ja],XP hfB];exact congrArg pv (Y6 _ _ _ (by simp;omega))
 have g1:((X++(A++(B++Y))).map pv).getD (X.length+d) .any=pv (A.getD d Jd):=by
  rw[Z6 (by omega),show X++(A++(B++Y))=(X++A.take d)++(A.drop d++(B++Y))by rw[Jb,<-Jb (Jr d A),Ja],XP hdA];exact congrArg pv (Y6 _ _ _ (by simp;omega))
 have b0:0<=((X.length+A.length+f:Nat):Int)/\((X.length+A.length+f:Nat):Int)<(n:Int):=by omega
 have b1:0<=((X.length+d:Nat):Int)/\((X.length+d:Nat):Int)<(n:Int):=by omega
 have w9:IntKind.i64.wrap (((X.length+d:Nat):Int)+1)=((X.length+(d+1):Nat):Int):=by rw[Ur (by omega) (by omega)];omega
 have hv:=K.cv (B.getD f Jd) (A.getD d Jd);simp only[go_sem,c3,w7,hw2];refine vDq ?_;simp only[go_sem,w8,b1.1,b1.2,b0.1,b0.2,g0,g1,klen,kpart,hl];refine Zl (K.cmp (B.getD f Jd) (A.getD d Jd)) ?_ ?_ ?_;simp only[go_sem,K.give,K.givable];simp only[go_sem,K.give,K.givable];have hxy:lt (A.getD d Jd) (B.getD f Jd)=Ht\/lt (B.getD f Jd) (A.getD d Jd)=true:=by
  rw[getD_lt hdA,getD_lt hfB];exact(Unl.append.1 hU).2.2 _ (Jl _) _ (Jl _)
 by_cases hlt:lt (B.getD f Jd) (A.getD d Jd)=Ht;rw[hlt]at hv;simp only[go_sem,hv,of_decide_eq_true hv];refine⟨⟨(u,d),h0,by show u<=d;omega,by show d<=hi;omega,h3,λt ht ht2=> ?_⟩,by show d-u<v-u;omega,YB rfl (Fc10 rfl rfl rfl rfl rfl rfl rfl rfl rfl rfl) rfl rfl rfl⟩;have ht:d<=t:=ht;by_cases et:t=d;subst et;rw[<-hf];exact hlt;have i1:lt (A.getD d Jd) (A.getD t Jd)=true:=by
  rw[getD_lt (by omega),getD_lt (by omega)];exact hA.lt_get K.good (by omega) (by omega)
 have i2:lt (B.getD (H-1-t) Jd) (B.getD f Jd)=true:=by
  rw[getD_lt (by omega),getD_lt (by omega)];exact hB.lt_get K.good (by omega) (by omega)
 exact K.good.trans _ _ _ i2 (K.good.trans _ _ _ hlt i1);have hv':¬cv (B.getD f Jd) (A.getD d Jd)<0:=by
  have:lt (B.getD f Jd) (A.getD d Jd)=false:=by simpa using hlt
  rw[this]at hv;simpa using hv
 have hx:=hxy.resolve_right hlt;simp only[go_sem,hv',w9];refine⟨⟨(d+1,v),by show lo<=d+1;omega,by show d+1<=v;omega,h2,λt ht1 ht=> ?_,h4⟩,by show v-(d+1)<v-u;omega,YB rfl (Fc10 rfl rfl rfl rfl rfl rfl rfl rfl rfl rfl) rfl rfl rfl⟩;have ht:t<d+1:=ht;by_cases et:t=d;subst et;rw[<-hf];exact hx;have i1:lt (A.getD t Jd) (A.getD d Jd)=true:=by
  rw[getD_lt (by omega),getD_lt (by omega)];exact hA.lt_get K.good (by omega) (by omega)
 have ht1:lo<=t:=ht1;have i2:lt (B.getD f Jd) (B.getD (H-1-t) Jd)=true:=by
  rw[getD_lt (by omega),getD_lt (by omega)];exact hB.lt_get K.good (by omega) (by omega)
 exact K.good.trans _ _ _ i1 (K.good.trans _ _ _ hx i2);have c3:¬((X.length+u:Nat):Int)<((X.length+v:Nat):Int):=by omega
 have huv:v=u:=by omega
 subst huv;have hex:=Zhs K.good hA hB hU v H lo hi h0 h2 (by omega) (by omega) (by omega) (by omega) (by omega) h3 h4;obtain⟨A1,A2,B1,B2,eA,eB,l1,l2,hsp⟩:=hex;have lA:A.length=A1.length+A2.length:=by rw[eA];simp
 have lB:B.length=B1.length+B2.length:=by rw[eB];simp
 have iA:Inc lt (A1++A2):=eA▸hA;have iB:Inc lt (B1++B2):=eB▸hB;have iU:Unl lt ((A1++A2)++(B1++B2)):=by rw[<-eA,<-eB];exact hU
 have iU1:Unl lt (A1++B1):=Ju.sublist (JD.append (Jo _ _) (Jo _ _)) iU;have iU2:Unl lt (A2++B2):=Ju.sublist (JD.append (Jm _ _) (Jm _ _)) iU;have el:X++(A++(B++Y))=X++(A1++(A2++(B1++(B2++Y)))):=by rw[eA,eB];simp
 have wE:IntKind.i64.wrap (((X.length+H+(X.length+A.length):Nat):Int)-((X.length+v:Nat):Int))=((X.length+A.length+(H-v):Nat):Int):=by rw[Ur (by omega) (by omega)];omega
 by_cases k1:((X.length+v:Nat):Int)<((X.length+A.length:Nat):Int)<;>by_cases k2:((X.length+A.length:Nat):Int)<((X.length+A.length+(H-v):Nat):Int)<;>by_cases k3:(X.length:Int)<((X.length+v:Nat):Int)<;>by_cases k4:((X.length+v:Nat):Int)<((X.length+H:Nat):Int)<;>by_cases k5:((X.length+H:Nat):Int)<((X.length+A.length+(H-v):Nat):Int)<;>by_cases k6:((X.length+A.length+(H-v):Nat):Int)<((X.length+A.length+B.length:Nat):Int)<;>first|(exfalso;omega)|(simp only[go_sem,c3,wE,k1,k2,k3,k4,k5,k6];rw[el])
 all_goals first
  |(refine Xg 1000 (Zb5 K e n (X++A1) A2 B1 (B2++Y) (by omega) (by omega) (by simp;omega) hm _ ((X++(A1++(B1++(A2++(B2++Y))))).map pv) (by simp) (by simp) _ _ _ (by simp;omega) (by simp;omega) (by simp;omega)) (by simp[Ji,Jf]) (hcl _) (hcl _) rfl rfl rfl ?_;simp only[go_sem,k1,k2,k3,k4,k5,k6])
  |rw[show X++(A1++(A2++(B1++(B2++Y))))=X++(A1++(B1++(A2++(B2++Y))))from by
    have hz:A2.length=0\/B1.length=0:=by omega
    rcases hz with hz|hz<;>rw[Jh]at hz<;>simp[hz]]
 all_goals first
  |(refine Xg 1000 (ih X A1 B1 (A2++(B2++Y)) (by omega) (Inc.left iA) (Inc.left iB) iU1 (by omega) (by omega) (by simp;omega) _ ((X++(srt lt (A1++B1)++(A2++(B2++Y)))).map pv) rfl rfl _ _ _ rfl (by omega) (by omega)) (by simp[Ji,Jf]) (hcl _) (hcl _) rfl rfl rfl ?_;simp only[go_sem,k1,k2,k3,k4,k5,k6])
  |rw[show X++(A1++(B1++(A2++(B2++Y))))=X++(srt lt (A1++B1)++(A2++(B2++Y)))from by
    have hz:A1.length=0\/B1.length=0:=by omega
    rcases hz with hz|hz<;>rw[Jh]at hz<;>simp[hz,Wd K.good (Inc.left iA),Wd K.good (Inc.left iB)]]
 all_goals first
  |(refine Xg 1000 (ih (X++srt lt (A1++B1)) A2 B2 Y (by omega) (Inc.right iA) (Inc.right iB) iU2 (by omega) (by omega) (by simp[ZI];omega) _ ((X++(srt lt (A1++B1)++(srt lt (A2++B2)++Y))).map pv) (by simp) (by simp) _ _ _ (by simp[ZI];omega) (by simp[ZI];omega) (by simp[ZI];omega)) (by simp[Ji,Jf]) (hcl _) (hcl _) rfl rfl rfl ?_;simp only[go_sem,k1,k2,k3,k4,k5,k6])
  |rw[show X++(srt lt (A1++B1)++(A2++(B2++Y)))=X++(srt lt (A1++B1)++(srt lt (A2++B2)++Y))from by
    have hz:A2.length=0\/B2.length=0:=by omega
    rcases hz with hz|hz<;>rw[Jh]at hz<;>simp[hz,Wd K.good (Inc.right iA),Wd K.good (Inc.right iB)]]
 all_goals
  refine U2 (r0:= .tup []) (hcl _) rfl (.clean rfl) rfl ?_ rfl;show Hs _=Hs _;rw[hsp];simp
end
open Go.Shelf
open Go.Shelf
def Zgh:Go.Shelf.Ren:=⟨λ|6=>137|15=>165|14=>183|28=>217|29=>218|20=>228|21=>229|22=>230|23=>231|24=>232|25=>233|26=>234|27=>235|46=>256|47=>251|48=>252|49=>257|50=>258|57=>275|n=>n,λ|22=>46|24=>25|25=>200|3=>3|39=>226|0=>0|53=>271|55=>273|4=>4|46=>263|45=>262|50=>268|5=>5|9=>9|66=>293|70=>297|76=>317|77=>318|n=>n,λ|n=>n⟩
theorem Zla:Go.Proofs.SlLaysF0.n6 prog Zgh where
 mixed:=by kernel_rfl
 f6:=⟨"slices.SortFunc[[]punnet/api.Tag,punnet/api.Tag]",by decide,func137.trans (congrArg Hs (by kernel_rfl))⟩
 f14:=⟨"slices.pdqsortCmpFunc[punnet/api.Tag]",by decide,func183.trans (congrArg Hs (by kernel_rfl))⟩
 f15:=func165.trans (congrArg Hs (by kernel_rfl))
 f20:=⟨"slices.insertionSortCmpFunc[punnet/api.Tag]",by decide,func228.trans (congrArg Hs (by kernel_rfl))⟩
 f21:=⟨"slices.heapSortCmpFunc[punnet/api.Tag]",by decide,func229.trans (congrArg Hs (by kernel_rfl))⟩
 f22:=⟨"slices.breakPatternsCmpFunc[punnet/api.Tag]",by decide,func230.trans (congrArg Hs (by kernel_rfl))⟩
 f23:=⟨"slices.choosePivotCmpFunc[punnet/api.Tag]",by decide,func231.trans (congrArg Hs (by kernel_rfl))⟩
 f24:=⟨"slices.reverseRangeCmpFunc[punnet/api.Tag]",by decide,func232.trans (congrArg Hs (by kernel_rfl))⟩
 f25:=⟨"slices.partialInsertionSortCmpFunc[punnet/api.Tag]",by decide,func233.trans (congrArg Hs (by kernel_rfl))⟩
 f26:=⟨"slices.partitionEqualCmpFunc[punnet/api.Tag]",by decide,func234.trans (congrArg Hs (by kernel_rfl))⟩
 f27:=⟨"slices.partitionCmpFunc[punnet/api.Tag]",by decide,func235.trans (congrArg Hs (by kernel_rfl))⟩
 f28:=func217.trans (congrArg Hs (by kernel_rfl))
 f29:=func218.trans (congrArg Hs (by kernel_rfl))
 f46:=⟨"slices.siftDownCmpFunc[punnet/api.Tag]",by decide,func256.trans (congrArg Hs (by kernel_rfl))⟩
 f47:=func251.trans (congrArg Hs (by kernel_rfl))
 f48:=func252.trans (congrArg Hs (by kernel_rfl))
 f49:=⟨"slices.medianAdjacentCmpFunc[punnet/api.Tag]",by decide,func257.trans (congrArg Hs (by kernel_rfl))⟩
 f50:=⟨"slices.medianCmpFunc[punnet/api.Tag]",by decide,func258.trans (congrArg Hs (by kernel_rfl))⟩
 f57:=⟨"slices.order2CmpFunc[punnet/api.Tag]",by decide,func275.trans (congrArg Hs (by kernel_rfl))⟩
 t0:=underlying0
 a0:=isAgg0
 z0:=sizeOf0
 v0:=zeroValue0
 t3:=underlying3
 a3:=isAgg3
 z3:=sizeOf3
 v3:=zeroValue3
 t4:=underlying4
 a4:=isAgg4
 z4:=sizeOf4
 v4:=zeroValue4
 t5:=underlying5
 a5:=isAgg5
 z5:=sizeOf5
 v5:=zeroValue5
 t9:=underlying9
 a9:=isAgg9
 z9:=sizeOf9
 v9:=zeroValue9
 t22:=underlying46
 a22:=isAgg46
 z22:=sizeOf46
 v22:=zeroValue46
 t25:=underlying200
 a25:=isAgg200
 z25:=sizeOf200
 v25:=zeroValue200
 t39:=underlying226
 a39:=isAgg226
 z39:=sizeOf226
 v39:=zeroValue226
 t45:=underlying262
 a45:=isAgg262
 z45:=sizeOf262
 v45:=zeroValue262
 t46:=underlying263
 a46:=isAgg263
 z46:=sizeOf263
 v46:=zeroValue263
 t50:=underlying268
 a50:=isAgg268
 z50:=sizeOf268
 v50:=zeroValue268
 t53:=underlying271
 a53:=isAgg271
 z53:=sizeOf271
 v53:=zeroValue271
 t55:=underlying273
 a55:=isAgg273
 z55:=sizeOf273
 v55:=zeroValue273
 t66:=underlying293
 a66:=isAgg293
 z66:=sizeOf293
 v66:=zeroValue293
 t70:=underlying297
 a70:=isAgg297
 z70:=sizeOf297
 v70:=zeroValue297
 t76:=underlying317
 a76:=isAgg317
 z76:=sizeOf317
 v76:=zeroValue317
 t77:=underlying318
 a77:=isAgg318
 z77:=sizeOf318
 v77:=zeroValue318
end Go.Proofs.YtepchngegclagaaGreat
