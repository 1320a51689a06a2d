/- Lemmas of the proof. -/
import Derived.Test.YtepchngegclagaaGreatPlH
import Derived.Test.YtepchngegclagaaGreatProg
import Derived.KernelRfl
import Derived.Shelf.Slices.CompactS
import Derived.Shelf.Sort.Plain
import Derived.Shelf.Slices.In.SortNone
open Inhabited renaming default→Jd
open Option renaming some→Hs
open Bool renaming true→Ht,false→Hf
open Go.Proofs.Tryz
open Go Go.PL
open Bool renaming false_and→Jf,true_and→Jk,and_eq_false_iff→JI,or_eq_false_iff→JK,and_eq_true→JQ,eq_iff_iff→JT,or_eq_true→JU,not_false→JW,not_true→JX
open Int renaming natCast_nonneg→Je,toNat_natCast→JO
open List renaming take_append_drop→Ja,getD_eq_getElem?_getD→Jb,append_assoc→Jc,length_take→Jh,length_eq_zero_iff→Ji,getElem_of_mem→Jl,getElem_mem→Jm,sublist_append_right→Jn,take_succ_eq_append_getElem→Jo,sublist_append_left→Jp,length_drop→Jq,take→Jr,findIdx?_eq_some_iff_getElem→Jt,Pairwise→Ju,append_nil→Jw,length_set→Jy,mem_map→Jz,drop_eq_getElem_cons→JA,all_eq_false→JB,map_cons→JC,getElem?_eq_getElem→JD,all_eq_true→JE,perm_middle→JF,length_eq_one_iff→JG,Sublist→JH,perm_append_comm→JJ,mem_range→JL,range→JN,drop_length→JR,take_length→JS
open Nat renaming le_refl→Js,zero_le→JM,not_lt_zero→JV,lt_or_ge→JY,sub_zero→JZ
open PV renaming idsL→Jg,ids→Jj,didsL→Jv,dids→JP,givableL→J2,str→J3
open Srt renaming Good→J4
namespace Go.Proofs.YtepchngegclagaaGreat
set_option maxHeartbeats 64000000
set_option maxRecDepth 20000
set_option linter.unusedVariables false
set_option linter.unusedSectionVars false
set_option linter.unusedSimpArgs false
open Go.PL
@[go_sem] theorem Zu2:tkn prog 2=true:=by kernel_rfl
@[go_sem] theorem Zu6:tsz prog 2=1:=by kernel_rfl
@[go_sem] theorem ZtS:ZZ prog 2=false:=by kernel_rfl
@[go_sem] theorem Zu3:tkn prog 3=true:=by kernel_rfl
@[go_sem] theorem Zu7:tsz prog 3=1:=by kernel_rfl
@[go_sem] theorem ZtT:ZZ prog 3=false:=by kernel_rfl
@[go_sem] theorem Zu4:tkn prog 4=true:=by kernel_rfl
@[go_sem] theorem Zu8:tsz prog 4=1:=by kernel_rfl
@[go_sem] theorem ZtU:ZZ prog 4=false:=by kernel_rfl
@[go_sem] theorem Zt6:ZbZ prog 4= .bool:=by kernel_rfl
@[go_sem] theorem Zu5:tkn prog 9=true:=by kernel_rfl
@[go_sem] theorem Zu9:tsz prog 9=1:=by kernel_rfl
@[go_sem] theorem ZtV:ZZ prog 9=false:=by kernel_rfl
@[go_sem] theorem Zu1:tix prog 9= .str:=by kernel_rfl
@[go_sem] theorem Zuw:Zbd prog 9= .str:=by kernel_rfl
@[go_sem] theorem Zt7:tix prog 22= .slc 20 true:=by kernel_rfl
@[go_sem] theorem Ztf:Zbd prog 22= .slc:=by kernel_rfl
@[go_sem] theorem ZrL:XO prog 22=Hs ⟨82,20,264⟩:=by kernel_rfl
@[go_sem] theorem Zug:tkn prog 23=true:=by kernel_rfl
@[go_sem] theorem Zux:tsz prog 23=1:=by kernel_rfl
@[go_sem] theorem Zsr:ZZ prog 23=false:=by kernel_rfl
@[go_sem] theorem Zt8:tix prog 23= .slc 15 true:=by kernel_rfl
@[go_sem] theorem Ztg:Zbd prog 23= .slc:=by kernel_rfl
@[go_sem] theorem ZsP:ZbZ prog 23= .slc:=by kernel_rfl
@[go_sem] theorem ZrM:XO prog 23=Hs ⟨48,15,176⟩:=by kernel_rfl
@[go_sem] theorem Zuh:tkn prog 25=true:=by kernel_rfl
@[go_sem] theorem Zuy:tsz prog 25=2:=by kernel_rfl
@[go_sem] theorem Zoy:ZZ prog 25=true:=by kernel_rfl
@[go_sem] theorem Zr2:XP prog 25=Hs [.int .i64 0,.int .i64 0]:=by kernel_rfl
@[go_sem] theorem Zqt:X2 prog 25 0=Hs (0,1,Hf):=by kernel_rfl
@[go_sem] theorem Zqu:X2 prog 25 1=Hs (1,1,Hf):=by kernel_rfl
@[go_sem] theorem ZtW:tbd prog 25= .str [(0,1),(1,1)] [.int .i64 0,.int .i64 0]:=by kernel_rfl
@[go_sem] theorem ZpL:Fx prog 25=Hs [.int,.int]:=by kernel_rfl
@[go_sem] theorem Zui:tkn prog 27=true:=by kernel_rfl
@[go_sem] theorem Zuz:tsz prog 27=3:=by kernel_rfl
@[go_sem] theorem Zss:ZZ prog 27=true:=by kernel_rfl
@[go_sem] theorem Zr3:XP prog 27=Hs [.int .i64 0,.str [],.str []]:=by kernel_rfl
@[go_sem] theorem Zqv:X2 prog 27 0=Hs (0,1,Hf):=by kernel_rfl
@[go_sem] theorem Zqw:X2 prog 27 1=Hs (1,1,Hf):=by kernel_rfl
@[go_sem] theorem Zqx:X2 prog 27 2=Hs (2,1,Hf):=by kernel_rfl
@[go_sem] theorem ZtX:tbd prog 27= .str [(0,1),(1,1),(2,1)] [.int .i64 0,.str [],.str []]:=by kernel_rfl
@[go_sem] theorem ZpM:Fx prog 27=Hs [.int,.str,.str]:=by kernel_rfl
@[go_sem] theorem Zuj:tkn prog 28=true:=by kernel_rfl
@[go_sem] theorem ZuA:tsz prog 28=1:=by kernel_rfl
@[go_sem] theorem Zst:ZZ prog 28=false:=by kernel_rfl
@[go_sem] theorem Zt9:tix prog 28= .slc 1 false:=by kernel_rfl
@[go_sem] theorem Zth:Zbd prog 28= .slc:=by kernel_rfl
@[go_sem] theorem ZsQ:ZbZ prog 28= .slc:=by kernel_rfl
@[go_sem] theorem ZrN:XO prog 28=Hs ⟨9,1,16⟩:=by kernel_rfl
@[go_sem] theorem Zuk:tkn prog 30=true:=by kernel_rfl
@[go_sem] theorem ZuB:tsz prog 30=7:=by kernel_rfl
@[go_sem] theorem Zsu:ZZ prog 30=true:=by kernel_rfl
@[go_sem] theorem Zr4:XP prog 30=Hs [.int .i64 0,.str [],.str [],.int .i64 0,.str [],.sl .nil [],.int .i64 0]:=by kernel_rfl
@[go_sem] theorem Zqy:X2 prog 30 0=Hs (0,3,Ht):=by kernel_rfl
@[go_sem] theorem Zqz:X2 prog 30 1=Hs (3,1,Hf):=by kernel_rfl
@[go_sem] theorem ZqA:X2 prog 30 2=Hs (4,1,Hf):=by kernel_rfl
@[go_sem] theorem ZqB:X2 prog 30 3=Hs (5,1,Hf):=by kernel_rfl
@[go_sem] theorem ZqC:X2 prog 30 4=Hs (6,1,Hf):=by kernel_rfl
@[go_sem] theorem ZtY:tbd prog 30= .str [(0,3),(3,1),(4,1),(5,1),(6,1)] [.int .i64 0,.str [],.str [],.int .i64 0,.str [],.sl .nil [],.int .i64 0]:=by kernel_rfl
@[go_sem] theorem Zul:tkn prog 31=true:=by kernel_rfl
@[go_sem] theorem ZuC:tsz prog 31=1:=by kernel_rfl
@[go_sem] theorem Zsv:ZZ prog 31=false:=by kernel_rfl
@[go_sem] theorem Zua:tix prog 31= .slc 2 true:=by kernel_rfl
@[go_sem] theorem Zti:Zbd prog 31= .slc:=by kernel_rfl
@[go_sem] theorem ZrO:XO prog 31=Hs ⟨194,2,32⟩:=by kernel_rfl
@[go_sem] theorem Zum:tkn prog 33=true:=by kernel_rfl
@[go_sem] theorem ZuD:tsz prog 33=16:=by kernel_rfl
@[go_sem] theorem Zsw:ZZ prog 33=true:=by kernel_rfl
@[go_sem] theorem Zr5:XP prog 33=Hs [.int .i64 0,.int .i64 0,.str [],.str [],.str [],.str [],.int .i64 0,.int .i64 0,.str [],.str [],.int .i64 0,.str [],.sl .nil [],.int .i64 0,.sl .nil [],.sl .nil []]:=by kernel_rfl
@[go_sem] theorem ZqD:X2 prog 33 0=Hs (0,1,Hf):=by kernel_rfl
@[go_sem] theorem ZqE:X2 prog 33 1=Hs (1,3,Ht):=by kernel_rfl
@[go_sem] theorem ZqF:X2 prog 33 2=Hs (4,1,Hf):=by kernel_rfl
@[go_sem] theorem ZqG:X2 prog 33 3=Hs (5,1,Hf):=by kernel_rfl
@[go_sem] theorem ZqH:X2 prog 33 4=Hs (6,1,Hf):=by kernel_rfl
@[go_sem] theorem ZqI:X2 prog 33 5=Hs (7,7,Ht):=by kernel_rfl
@[go_sem] theorem ZqJ:X2 prog 33 6=Hs (14,1,Hf):=by kernel_rfl
@[go_sem] theorem ZqK:X2 prog 33 7=Hs (15,1,Hf):=by kernel_rfl
@[go_sem] theorem ZtZ:tbd prog 33= .str [(0,1),(1,3),(4,1),(5,1),(6,1),(7,7),(14,1),(15,1)] [.int .i64 0,.int .i64 0,.str [],.str [],.str [],.str [],.int .i64 0,.int .i64 0,.str [],.str [],.int .i64 0,.str [],.sl .nil [],.int .i64 0,.sl .nil [],.sl .nil []]:=by kernel_rfl
@[go_sem] theorem ZsR:ZbZ prog 40= .ptr:=by kernel_rfl
@[go_sem] theorem ZsS:ZbZ prog 43= .ptr:=by kernel_rfl
@[go_sem] theorem Zun:tkn prog 46=true:=by kernel_rfl
@[go_sem] theorem ZuE:tsz prog 46=1:=by kernel_rfl
@[go_sem] theorem Zsx:ZZ prog 46=false:=by kernel_rfl
@[go_sem] theorem Zub:tix prog 46= .slc 2 true:=by kernel_rfl
@[go_sem] theorem Ztj:Zbd prog 46= .slc:=by kernel_rfl
@[go_sem] theorem ZrP:XO prog 46=Hs ⟨25,2,16⟩:=by kernel_rfl
@[go_sem] theorem Zuo:tkn prog 48=true:=by kernel_rfl
@[go_sem] theorem ZuF:tsz prog 48=15:=by kernel_rfl
@[go_sem] theorem Zoz:ZZ prog 48=true:=by kernel_rfl
@[go_sem] theorem Zr6:XP prog 48=Hs [.int .i64 0,.int .i64 0,.int .i64 0,.int .i64 0,.int .i64 0,.str [],.int .i64 0,.str [],.int .i64 0,.str [],.str [],.int .i64 0,.bool Hf,.str [],.sl .nil []]:=by kernel_rfl
@[go_sem] theorem ZqL:X2 prog 48 0=Hs (0,2,Ht):=by kernel_rfl
@[go_sem] theorem ZqM:X2 prog 48 1=Hs (2,2,Ht):=by kernel_rfl
@[go_sem] theorem ZqN:X2 prog 48 2=Hs (4,1,Hf):=by kernel_rfl
@[go_sem] theorem ZqO:X2 prog 48 3=Hs (5,1,Hf):=by kernel_rfl
@[go_sem] theorem ZqP:X2 prog 48 4=Hs (6,1,Hf):=by kernel_rfl
@[go_sem] theorem ZqQ:X2 prog 48 5=Hs (7,1,Hf):=by kernel_rfl
@[go_sem] theorem ZqR:X2 prog 48 6=Hs (8,3,Ht):=by kernel_rfl
@[go_sem] theorem ZqS:X2 prog 48 7=Hs (11,1,Hf):=by kernel_rfl
@[go_sem] theorem ZqT:X2 prog 48 8=Hs (12,1,Hf):=by kernel_rfl
@[go_sem] theorem ZqU:X2 prog 48 9=Hs (13,1,Hf):=by kernel_rfl
@[go_sem] theorem ZpK:X2 prog 48 10=Hs (14,1,Hf):=by kernel_rfl
@[go_sem] theorem Zt0:tbd prog 48= .str [(0,2),(2,2),(4,1),(5,1),(6,1),(7,1),(8,3),(11,1),(12,1),(13,1),(14,1)] [.int .i64 0,.int .i64 0,.int .i64 0,.int .i64 0,.int .i64 0,.str [],.int .i64 0,.str [],.int .i64 0,.str [],.str [],.int .i64 0,.bool Hf,.str [],.sl .nil []]:=by kernel_rfl
@[go_sem] theorem Zup:tkn prog 49=true:=by kernel_rfl
@[go_sem] theorem ZuG:tsz prog 49=1:=by kernel_rfl
@[go_sem] theorem Zsy:ZZ prog 49=false:=by kernel_rfl
@[go_sem] theorem Zr7:XP prog 49=Hs [.int .i64 0]:=by kernel_rfl
@[go_sem] theorem Zuq:tkn prog 55=true:=by kernel_rfl
@[go_sem] theorem ZuH:tsz prog 55=1:=by kernel_rfl
@[go_sem] theorem Zsz:ZZ prog 55=false:=by kernel_rfl
@[go_sem] theorem Zr8:XP prog 55=Hs [.sl .nil []]:=by kernel_rfl
@[go_sem] theorem Zuc:tix prog 55= .slc 7 true:=by kernel_rfl
@[go_sem] theorem Ztk:Zbd prog 55= .slc:=by kernel_rfl
@[go_sem] theorem ZrQ:XO prog 55=Hs ⟨30,7,96⟩:=by kernel_rfl
@[go_sem] theorem Zur:tkn prog 62=true:=by kernel_rfl
@[go_sem] theorem ZuI:tsz prog 62=6:=by kernel_rfl
@[go_sem] theorem ZsA:ZZ prog 62=true:=by kernel_rfl
@[go_sem] theorem Zr9:XP prog 62=Hs [.int .i64 0,.int .i64 0,.int .i64 0,.int .i64 0,.int .i64 0,.int .i64 0]:=by kernel_rfl
@[go_sem] theorem Zud:tix prog 62= .arr 6 1 false:=by kernel_rfl
@[go_sem] theorem Zt1:tbd prog 62= .arr 1 [.int .i64 0,.int .i64 0,.int .i64 0,.int .i64 0,.int .i64 0,.int .i64 0]:=by kernel_rfl
@[go_sem] theorem Zus:tkn prog 64=true:=by kernel_rfl
@[go_sem] theorem ZuJ:tsz prog 64=1:=by kernel_rfl
@[go_sem] theorem ZsB:ZZ prog 64=false:=by kernel_rfl
@[go_sem] theorem Zue:tix prog 64= .slc 5 true:=by kernel_rfl
@[go_sem] theorem Ztl:Zbd prog 64= .slc:=by kernel_rfl
@[go_sem] theorem ZsT:ZbZ prog 64= .slc:=by kernel_rfl
@[go_sem] theorem ZrR:XO prog 64=Hs ⟨125,5,72⟩:=by kernel_rfl
@[go_sem] theorem Zut:tkn prog 65=true:=by kernel_rfl
@[go_sem] theorem ZuK:tsz prog 65=1:=by kernel_rfl
@[go_sem] theorem ZsC:ZZ prog 65=false:=by kernel_rfl
@[go_sem] theorem Zuf:tix prog 65= .slc 2 true:=by kernel_rfl
@[go_sem] theorem Ztm:Zbd prog 65= .slc:=by kernel_rfl
@[go_sem] theorem ZrS:XO prog 65=Hs ⟨142,2,40⟩:=by kernel_rfl
@[go_sem] theorem Zuu:tkn prog 67=true:=by kernel_rfl
@[go_sem] theorem ZuL:tsz prog 67=2:=by kernel_rfl
@[go_sem] theorem ZsD:ZZ prog 67=true:=by kernel_rfl
@[go_sem] theorem Zsa:XP prog 67=Hs [.sl .nil [],.sl .nil []]:=by kernel_rfl
@[go_sem] theorem ZqV:X2 prog 67 0=Hs (0,1,Hf):=by kernel_rfl
@[go_sem] theorem ZqW:X2 prog 67 1=Hs (1,1,Hf):=by kernel_rfl
@[go_sem] theorem Zt2:tbd prog 67= .str [(0,1),(1,1)] [.sl .nil [],.sl .nil []]:=by kernel_rfl
@[go_sem] theorem Zuv:tkn prog 82=true:=by kernel_rfl
@[go_sem] theorem ZuM:tsz prog 82=20:=by kernel_rfl
@[go_sem] theorem ZoA:ZZ prog 82=true:=by kernel_rfl
@[go_sem] theorem Zsb:XP prog 82=Hs [.int .i64 0,.int .i64 0,.int .i64 0,.int .i64 0,.int .i64 0,.int .i64 0,.str [],.str [],.str [],.str [],.int .i64 0,.int .i64 0,.str [],.str [],.int .i64 0,.str [],.sl .nil [],.int .i64 0,.sl .nil [],.sl .nil []]:=by kernel_rfl
@[go_sem] theorem ZqX:X2 prog 82 0=Hs (0,2,Ht):=by kernel_rfl
@[go_sem] theorem ZqY:X2 prog 82 1=Hs (2,2,Ht):=by kernel_rfl
@[go_sem] theorem ZqZ:X2 prog 82 2=Hs (4,16,Ht):=by kernel_rfl
@[go_sem] theorem Zt3:tbd prog 82= .str [(0,2),(2,2),(4,16)] [.int .i64 0,.int .i64 0,.int .i64 0,.int .i64 0,.int .i64 0,.int .i64 0,.str [],.str [],.str [],.str [],.int .i64 0,.int .i64 0,.str [],.str [],.int .i64 0,.str [],.sl .nil [],.int .i64 0,.sl .nil [],.sl .nil []]:=by kernel_rfl
@[go_sem] theorem Zs1:tkn prog 110=true:=by kernel_rfl
@[go_sem] theorem Ztn:tsz prog 110=23:=by kernel_rfl
@[go_sem] theorem ZrA:ZZ prog 110=true:=by kernel_rfl
@[go_sem] theorem Zq3:XP prog 110=Hs [.int .i64 0,.int .i64 0,.int .i64 0,.int .i64 0,.int .i64 0,.int .i64 0,.str [],.str [],.str [],.str [],.int .i64 0,.int .i64 0,.str [],.str [],.int .i64 0,.str [],.sl .nil [],.int .i64 0,.sl .nil [],.sl .nil [],.int .i64 0,.sl .nil [],.int .i64 0]:=by kernel_rfl
@[go_sem] theorem Zpq:X2 prog 110 0=Hs (0,20,Ht):=by kernel_rfl
@[go_sem] theorem Zpr:X2 prog 110 1=Hs (20,1,Hf):=by kernel_rfl
@[go_sem] theorem Zps:X2 prog 110 2=Hs (21,1,Hf):=by kernel_rfl
@[go_sem] theorem Zpt:X2 prog 110 3=Hs (22,1,Hf):=by kernel_rfl
@[go_sem] theorem ZsE:tbd prog 110= .str [(0,20),(20,1),(21,1),(22,1)] [.int .i64 0,.int .i64 0,.int .i64 0,.int .i64 0,.int .i64 0,.int .i64 0,.str [],.str [],.str [],.str [],.int .i64 0,.int .i64 0,.str [],.str [],.int .i64 0,.str [],.sl .nil [],.int .i64 0,.sl .nil [],.sl .nil [],.int .i64 0,.sl .nil [],.int .i64 0]:=by kernel_rfl
@[go_sem] theorem Zs2:tkn prog 116=true:=by kernel_rfl
@[go_sem] theorem Zto:tsz prog 116=6:=by kernel_rfl
@[go_sem] theorem ZrB:ZZ prog 116=true:=by kernel_rfl
@[go_sem] theorem ZsU:tix prog 116= .arr 6 1 false:=by kernel_rfl
@[go_sem] theorem Zpu:X2 prog 118 0=Hs (0,6,Ht):=by kernel_rfl
@[go_sem] theorem ZsF:tbd prog 118= .str [(0,6)] [.sl .nil [],.sl .nil [],.sl .nil [],.sl .nil [],.sl .nil [],.sl .nil []]:=by kernel_rfl
@[go_sem] theorem ZsV:tix prog 120= .slc 3 true:=by kernel_rfl
@[go_sem] theorem ZrU:Zbd prog 120= .slc:=by kernel_rfl
@[go_sem] theorem Zqo:XO prog 120=Hs ⟨130,3,40⟩:=by kernel_rfl
@[go_sem] theorem Zs3:tkn prog 125=true:=by kernel_rfl
@[go_sem] theorem Ztp:tsz prog 125=5:=by kernel_rfl
@[go_sem] theorem ZrC:ZZ prog 125=true:=by kernel_rfl
@[go_sem] theorem Zq4:XP prog 125=Hs [.int .i64 0,.str [],.str [],.int .i64 0,.sl .nil []]:=by kernel_rfl
@[go_sem] theorem Zpv:X2 prog 125 0=Hs (0,3,Ht):=by kernel_rfl
@[go_sem] theorem Zpw:X2 prog 125 1=Hs (3,1,Hf):=by kernel_rfl
@[go_sem] theorem Zpx:X2 prog 125 2=Hs (4,1,Hf):=by kernel_rfl
@[go_sem] theorem ZsG:tbd prog 125= .str [(0,3),(3,1),(4,1)] [.int .i64 0,.str [],.str [],.int .i64 0,.sl .nil []]:=by kernel_rfl
@[go_sem] theorem Zs4:tkn prog 127=true:=by kernel_rfl
@[go_sem] theorem Ztq:tsz prog 127=13:=by kernel_rfl
@[go_sem] theorem ZrD:ZZ prog 127=true:=by kernel_rfl
@[go_sem] theorem Zq5:XP prog 127=Hs [.int .i64 0,.str [],.int .i64 0,.str [],.str [],.int .i64 0,.sl .nil [],.int .i64 0,.str [],.str [],.int .i64 0,.sl .nil [],.sl .nil []]:=by kernel_rfl
@[go_sem] theorem Zpy:X2 prog 127 0=Hs (0,1,Hf):=by kernel_rfl
@[go_sem] theorem Zpz:X2 prog 127 1=Hs (1,1,Hf):=by kernel_rfl
@[go_sem] theorem ZpA:X2 prog 127 3=Hs (7,5,Ht):=by kernel_rfl
@[go_sem] theorem ZsH:tbd prog 127= .str [(0,1),(1,1),(2,5),(7,5),(12,1)] [.int .i64 0,.str [],.int .i64 0,.str [],.str [],.int .i64 0,.sl .nil [],.int .i64 0,.str [],.str [],.int .i64 0,.sl .nil [],.sl .nil []]:=by kernel_rfl
@[go_sem] theorem Zs5:tkn prog 128=true:=by kernel_rfl
@[go_sem] theorem Ztr:tsz prog 128=1:=by kernel_rfl
@[go_sem] theorem ZrE:ZZ prog 128=false:=by kernel_rfl
@[go_sem] theorem ZsW:tix prog 128= .slc 13 true:=by kernel_rfl
@[go_sem] theorem ZrV:Zbd prog 128= .slc:=by kernel_rfl
@[go_sem] theorem Zqp:XO prog 128=Hs ⟨127,13,192⟩:=by kernel_rfl
@[go_sem] theorem Zs6:tkn prog 130=true:=by kernel_rfl
@[go_sem] theorem Zts:tsz prog 130=3:=by kernel_rfl
@[go_sem] theorem Zq6:XP prog 130=Hs [.int .i64 0,.int .i64 0,.sl .nil []]:=by kernel_rfl
@[go_sem] theorem ZpB:X2 prog 130 0=Hs (0,2,Ht):=by kernel_rfl
@[go_sem] theorem ZpC:X2 prog 130 1=Hs (2,1,Hf):=by kernel_rfl
@[go_sem] theorem ZsI:tbd prog 130= .str [(0,2),(2,1)] [.int .i64 0,.int .i64 0,.sl .nil []]:=by kernel_rfl
@[go_sem] theorem Zs7:tkn prog 133=true:=by kernel_rfl
@[go_sem] theorem Ztt:tsz prog 133=1:=by kernel_rfl
@[go_sem] theorem ZrF:ZZ prog 133=false:=by kernel_rfl
@[go_sem] theorem Zq7:XP prog 133=Hs [.nilmap]:=by kernel_rfl
@[go_sem] theorem ZrZ:Zm2 prog 133=Hs ([.str,.int,.str,.str],.sl .nil []):=by kernel_rfl
@[go_sem] theorem Zs8:tkn prog 136=true:=by kernel_rfl
@[go_sem] theorem Ztu:tsz prog 136=4:=by kernel_rfl
@[go_sem] theorem ZrG:ZZ prog 136=true:=by kernel_rfl
@[go_sem] theorem Zq8:XP prog 136=Hs [.str [],.int .i64 0,.str [],.str []]:=by kernel_rfl
@[go_sem] theorem ZsJ:tbd prog 136= .str [(0,1),(1,3)] [.str [],.int .i64 0,.str [],.str []]:=by kernel_rfl
@[go_sem] theorem Zs9:tkn prog 142=true:=by kernel_rfl
@[go_sem] theorem Ztv:tsz prog 142=2:=by kernel_rfl
@[go_sem] theorem ZrH:ZZ prog 142=true:=by kernel_rfl
@[go_sem] theorem Zq9:XP prog 142=Hs [.str [],.sl .nil []]:=by kernel_rfl
@[go_sem] theorem ZpD:X2 prog 142 0=Hs (0,1,Hf):=by kernel_rfl
@[go_sem] theorem ZpE:X2 prog 142 1=Hs (1,1,Hf):=by kernel_rfl
@[go_sem] theorem ZsK:tbd prog 142= .str [(0,1),(1,1)] [.str [],.sl .nil []]:=by kernel_rfl
@[go_sem] theorem Zr0:Zm2 prog 146=Hs ([.int,.int],.agg []):=by kernel_rfl
@[go_sem] theorem Zta:tkn prog 147=true:=by kernel_rfl
@[go_sem] theorem Ztw:tsz prog 147=0:=by kernel_rfl
@[go_sem] theorem Zra:XP prog 147=Hs []:=by kernel_rfl
@[go_sem] theorem ZsL:tbd prog 147= .str [] []:=by kernel_rfl
@[go_sem] theorem Ztb:tkn prog 149=true:=by kernel_rfl
@[go_sem] theorem Ztx:tsz prog 149=1:=by kernel_rfl
@[go_sem] theorem ZrI:ZZ prog 149=false:=by kernel_rfl
@[go_sem] theorem ZrT:ZbZ prog 149= .map:=by kernel_rfl
@[go_sem] theorem Zq0:Zfx prog 149=true:=by kernel_rfl
@[go_sem] theorem Zr1:Zm2 prog 149=Hs ([.int,.int],.agg [.int .i64 0,.int .i64 0,.int .i64 0,.int .i64 0,.int .i64 0,.int .i64 0,.str [],.str [],.str [],.str [],.int .i64 0,.int .i64 0,.str [],.str [],.int .i64 0,.str [],.sl .nil [],.int .i64 0,.sl .nil [],.sl .nil [],.int .i64 0,.sl .nil [],.int .i64 0]):=by kernel_rfl
@[go_sem] theorem ZpF:X2 prog 151 0=Hs (0,1,Hf):=by kernel_rfl
@[go_sem] theorem ZsM:tbd prog 151= .str [(0,1)] [.nilmap]:=by kernel_rfl
@[go_sem] theorem Ztc:tkn prog 194=true:=by kernel_rfl
@[go_sem] theorem Zty:tsz prog 194=2:=by kernel_rfl
@[go_sem] theorem ZmX:ZZ prog 194=true:=by kernel_rfl
@[go_sem] theorem Zrb:XP prog 194=Hs [.str [],.str []]:=by kernel_rfl
@[go_sem] theorem ZpG:X2 prog 194 0=Hs (0,1,Hf):=by kernel_rfl
@[go_sem] theorem ZpH:X2 prog 194 1=Hs (1,1,Hf):=by kernel_rfl
@[go_sem] theorem ZoB:Fx prog 194=Hs [.str,.str]:=by kernel_rfl
@[go_sem] theorem ZsX:tix prog 237= .slc 3 true:=by kernel_rfl
@[go_sem] theorem ZrW:Zbd prog 237= .slc:=by kernel_rfl
@[go_sem] theorem Zqq:XO prog 237=Hs ⟨27,3,40⟩:=by kernel_rfl
@[go_sem] theorem ZsY:tix prog 246= .slc 16 true:=by kernel_rfl
@[go_sem] theorem ZrX:Zbd prog 246= .slc:=by kernel_rfl
@[go_sem] theorem Zqr:XO prog 246=Hs ⟨33,16,232⟩:=by kernel_rfl
@[go_sem] theorem ZsZ:tix prog 281= .slc 3 true:=by kernel_rfl
@[go_sem] theorem ZrY:Zbd prog 281= .slc:=by kernel_rfl
@[go_sem] theorem Zqs:XO prog 281=Hs ⟨287,3,24⟩:=by kernel_rfl
@[go_sem] theorem Ztd:tkn prog 287=true:=by kernel_rfl
@[go_sem] theorem Ztz:tsz prog 287=3:=by kernel_rfl
@[go_sem] theorem ZrJ:ZZ prog 287=true:=by kernel_rfl
@[go_sem] theorem Zrc:XP prog 287=Hs [.int .i64 0,.int .i64 0,.bool Hf]:=by kernel_rfl
@[go_sem] theorem ZpI:X2 prog 287 0=Hs (0,2,Ht):=by kernel_rfl
@[go_sem] theorem ZpJ:X2 prog 287 1=Hs (2,1,Hf):=by kernel_rfl
@[go_sem] theorem ZsN:tbd prog 287= .str [(0,2),(2,1)] [.int .i64 0,.int .i64 0,.bool Hf]:=by kernel_rfl
@[go_sem] theorem Zte:tkn prog 314=true:=by kernel_rfl
@[go_sem] theorem ZtA:tsz prog 314=2:=by kernel_rfl
@[go_sem] theorem ZrK:ZZ prog 314=true:=by kernel_rfl
@[go_sem] theorem Zrd:XP prog 314=Hs [.flt .f64 0,.flt .f64 0]:=by kernel_rfl
@[go_sem] theorem Zs0:tix prog 314= .arr 2 1 false:=by kernel_rfl
@[go_sem] theorem ZsO:tbd prog 314= .arr 1 [.flt .f64 0,.flt .f64 0]:=by kernel_rfl
@[go_sem] theorem Zqn:tcv prog 3 226= .int .u64:=by kernel_rfl
@[go_sem] theorem Zqm:tcv prog 226 3= .int .i64:=by kernel_rfl
open Go.PL
attribute [go_sem] reduceIte Nat.reduceEqDiff reduceCtorEq Nat.reduceLT Nat.reduceAdd Nat.reduceSub Nat.reduceMul Nat.reduceLeDiff Int.reduceLT Int.reduceLE Int.reduceToNat Int.reduceEq Int.reduceAdd Int.reduceSub Int.reduceNeg Int.reduceBNe Int.reduceBEq
attribute [go_sem] true_or or_true List.getElem?_cons_zero List.getElem?_cons_succ List.getElem?_nil decide_true decide_false JX JW imp_self false_implies true_implies List.all_cons List.all_nil Bool.and_true Bool.false_eq_true Nat.zero_add Nat.add_zero Option.some.injEq true_and and_true List.getD_cons_zero List.getD_cons_succ List.length_cons List.length_nil ne_eq not_false_eq_true implies_true and_self Jr List.drop JC List.map_nil List.reverse_cons List.reverse_nil List.nil_append PV.bool.injEq List.length_map JO Nat.mul_one beq_self_eq_true bne_self_eq_false Bool.or_self Bool.false_or Bool.true_or Bool.or_true Bool.or_false
theorem mxo:prog.follows .mixedOrders=true:=by kernel_rfl
theorem vDq {id:Nat} {l:List Oper} {Q:Exit->St->Prop} {s:St} (h:@vA prog Hf ⟨@vQ ⟨Q⟩ .normal⟩ ⟨l⟩ ⟨l⟩ s) (hB:Zjj l.toArray=true:=by kernel_rfl):awp prog (.region id l.toArray Ht) Q s:=Zrk mxo hB h
abbrev Pp:=PL.Pure prog
theorem Zz {f:FuncId} {fn:Func} {c:Code} {args:List PV} {r:PV} {n:Nat} {rs:List ResultVar} (hf:prog.funcs[f]? = Hs fn) (hb:fn.body=Hs c) (hn:fn.ntmps=n) (hrs:fn.results=rs.toArray) (h:@vC prog ⟨c⟩ ⟨Zd5 prog rs r⟩ (St.init args n)) (hi:r.dids= []:=by rfl) (hname:fn.name≠ "runtime.NumGoroutine" :=by decide) (hl:args.length<=n:=by simp):Pp f args r:=pov hf hname hb hn hrs hl hi h
theorem ZF {f:FuncId} {fn:Func} {c:Code} {args:List PV} {r:PV} {n:Nat} {rs:List ResultVar} (hf:prog.funcs[f]? = Hs fn) (hb:fn.body=Hs c) (hn:fn.ntmps=n) (hrs:fn.results=rs.toArray) (hi:r.dids= []) (h:@vC prog ⟨c⟩ ⟨Zd5 prog rs r⟩ (St.init args n)) (hname:fn.name≠ "runtime.NumGoroutine" :=by decide) (hl:args.length<=n:=by simp):Pp f args r:=pov hf hname hb hn hrs hl hi h
theorem w64 {x:Int} (h: -9223372036854775808<=x/\x<=9223372036854775807):IntKind.i64.wrap x=x:=IntWalk.i64_in _ (by omega)
theorem nx9 {n k:Nat} (h:k<n):n-(k+1)<n-k:=by omega
theorem wk9 {k:Nat} (h:(k:Int)<9223372036854775807):IntKind.i64.wrap ((k:Int)+1)=((k+1:Nat):Int):=by
 rw[w64 (by omega)];rfl
theorem Zb:maxLen=9223372036854775807:=by decide
theorem We {k n:Nat} (h:k<n) (hn:n<=maxLen):IntKind.i64.wrap ((k:Int)+1)=((k+1:Nat):Int):=by
 rw[Zb]at hn;rw[w64 (by omega)];rfl
abbrev Str:=List UInt8
structure Rf where
 sc:Int
 gr:Str
 nm:Str
 deriving DecidableEq,Inhabited
structure En where
 at':Rf
 n:Int
 l:List Str
 deriving DecidableEq,Inhabited
structure Rw where
 item:Str
 l:List En
 deriving DecidableEq,Inhabited
structure Dc where
 head:List En
 rows:List Rw
 deriving DecidableEq,Inhabited
def YD (l:List Str):PV:= .sl .no (l.map .str)
def ref (r:Rf):PV:= .agg [.int .i64 r.sc,.str r.gr,.str r.nm]
def ent (e:En):PV:= .agg [.int .i64 e.at'.sc,.str e.at'.gr,.str e.at'.nm,.int .i64 e.n,.sl .no (e.l.map .str)]
def Ys (l:List En):PV:= .sl .no (l.map ent)
def row (r:Rw):PV:= .agg [.str r.item,.sl .no (r.l.map ent)]
def doc (d:Dc):PV:= .agg [.sl .no (d.head.map ent),.sl .no (d.rows.map row)]
theorem vc1 {x:Bool} {M:KH} {g:FuncId} {args args':List PV} {K:KR} {r:PV} (h1:PL.Pure prog g args' r) (h2:K.k r M.m) (h0:J2 M.m args:=by first|(simp only[go_sem,ref,ent,Ys,doc,YD,row];done)|exact rfl) (he:PV.giveL M.m args=args':=by first|(simp only[go_sem,ref,ent,Ys,doc,YD,row];done)|exact rfl):@Vo prog x M (Hs (g,args)) K:=Z6 h1 h0 he h2
theorem Zo (a b:Rf):(a.sc==b.sc&&(a.gr==b.gr&&a.nm==b.nm))=decide (a=b):=by
 cases a;cases b;rw[JT];simp
theorem ZP {l:List Str} {i:Nat} (h:i<l.length):(l.map J3).getD i .any= .str (l.getD i []):=by
 simp[Jb,h]
theorem Xu {l:List En} {i:Nat} (h:i<l.length):(l.map ent).getD i .any=ent (l.getD i Jd):=by
 simp[Jb,h]
theorem Wg {l:List Rw} {i:Nat} (h:i<l.length):(l.map row).getD i .any=row (l.getD i Jd):=by
 simp[Jb,h]
theorem Zh {α:Type} {l:List α} {i:Nat} {d:α} (h:i<l.length):l.getD i d∈l:=by
 rw[Jb,JD h];exact Jm h
theorem XF {α:Type} {a b:List α} {d:α} (hl:a.length=b.length) (h:∀j,j<a.length->a.getD j d=b.getD j d):a=b:=by
 apply List.ext_getElem hl;intro i h1 h2;have:=h i h1;simpa[Jb,h1,h2]using this
theorem WL {α:Type} {a b:List α} {d:α} {j:Nat} (h:a.getD j d≠b.getD j d):a≠b:=λe=>h (by rw[e])
theorem Zag (a b:List Str) (ha:a.length<=maxLen) (hb:b.length<=maxLen):Pp 125 [YD a,YD b] (.bool (decide (a=b))):=by
 by_cases hl:a.length=b.length;have hl':((a.length:Int) !=(b.length:Int))=false:=by rw[hl];exact bne_self_eq_false _
 refine Zz func125 rfl ntmps125 results125 ?_;simp only[go_sem,YD,hl'];refine Zr (ι:= { k:Nat // k<=a.length/\ ∀j,j<k->a.getD j []=b.getD j [] }) 26 (λx=> [(0,YD a),(1,YD b),(5,.int .i64 (x.1:Int))]) (λx=> []) (λx=> []) (λx=>a.length-x.1) ⟨0,by omega,λj hj=>by omega⟩
  ⟨rfl,(Fc3 rfl rfl rfl),fnl,fnl⟩ (λx=>⟨(Fc3 rfl rfl rfl),fnl⟩) (λx=> ?_)
 obtain⟨k,hk,hall⟩:=x;simp only;by_cases h:(k:Int)<(a.length:Int);have hka:k<a.length:=by omega
 have hkb:k<b.length:=by omega
 have w1:=We hka ha;have i1:=Je k
 have i2:(k:Int)<(b.length:Int):=by omega
 by_cases he:a.getD k []=b.getD k [];have he':(a.getD k []==b.getD k [])=true:=beq_iff_eq.2 he;simp only[go_sem,YD,h];refine vDq ?_;simp only[go_sem,ZP hka,ZP hkb,h,i1,i2,he',w1];exact⟨⟨k+1,by omega,λj hj=>by
  rcases JY j k with h1|h1;exact hall j h1;obtain rfl:j=k:=by omega
  exact he⟩,nx9 (by omega),⟨rfl,(Fc3 rfl rfl rfl),fnl,fnl⟩⟩
 have he':(a.getD k []==b.getD k [])=false:=beq_eq_false_iff_ne.2 he;have hab:¬a=b:=WL he;simp only[go_sem,YD,h];refine vDq ?_;simp only[go_sem,ZP hka,ZP hkb,h,i1,i2,he',hab];have hab:decide (a=b)=true:=decide_eq_true (XF (d:= []) hl λj hj=>hall j (by omega));simp only[go_sem,YD,h,hab];have hl':((a.length:Int) !=(b.length:Int))=true:=bne_iff_ne.2 (by omega);have hab:¬a=b:=λe=>hl (by rw[e])
 refine Zz func125 rfl ntmps125 results125 ?_;simp only[go_sem,YD,hl',hab]
open Go.PL
def idx {α:Type} (p:α->Bool) (l:List α):Int:=match l.findIdx? p with|some i=>(i:Int)|none=> -1
theorem W8 {α:Type} {p:α->Bool} {l:List α} {k:Nat} {d:α} (hk:k<l.length) (h:∀j,j<k->p (l.getD j d)=Hf) (hp:p (l.getD k d)=Ht):idx p l=k:=by
 have:l.findIdx? p=Hs k:=by
  rw[Jt];refine⟨hk,?_,λj hj=> ?_⟩;simpa[Jb,hk]using hp;have:=h j hj;simp[Jb,show j<l.length by omega]at this;simp[this]
 simp[idx,this]
theorem Ts {α:Type} {p:α->Bool} {l:List α} {d:α} (h:∀j,j<l.length->p (l.getD j d)=Hf):idx p l= -1:=by
 have:l.findIdx? p=none:=by
  rw[List.findIdx?_eq_none_iff];intro x hx;obtain⟨j,hj,rfl⟩:=Jl hx;have:=h j hj;simpa[Jb,hj]using this
 simp[idx,this]
theorem Zi {p:Nat->Prop} {k:Nat} (h:∀j,j<k->p j) (hk:p k):∀j,j<k+1->p j:=λj hj=>by
 rcases JY j k with h1|h1;exact h j h1;obtain rfl:j=k:=by omega
 exact hk
theorem ZpW {a b:En} (h1:a.at'=b.at') (h2:a.n=b.n) (h3:a.l=b.l):a=b:=by
 cases a;cases b;simp_all
theorem Uz (a b:List En) (ha:a.length<=maxLen) (hb:b.length<=maxLen) (ha':∀e∈a,e.l.length<=maxLen) (hb':∀e∈b,e.l.length<=maxLen):Pp 70 [Ys a,Ys b] (.bool (decide (a=b))):=by
 by_cases hl:a.length=b.length;have hl':((a.length:Int) !=(b.length:Int))=false:=by rw[hl];exact bne_self_eq_false _
 refine Zz func70 rfl ntmps70 results70 ?_;simp only[go_sem,Ys,hl'];refine Zr (ι:= { k:Nat // k<=a.length/\ ∀j,j<k->a.getD j Jd=b.getD j Jd }) 55 (λx=> [(0,Ys a),(1,Ys b),(5,.int .i64 (x.1:Int))]) (λx=> []) (λx=> []) (λx=>a.length-x.1) ⟨0,by omega,λj hj=>by omega⟩
  ⟨rfl,(Fc3 rfl rfl rfl),fnl,fnl⟩ (λx=>⟨(Fc3 rfl rfl rfl),fnl⟩) (λx=> ?_)
 obtain⟨k,hk,hall⟩:=x;simp only;by_cases h:(k:Int)<(a.length:Int);have hka:k<a.length:=by omega
 have hkb:k<b.length:=by omega
 have w1:=We hka ha;have i1:=Je k
 have i2:(k:Int)<(b.length:Int):=by omega
 have hc:=Zag _ _ (ha' _ (Zh (d:=Jd) hka)) (hb' _ (Zh (d:=Jd) hkb));by_cases e1:(a.getD k Jd).at'=(b.getD k Jd).at';have e1':=decide_eq_true e1;by_cases e2:(a.getD k Jd).n=(b.getD k Jd).n;have e2':((a.getD k Jd).n !=(b.getD k Jd).n)=false:=by rw[e2];exact bne_self_eq_false _
 by_cases e3:(a.getD k Jd).l=(b.getD k Jd).l;rw[decide_eq_true e3]at hc;simp only[go_sem,Ys,h];refine vDq ?_;simp only[go_sem,Xu hka,Xu hkb,ent,h,i1,i2,Zo,e1',e2'];refine vc1 hc ?_;simp only[go_sem,w1];exact⟨⟨k+1,by omega,Zi hall (ZpW e1 e2 e3)⟩,nx9 (by omega),⟨rfl,(Fc3 rfl rfl rfl),fnl,fnl⟩⟩;rw[decide_eq_false e3]at hc;have hab:¬a=b:=λe=>e3 (by rw[e])
 simp only[go_sem,Ys,h];refine vDq ?_;simp only[go_sem,Xu hka,Xu hkb,ent,h,i1,i2,Zo,e1',e2'];refine vc1 hc ?_;simp only[go_sem,hab];have e2':((a.getD k Jd).n !=(b.getD k Jd).n)=true:=bne_iff_ne.2 e2;have hab:¬a=b:=λe=>e2 (by rw[e])
 simp only[go_sem,Ys,h];refine vDq ?_;simp only[go_sem,Xu hka,Xu hkb,ent,h,i1,i2,Zo,e1',e2',hab];have e1':=decide_eq_false e1;have hab:¬a=b:=λe=>e1 (by rw[e])
 simp only[go_sem,Ys,h];refine vDq ?_;simp only[go_sem,Xu hka,Xu hkb,ent,h,i1,i2,Zo,e1',hab];have hab:decide (a=b)=true:=decide_eq_true (XF (d:=Jd) hl λj hj=>hall j (by omega));simp only[go_sem,Ys,h,hab];have hl':((a.length:Int) !=(b.length:Int))=true:=bne_iff_ne.2 (by omega);have hab:¬a=b:=λe=>hl (by rw[e])
 refine Zz func70 rfl ntmps70 results70 ?_;simp only[go_sem,Ys,hl',hab]
open Go.PL
theorem Ub {α:Type} {p:α->Bool} {l:List α} {k:Nat} {d:α} (hk:k<l.length) (h:p (l.getD k d)=Ht):l.any p=true:=
 List.any_eq_true.2 ⟨_,Zh hk,h⟩
theorem VM {α:Type} {p:α->Bool} {l:List α} {d:α} (h:∀j,j<l.length->p (l.getD j d)=Hf):l.any p=false:=by
 rw[List.any_eq_false];intro x hx;obtain⟨j,hj,rfl⟩:=Jl hx;have:=h j hj;simpa[Jb,hj]using this
def XX (n:Nat) (s:Str):Bool:=decide ((n:Int)<(s.length:Int))
def Zli (d:Dc):Prop:=d.head.length<=maxLen/\d.rows.length<=maxLen/\(∀e∈d.head,e.l.length<=maxLen)/\ ∀r∈d.rows,r.l.length<=maxLen/\ ∀e∈r.l,e.l.length<=maxLen
open Go.PL
@[go_sem] theorem ZpR {α:Type}:(#[]:Array α).isEmpty=true:=rfl
theorem VW {α:Type} (p:α->Bool) (l:List α):idx p l= -1\/ ∃k:Nat,k<l.length/\idx p l=k:=by
 unfold idx;cases h:l.findIdx? p with
 |none=>exact .inl rfl
 |some k=>
  rw[Jt]at h;exact .inr ⟨k,h.1,rfl⟩
theorem Yi {n b:Nat} (hn:n<=100000000000) (hb:b<=1000):Zhg n b:=by
 refine⟨?_,by unfold maxLen;omega⟩
 calc n*b<=100000000000*1000:=Nat.mul_le_mul hn hb
  _<=140737488355328:=by decide
@[go_sem] theorem Zql (n:Nat):Sized n []=True:=by simp[Sized]
@[go_sem] theorem Zpp (n:Nat) (e:PV) (l:List PV):Sized n (e::l)=(e.cells.length=n/\Sized n l):=by simp[Sized]
@[go_sem] theorem ZpS:YZ []=True:=by simp[YZ]
@[go_sem] theorem Zpg (e:PV) (l:List PV):YZ (e::l)=(e.cells.all PV.atom=Ht/\YZ l):=by simp[YZ]
theorem ZU (l:List Str):Sized 1 (l.map .str):=λe he=>by
 obtain⟨x,_,rfl⟩:=Jz.1 he;rfl
theorem Xh (l:List Str):YZ (l.map .str):=λe he=>by
 obtain⟨x,_,rfl⟩:=Jz.1 he;rfl
theorem Zh0 (r:Rw) (it:Str):Pp 201 [row r,.rptr [.str it]] (.bool (r.item==it)):=by
 refine Zz func201 rfl ntmps201 results201 ?_;simp only[go_sem,row]
theorem Za2 (e:En) (r:Rf):Pp 203 [ent e,.rptr [.int .i64 r.sc,.str r.gr,.str r.nm]] (.bool (decide (e.at'=r))):=by
 refine Zz func203 rfl ntmps203 results203 ?_;simp only[go_sem,ent,Zo]
theorem Zbk (l:List Rw) (g:FuncId) (cs:List PV) (p:Rw->Bool) (hl:l.length<=maxLen) (hp:∀r∈l,Pp g [row r,.rptr cs] (.bool (p r))):
  Pp 200 [.sl .no (l.map row),.fn g [.rptr cs]] (.int .i64 (idx p l)):=by
 refine Zz func200 rfl ntmps200 results200 ?_;simp only[go_sem];refine Zr (ι:= { k:Nat // k<=l.length/\ ∀j,j<k->p (l.getD j Jd)=Hf }) 19 (λx=> [(0,.sl .no (l.map row)),(1,.fn g [.rptr cs]),(7,.int .i64 (l.length:Int)),(8,.int .i64 (x.1:Int))]) (λx=> []) (λx=> []) (λx=>l.length-x.1) ⟨0,by omega,λj hj=>by omega⟩
  ⟨rfl,(Fc4 rfl rfl rfl rfl),fnl,fnl⟩ (λx=>⟨(Fc4 rfl rfl rfl rfl),fnl⟩) (λx=> ?_)
 obtain⟨k,hk,hall⟩:=x;simp only;by_cases h:(k:Int)<(l.length:Int);have hka:k<l.length:=by omega
 have w1:=We hka hl;have i1:=Je k
 have hc:=hp _ (Zh (d:=Jd) hka);cases he:p (l.getD k Jd);rw[he]at hc;simp only[go_sem,h,Wg hka,row,i1];refine vc1 hc ?_;simp only[go_sem,w1];exact⟨⟨k+1,by omega,Zi hall he⟩,nx9 (by omega),⟨rfl,(Fc4 rfl rfl rfl rfl),fnl,fnl⟩⟩;rw[he]at hc;have hx:=W8 (p:=p) hka hall he;simp only[go_sem,h,Wg hka,row,i1];refine vc1 hc ?_;simp only[go_sem,hx];have hx:=Ts (p:=p) (d:=Jd) (l:=l) (λj hj=>hall j (by omega));simp only[go_sem,h,hx]
theorem T9 (l:List En) (g:FuncId) (cs:List PV) (p:En->Bool) (hl:l.length<=maxLen) (hp:∀r∈l,Pp g [ent r,.rptr cs] (.bool (p r))):
  Pp 202 [.sl .no (l.map ent),.fn g [.rptr cs]] (.int .i64 (idx p l)):=by
 refine Zz func202 rfl ntmps202 results202 ?_;simp only[go_sem];refine Zr (ι:= { k:Nat // k<=l.length/\ ∀j,j<k->p (l.getD j Jd)=Hf }) 19 (λx=> [(0,.sl .no (l.map ent)),(1,.fn g [.rptr cs]),(7,.int .i64 (l.length:Int)),(8,.int .i64 (x.1:Int))]) (λx=> []) (λx=> []) (λx=>l.length-x.1) ⟨0,by omega,λj hj=>by omega⟩
  ⟨rfl,(Fc4 rfl rfl rfl rfl),fnl,fnl⟩ (λx=>⟨(Fc4 rfl rfl rfl rfl),fnl⟩) (λx=> ?_)
 obtain⟨k,hk,hall⟩:=x;simp only;by_cases h:(k:Int)<(l.length:Int);have hka:k<l.length:=by omega
 have w1:=We hka hl;have i1:=Je k
 have hc:=hp _ (Zh (d:=Jd) hka);cases he:p (l.getD k Jd);rw[he]at hc;simp only[go_sem,h,Xu hka,ent,i1];refine vc1 hc ?_;simp only[go_sem,w1];exact⟨⟨k+1,by omega,Zi hall he⟩,nx9 (by omega),⟨rfl,(Fc4 rfl rfl rfl rfl),fnl,fnl⟩⟩;rw[he]at hc;have hx:=W8 (p:=p) hka hall he;simp only[go_sem,h,Xu hka,ent,i1];refine vc1 hc ?_;simp only[go_sem,hx];have hx:=Ts (p:=p) (d:=Jd) (l:=l) (λj hj=>hall j (by omega));simp only[go_sem,h,hx]
theorem XS (l:List Str):Jv (l.map .str)= []:=by
 induction l with
 |nil=>rfl
 |cons t l ih=>simp only[JC,Jv,ih,JP,Jw]
theorem WF (e:En):(ent e).dids= []:=by simp only[ent,JP,Jv,XS,Jw]
theorem SH (e:En) (he:e.l.length<=1000000):Pp 158 [ent e] (ent e):=by
 have hr:=Yi (show e.l.length<=100000000000 by omega) (show 16<=1000 by omega);refine ZF func158 rfl ntmps158 results158 (WF _) ?_;simp only[go_sem,ent,ZU,Xh,hr]
open Go.PL
def atE (r:Rf):En->Bool:=λe=>decide (e.at'=r)
def atR (it:Str):Rw->Bool:=λr=>r.item==it
def Zkr (d:Dc) (it:Str) (r:Rf):Int×Int×Int:=
 if it= []then(if idx (atE r) d.head<0 then(0,0,6)else(-1,idx (atE r) d.head,0))
 else if idx (atR it) d.rows<0 then(0,0,12)
 else if idx (atE r) (d.rows.getD (idx (atR it) d.rows).toNat Jd).l<0 then(0,0,6)
 else(idx (atR it) d.rows,idx (atE r) (d.rows.getD (idx (atR it) d.rows).toNat Jd).l,0)
def Zml (x:Int×Int×Int):PV:= .tup [.int .i64 x.1,.int .i64 x.2.1,.int .i64 x.2.2]
attribute [go_sem] Bool.not_eq_true'
theorem Zi8 {s:Str} (h:s= []):(s== [])=true:=by rw[h];rfl
theorem ZfW {s:Str} (h:¬s= []):(s== [])=false:=beq_eq_false_iff_ne.2 h
theorem Zks (d:Dc) (it:Str) (r:Rf) (hf:Zli d):Pp 157 [doc d,.str it,ref r] (Zml (Zkr d it r)):=by
 obtain⟨f1,f2,f3,f4⟩:=hf;by_cases hi:it= []
 ·have hi':=Zi8 hi;have hc:=T9 d.head 203 [.int .i64 r.sc,.str r.gr,.str r.nm] (atE r) f1 (λe _=>Za2 e r);by_cases h1:idx (atE r) d.head<0
  all_goals
   refine Zz func157 rfl ntmps157 results157 ?_;simp only[go_sem,doc,ref,hi'];refine vc1 hc ?_;simp only[go_sem,h1,Zml,Zkr,hi]
 have hi':=ZfW hi;have hc:=Zbk d.rows 201 [.str it] (atR it) f2 (λe _=>Zh0 e it);by_cases h1:idx (atR it) d.rows<0;refine Zz func157 rfl ntmps157 results157 ?_;simp only[go_sem,doc,ref,hi'];refine vc1 hc ?_;simp only[go_sem,h1,Zml,Zkr,hi];rcases VW (atR it) d.rows with h2|⟨k,hk,h2⟩;omega;have hc2:=T9 (d.rows.getD k Jd).l 203 [.int .i64 r.sc,.str r.gr,.str r.nm] (atE r) (f4 _ (Zh hk)).1 (λe _=>Za2 e r);have i1:=Je k
 have i2:(k:Int)<(d.rows.length:Int):=by omega
 have i3:¬(k:Int)<0:=by omega
 rw[h2]at hc;by_cases h3:idx (atE r) (d.rows.getD k Jd).l<0
 all_goals
  refine Zz func157 rfl ntmps157 results157 ?_;simp only[go_sem,doc,ref,hi'];refine vc1 hc ?_;simp only[go_sem,i1,i2,i3,Wg hk,row];refine vc1 hc2 ?_;simp only[go_sem,h3,Zml,Zkr,hi,h2,i3]
def Zma (d:Dc) (it:Str) (r:Rf):En×Int:=
 if it= []then(if idx (atE r) d.head<0 then(Jd,6)else(d.head.getD (idx (atE r) d.head).toNat Jd,0))
 else if idx (atR it) d.rows<0 then(Jd,12)
 else if idx (atE r) (d.rows.getD (idx (atR it) d.rows).toNat Jd).l<0 then(Jd,6)
 else((d.rows.getD (idx (atR it) d.rows).toNat Jd).l.getD (idx (atE r) (d.rows.getD (idx (atR it) d.rows).toNat Jd).l).toNat Jd,0)
def Zlk (x:En×Int):PV:= .tup [ent x.1,.int .i64 x.2]
theorem UP (x:En×Int):(Zlk x).dids= []:=by simp only[Zlk,JP,Jv,WF,Jw]
theorem TS:ent Jd= .agg [.int .i64 0,.str [],.str [],.int .i64 0,.sl .no []]:=rfl
def ZpO (d:Dc):Prop:=(∀e∈d.head,e.l.length<=1000000)/\ ∀r∈d.rows,∀e∈r.l,e.l.length<=1000000
theorem Zcg (d:Dc) (it:Str) (r:Rf) (hf:Zli d) (hs:ZpO d):Pp 115 [doc d,.str it,ref r] (Zlk (Zma d it r)):=by
 have hc:=Zks d it r hf;obtain⟨f1,f2,f3,f4⟩:=hf;unfold Zkr at hc;unfold Zma;by_cases hi:it= [];rw[if_pos hi]at hc ⊢;rcases VW (atE r) d.head with h2|⟨k,hk,h2⟩;rw[h2]at hc ⊢;refine ZF func115 rfl ntmps115 results115 (UP _) ?_;simp only[go_sem,doc,ref];refine vc1 hc ?_;simp only[go_sem,Zml,Zlk,TS];have i1:=Je k
 have i2:(k:Int)<(d.head.length:Int):=by omega
 have i3:¬(k:Int)<0:=by omega
 have ho:=SH (d.head.getD k Jd) (hs.1 _ (Zh hk));rw[h2,if_neg i3]at hc;rw[h2,if_neg i3];refine ZF func115 rfl ntmps115 results115 (UP _) ?_;simp only[go_sem,doc,ref];refine vc1 hc ?_;simp only[go_sem,Zml,i1,i2,Xu hk,ent];refine vc1 ho ?_;simp only[go_sem,Zlk,ent];rw[if_neg hi]at hc ⊢;rcases VW (atR it) d.rows with h2|⟨k,hk,h2⟩;rw[h2]at hc ⊢;refine ZF func115 rfl ntmps115 results115 (UP _) ?_;simp only[go_sem,doc,ref];refine vc1 hc ?_;simp only[go_sem,Zml,Zlk,TS];have i1:=Je k
 have i2:(k:Int)<(d.rows.length:Int):=by omega
 have i3:¬(k:Int)<0:=by omega
 rw[h2,if_neg i3]at hc;rw[h2,if_neg i3];simp only[JO]at hc ⊢;rcases VW (atE r) (d.rows.getD k Jd).l with h4|⟨n,hn,h4⟩;rw[h4]at hc ⊢;refine ZF func115 rfl ntmps115 results115 (UP _) ?_;simp only[go_sem,doc,ref];refine vc1 hc ?_;simp only[go_sem,Zml,Zlk,TS];have j1:=Je n
 have j2:(n:Int)<((d.rows.getD k Jd).l.length:Int):=by omega
 have j3:¬(n:Int)<0:=by omega
 have ho:=SH ((d.rows.getD k Jd).l.getD n Jd) (hs.2 _ (Zh hk) _ (Zh hn));rw[h4,if_neg j3]at hc;rw[h4,if_neg j3];refine ZF func115 rfl ntmps115 results115 (UP _) ?_;simp only[go_sem,doc,ref];refine vc1 hc ?_;simp only[go_sem,Zml,i1,i2,i3,Wg hk,row,j1,j2,Xu hn,ent];refine vc1 ho ?_;simp only[go_sem,Zlk,ent]
open Go.PL
structure Fd where
 at':Rf
 kind:Int
 df:Str
 cases':List Str
 worth:Int
 deriving DecidableEq,Inhabited
def fld (f:Fd):PV:= .agg [.int .i64 f.at'.sc,.str f.at'.gr,.str f.at'.nm,.int .i64 f.kind,.str f.df,.sl .no (f.cases'.map .str),.int .i64 f.worth]
def Zs (l:List Fd):PV:= .sl .no (l.map fld)
theorem vc2 {x:Bool} {M:KH} {g:FuncId} {args args':List PV} {K:KR} {r:PV} (h1:PL.Pure prog g args' r) (h2:K.k r M.m) (h0:J2 M.m args:=by first|(simp only[go_sem,ref,ent,Ys,doc,YD,row,Zs,fld];done)|exact rfl) (he:PV.giveL M.m args=args':=by first|(simp only[go_sem,ref,ent,Ys,doc,YD,row,Zs,fld];done)|exact rfl):@Vo prog x M (Hs (g,args)) K:=Z6 h1 h0 he h2
theorem ZO {l:List Fd} {i:Nat} (h:i<l.length):(l.map fld).getD i .any=fld (l.getD i Jd):=by
 simp[Jb,h]
def Te (f:Fd):En:=⟨f.at',0,if f.kind=1\/f.kind=4 then []else [f.df]⟩
attribute [go_sem] D8
theorem Zhl (f:Fd):Pp 121 [fld f] (ent (Te f)):=by
 by_cases h1:f.kind=1;have h1':(f.kind !=1)=false:=by rw[h1];rfl
 refine ZF func121 rfl ntmps121 results121 (WF _) ?_;simp only[go_sem,fld,ent,Te,h1'];simp[h1];have h1':(f.kind !=1)=true:=bne_iff_ne.2 h1;by_cases h2:f.kind=4;have h2':(f.kind !=4)=false:=by rw[h2];rfl
 refine ZF func121 rfl ntmps121 results121 (WF _) ?_;simp only[go_sem,fld,ent,Te,h1',h2'];simp[h2];have h2':(f.kind !=4)=true:=bne_iff_ne.2 h2;refine ZF func121 rfl ntmps121 results121 (WF _) ?_;simp only[go_sem,fld,ent,Te,h1',h2',h1,h2,or_self]
theorem ZdE (l:List En):Sized 5 (l.map ent):=λe he=>by
 obtain⟨x,_,rfl⟩:=Jz.1 he;rfl
theorem ZiV (l:List En):YZ (l.map ent):=λe he=>by
 obtain⟨x,_,rfl⟩:=Jz.1 he;rfl
theorem ZI {α:Type} {l:List α} {k:Nat} (h:k<l.length) {d:α}:l.take (k+1)=l.take k++ [l.getD k d]:=by
 rw[Jo h,Jb,JD h];rfl
theorem Sn (l:List En):Jv (l.map ent)= []:=by
 induction l with
 |nil=>rfl
 |cons e l ih=>rw[JC,Jv,ih,WF];rfl
theorem Sq (l:List En):(Ys l).dids= []:=by simp only[Ys,JP,Sn]
def FR:List Fd:= [⟨⟨0,[],[99,111,117,112,111,110]⟩,2,[],[],0⟩,⟨⟨1,[],[110,111,116,101]⟩,2,[],[],0⟩,⟨⟨1,[],[113,116,121]⟩,1,[],[],1⟩,
 ⟨⟨1,[],[115,105,122,101]⟩,3,[109,101,100,105,117,109],[[115,109,97,108,108],[109,101,100,105,117,109],[108,97,114,103,101]],0⟩,⟨⟨1,[],[116,97,103,115]⟩,4,[],[],0⟩]
theorem Vf (l:List Fd):Sized 7 (l.map fld):=λe he=>by
 obtain⟨x,_,rfl⟩:=Jz.1 he;rfl
theorem ZcF (l:List Fd):Jv (l.map fld)= []:=by
 induction l with
 |nil=>rfl
 |cons e l ih=>rw[JC,Jv,ih];simp only[fld,JP,Jv,XS,Jw]
theorem UU (l:List Fd):(Zs l).dids= []:=by simp only[Zs,JP,ZcF]
open Go.PL
@[go_sem] theorem ZuV:((0:Nat):Int)=0:=rfl
@[go_sem] theorem ZuW:((1:Nat):Int)=1:=rfl
attribute [go_sem] Int.cast_ofNat_Int
def nm (s:Str) (i:Nat):Int:=((s.getD i 0).toNat:Int)
def ZhQ (s:Str) (i:Nat):Bool:=decide (97<=nm s i/\nm s i<=122)||(decide (48<=nm s i/\nm s i<=57)&&decide (i≠0))
def Z0 (s:Str):Bool:=decide (1<=s.length/\s.length<=12)&&(JN s.length).all (ZhQ s)
theorem Wy (s:Str) (i:Nat):((s.getD i 0).toNat:Int)=nm s i:=rfl
theorem YL (s:Str):Pp 34 [.str s] (.bool (Z0 s)):=by
 by_cases h1:(s.length:Int)<1;have hx:Z0 s=false:=by simp only[Z0,show ¬(1<=s.length/\s.length<=12)by omega,decide_false,Jf]
 refine Zz func34 rfl ntmps34 results34 ?_;simp only[go_sem,h1,hx];by_cases h2:(12:Int)<(s.length:Int);have hx:Z0 s=false:=by simp only[Z0,show ¬(1<=s.length/\s.length<=12)by omega,decide_false,Jf]
 refine Zz func34 rfl ntmps34 results34 ?_;simp only[go_sem,h1,h2,hx];have hn:Z0 s=(JN s.length).all (ZhQ s):=by simp only[Z0,show(1<=s.length/\s.length<=12)by omega,and_self,decide_true,Jk]
 refine Zz func34 rfl ntmps34 results34 ?_;simp only[go_sem,h1,h2];refine Zr (ι:= { k:Nat // k<=s.length/\ ∀j,j<k->ZhQ s j=Ht }) 50 (λx=> [(0,.str s),(15,.int .i64 (s.length:Int)),(16,.int .i64 (x.1:Int))]) (λx=> []) (λx=> []) (λx=>s.length-x.1) ⟨0,by omega,λj hj=>by omega⟩
  ⟨rfl,(Fc3 rfl rfl rfl),fnl,fnl⟩ (λx=>⟨(Fc3 rfl rfl rfl),fnl⟩) (λx=> ?_)
 obtain⟨k,hk,hall⟩:=x;simp only;by_cases h:(k:Int)<(s.length:Int);have hka:k<s.length:=by omega
 have w1:=wk9 (k:=k) (by omega)
 have i1:=Je k
 cases ho:ZhQ s k;have hx:Z0 s=false:=by
  rw[hn,JB];exact⟨k,by simpa using hka,by simp[ho]⟩
 simp only[ZhQ,JK,decide_eq_false_iff_not,JI]at ho;by_cases g1:97<=nm s k;have g2:¬nm s k<=122:=by omega
 have g3:48<=nm s k:=by omega
 have g4:¬nm s k<=57:=by omega
 simp only[go_sem,h,i1,Wy,g1,g2,g3,g4,hx];by_cases g3:48<=nm s k;by_cases g4:nm s k<=57;have hk0:((k:Int)==0)=true:=by
  rw[beq_iff_eq];rcases ho.2 with h'|h'<;>omega
 simp only[go_sem,h,i1,Wy,g1,g3,g4,hk0,hx];simp only[go_sem,h,i1,Wy,g1,g3,g4,hx];simp only[go_sem,h,i1,Wy,g1,g3,hx];have nx:∀j,j<k+1->ZhQ s j=true:=Zi hall ho;simp only[ZhQ,JU,decide_eq_true_eq,JQ]at ho;by_cases g1:97<=nm s k;have g2:nm s k<=122:=by omega
 have g3:48<=nm s k:=by omega
 have g4:¬nm s k<=57:=by omega
 simp only[go_sem,h,i1,Wy,g1,g2,g3,g4,w1];exact⟨⟨k+1,by omega,nx⟩,nx9 (by omega),⟨rfl,(Fc3 rfl rfl rfl),fnl,fnl⟩⟩;have g3:48<=nm s k:=by omega
 have g4:nm s k<=57:=by omega
 have hk0:((k:Int)==0)=false:=beq_eq_false_iff_ne.2 (by omega);simp only[go_sem,h,i1,Wy,g1,g3,g4,hk0,w1];exact⟨⟨k+1,by omega,nx⟩,nx9 (by omega),⟨rfl,(Fc3 rfl rfl rfl),fnl,fnl⟩⟩;have hx:Z0 s=true:=by
  rw[hn,JE];intro j hj;exact hall j (by have:=JL.1 hj;omega)
 simp only[go_sem,h,hx]
def XI (r:Rf):Bool:=(decide (r.sc=0)||decide (r.sc=1))&&(Z0 r.nm&&(decide (r.gr= [])||Z0 r.gr))
theorem S6 (r:Rf):Pp 103 [ref r] (.bool (XI r)):=by
 have hN:=YL r.nm;have hG:=YL r.gr;by_cases hs:r.sc=0\/r.sc=1;have hs':(decide (r.sc=0)||decide (r.sc=1))=true:=by simpa using hs
 have key:Pp 103 [ref r] (.bool (Z0 r.nm&&(decide (r.gr= [])||Z0 r.gr))):=by
  cases hn:Z0 r.nm;rw[hn]at hN;rcases hs with h0|h1;have q:(r.sc !=0)=false:=by rw[h0];rfl
  refine Zz func103 rfl ntmps103 results103 ?_;simp only[go_sem,ref,q];refine vc1 hN ?_;simp only[go_sem,Jf];have q:(r.sc !=0)=true:=by rw[h1];rfl
  have q1:(r.sc !=1)=false:=by rw[h1];rfl
  refine Zz func103 rfl ntmps103 results103 ?_;simp only[go_sem,ref,q,q1];refine vc1 hN ?_;simp only[go_sem,Jf];rw[hn]at hN;by_cases hg:r.gr= [];have hg':=Zi8 hg;rcases hs with h0|h1;have q:(r.sc !=0)=false:=by rw[h0];rfl
  refine Zz func103 rfl ntmps103 results103 ?_;simp only[go_sem,ref,q];refine vc1 hN ?_;simp only[go_sem,Jk,hg',decide_eq_true hg];have q:(r.sc !=0)=true:=by rw[h1];rfl
  have q1:(r.sc !=1)=false:=by rw[h1];rfl
  refine Zz func103 rfl ntmps103 results103 ?_;simp only[go_sem,ref,q,q1];refine vc1 hN ?_;simp only[go_sem,Jk,hg',decide_eq_true hg];have hg':=ZfW hg;rcases hs with h0|h1;have q:(r.sc !=0)=false:=by rw[h0];rfl
  refine Zz func103 rfl ntmps103 results103 ?_;simp only[go_sem,ref,q];refine vc1 hN ?_;simp only[go_sem,hg'];refine vc1 hG ?_;simp only[go_sem,Jk,decide_eq_false hg];have q:(r.sc !=0)=true:=by rw[h1];rfl
  have q1:(r.sc !=1)=false:=by rw[h1];rfl
  refine Zz func103 rfl ntmps103 results103 ?_;simp only[go_sem,ref,q,q1];refine vc1 hN ?_;simp only[go_sem,hg'];refine vc1 hG ?_;simp only[go_sem,Jk,decide_eq_false hg]
 simp only[XI,hs',Jk];exact key;have q:(r.sc !=0)=true:=bne_iff_ne.2 (by omega);have q1:(r.sc !=1)=true:=bne_iff_ne.2 (by omega);have hx:XI r=false:=by
  have:(decide (r.sc=0)||decide (r.sc=1))=false:=by simp;omega
  simp only[XI,this,Jf]
 refine Zz func103 rfl ntmps103 results103 ?_;simp only[go_sem,ref,q,q1,hx]
theorem Sd (s:Str):Pp 104 [.str s] (.bool (decide ((s.length:Int)<=40))):=by
 refine Zz func104 rfl ntmps104 results104 ?_;simp only[go_sem]
open Go.PL
theorem XD (s:Str):Pp 40 [.str s] (.bool (Z0 s)):=by
 by_cases h1:(s.length:Int)<1;have hx:Z0 s=false:=by simp only[Z0,show ¬(1<=s.length/\s.length<=12)by omega,decide_false,Jf]
 refine Zz func40 rfl ntmps40 results40 ?_;simp only[go_sem,h1,hx];by_cases h2:(12:Int)<(s.length:Int);have hx:Z0 s=false:=by simp only[Z0,show ¬(1<=s.length/\s.length<=12)by omega,decide_false,Jf]
 refine Zz func40 rfl ntmps40 results40 ?_;simp only[go_sem,h1,h2,hx];have hn:Z0 s=(JN s.length).all (ZhQ s):=by simp only[Z0,show(1<=s.length/\s.length<=12)by omega,and_self,decide_true,Jk]
 refine Zz func40 rfl ntmps40 results40 ?_;simp only[go_sem,h1,h2];refine Zr (ι:= { k:Nat // k<=s.length/\ ∀j,j<k->ZhQ s j=Ht }) 50 (λx=> [(0,.str s),(3,.int .i64 (x.1:Int))]) (λx=> []) (λx=> []) (λx=>s.length-x.1) ⟨0,by omega,λj hj=>by omega⟩
  ⟨rfl,(Fc2 rfl rfl),fnl,fnl⟩ (λx=>⟨(Fc2 rfl rfl),fnl⟩) (λx=> ?_)
 obtain⟨k,hk,hall⟩:=x;simp only;by_cases h:(k:Int)<(s.length:Int);have hka:k<s.length:=by omega
 have w1:=wk9 (k:=k) (by omega)
 have i1:=Je k
 cases ho:ZhQ s k;have hx:Z0 s=false:=by
  rw[hn,JB];exact⟨k,by simpa using hka,by simp[ho]⟩
 simp only[ZhQ,JK,decide_eq_false_iff_not,JI]at ho;by_cases g1:97<=nm s k;have g2:¬nm s k<=122:=by omega
 have g3:48<=nm s k:=by omega
 have g4:¬nm s k<=57:=by omega
 simp only[go_sem,h,i1,Wy,g1,g2,g3,g4,hx];by_cases g3:48<=nm s k;by_cases g4:nm s k<=57;have hk0:((k:Int)==0)=true:=by
  rw[beq_iff_eq];rcases ho.2 with h'|h'<;>omega
 simp only[go_sem,h,i1,Wy,g1,g3,g4,hk0,hx];simp only[go_sem,h,i1,Wy,g1,g3,g4,hx];simp only[go_sem,h,i1,Wy,g1,g3,hx];have nx:∀j,j<k+1->ZhQ s j=true:=Zi hall ho;simp only[ZhQ,JU,decide_eq_true_eq,JQ]at ho;by_cases g1:97<=nm s k;have g2:nm s k<=122:=by omega
 have g3:48<=nm s k:=by omega
 have g4:¬nm s k<=57:=by omega
 simp only[go_sem,h,i1,Wy,g1,g2,g3,g4,w1];exact⟨⟨k+1,by omega,nx⟩,nx9 (by omega),⟨rfl,(Fc2 rfl rfl),fnl,fnl⟩⟩;have g3:48<=nm s k:=by omega
 have g4:nm s k<=57:=by omega
 have hk0:((k:Int)==0)=false:=beq_eq_false_iff_ne.2 (by omega);simp only[go_sem,h,i1,Wy,g1,g3,g4,hk0,w1];exact⟨⟨k+1,by omega,nx⟩,nx9 (by omega),⟨rfl,(Fc2 rfl rfl),fnl,fnl⟩⟩;have hx:Z0 s=true:=by
  rw[hn,JE];intro j hj;exact hall j (by have:=JL.1 hj;omega)
 simp only[go_sem,h,hx]
theorem Zkg (r:Rf):XI r=(decide (0<=r.sc)&&(decide (r.sc<=1)&&(Z0 r.nm&&(decide (r.gr= [])||Z0 r.gr)))):=by
 have:(decide (r.sc=0)||decide (r.sc=1))=(decide (0<=r.sc)&&decide (r.sc<=1)):=by
  rw[JT];simp;omega
 rw[XI,this,Bool.and_assoc]
theorem TQ (r:Rf):Pp 134 [ref r] (.bool (XI r)):=by
 rw[Zkg];have hN:=XD r.nm;have hG:=XD r.gr;refine Zz func134 rfl ntmps134 results134 ?_;simp only[go_sem,ref];repeat' ((first|(first|apply Zl|apply Zj|apply Zp)<;>intro h|refine vc1 hN ?_|refine vc1 hG ?_|refine vDq ?_)<;>first|simp only[go_sem,h]|simp only[go_sem]|skip)
 all_goals (simp_all)
theorem Sc (l:List Str) (s:Str) (hl:l.length<=maxLen):Pp 95 [YD l,.str s] (.bool (l.any (· == s))):=by
 refine Zz func95 rfl ntmps95 results95 ?_;simp only[go_sem,YD];refine Zr (ι:= { k:Nat // k<=l.length/\ ∀j,j<k->(l.getD j []==s)=Hf }) 18 (λx=> [(0,YD l),(1,.str s),(5,.int .i64 (x.1:Int))]) (λx=> []) (λx=> []) (λx=>l.length-x.1) ⟨0,by omega,λj hj=>by omega⟩
  ⟨rfl,(Fc3 rfl rfl rfl),fnl,fnl⟩ (λx=>⟨(Fc3 rfl rfl rfl),fnl⟩) (λx=> ?_)
 obtain⟨k,hk,hall⟩:=x;simp only;by_cases h:(k:Int)<(l.length:Int);have hka:k<l.length:=by omega
 have w1:=We hka hl;have i1:=Je k
 cases he:(l.getD k []==s);simp only[go_sem,YD,h,ZP hka,i1,he,w1];exact⟨⟨k+1,by omega,Zi hall he⟩,nx9 (by omega),⟨rfl,(Fc3 rfl rfl rfl),fnl,fnl⟩⟩;have hx:=Ub (p:=(· == s)) hka he;simp only[go_sem,YD,h,ZP hka,i1,he,hx];have hx:=VM (p:=(· == s)) (d:= []) (l:=l) (λj hj=>hall j (by omega));simp only[go_sem,YD,h,hx]
def Zc6 (a b:Rf):Bool:=if a.sc≠b.sc then decide (a.sc<b.sc)else if a.gr≠b.gr then XA a.gr b.gr else XA a.nm b.nm
open Go.PL
attribute [go_sem] Option.map_some Option.map_none Option.isNone_none
theorem Dj (l:List Str) (k:Nat):Jr k (l.map J3)=(l.take k).map J3:=by rw[List.map_take]
def VO (l:List Str) (i:Nat):Bool:=Z0 (l.getD i [])&& !((l.take i).any (· == l.getD i []))
def DA (l:List Str):Bool:=(JN l.length).all (VO l)
theorem Vr {l:List Str} {k:Nat} (hk:k<l.length) (h:VO l k=Hf):DA l=false:=by
 rw[DA,JB];exact⟨k,by simpa using hk,by simp[h]⟩
theorem DB {l:List Str} (h:∀j,j<l.length->VO l j=Ht):DA l=true:=by
 rw[DA,JE];intro j hj;exact h j (JL.1 hj)
def ZbX (f:Fd):Bool:=DA f.cases'&&(decide ((f.cases'.length:Int)<7)&&f.cases'.any (· == f.df))
def ZkJ (f:Fd):Bool:= !decide (0<(f.cases'.length:Int))&&((decide (f.kind=2)&&decide ((f.df.length:Int)<41))||(decide (f.kind=4)&&decide (f.df= [])))
def Y5 (f:Fd):Bool:=
 XI f.at'&&(if f.kind=1 then decide (f.df= [])&&(decide ((f.cases'.length:Int)=0)&&(decide (0<f.worth)&&decide (f.worth<1048577)))
  else decide (f.worth=0)&&(if f.kind=3 then ZbX f else ZkJ f))
theorem Zen (f:Fd) (hl:f.cases'.length<=maxLen):Pp 94 [fld f] (.bool (Y5 f)):=by
 have hP:=TQ f.at';by_cases h3:f.kind=3;have k1:(f.kind==1)=false:=by rw[h3];rfl
 have k3:(f.kind==3)=true:=by rw[h3];rfl
 cases hp:XI f.at';rw[hp]at hP;refine Zz func94 rfl ntmps94 results94 ?_;simp only[go_sem,fld];refine vc1 hP ?_;simp only[go_sem,Y5,hp,Jf];rw[hp]at hP;by_cases hw:f.worth=0;have hw':(f.worth !=0)=false:=by rw[hw];rfl
 have hx:Y5 f=ZbX f:=by
  simp only[Y5,hp,h3,hw,Jk,decide_true,if_true];rfl
 rw[hx];refine Zz func94 rfl ntmps94 results94 ?_;simp only[go_sem,fld];refine vc1 hP ?_;simp only[go_sem,k1,k3,hw'];refine Zr (ι:= { k:Nat // k<=f.cases'.length/\ ∀j,j<k->VO f.cases' j=Ht }) 96 (λx=> [(1,.ptr 1 0),(3,.int .i64 (x.1:Int))]) (λx=> [(1,[.int .i64 f.at'.sc,.str f.at'.gr,.str f.at'.nm,.int .i64 f.kind,.str f.df,.sl .no (f.cases'.map .str),.int .i64 f.worth],Hf)]) (λx=> []) (λx=>f.cases'.length-x.1) ⟨0,by omega,λj hj=>by omega⟩
  ⟨rfl,(Fc2 rfl rfl),fcs ⟨rfl,rfl⟩ fnl,fnl⟩ (λx=>⟨(Fc2 rfl rfl),(fcs rfl fnl)⟩) (λx=> ?_)
 obtain⟨k,hk,hall⟩:=x;simp only;by_cases h:(k:Int)<(f.cases'.length:Int);have hka:k<f.cases'.length:=by omega
 have w1:=We hka hl;have i1:=Je k
 have i2:(k:Int)<=(f.cases'.length:Int):=by omega
 have hN:=XD (f.cases'.getD k []);have hT:(f.cases'.take k).length<=maxLen:=by rw[Jh];omega
 have hH:=Sc (f.cases'.take k) (f.cases'.getD k []) hT;cases hn:Z0 (f.cases'.getD k []);rw[hn]at hN;have hz:ZbX f=false:=by simp only[ZbX,Vr hka (by simp only[VO,hn,Jf]),Jf]
 simp only[go_sem,h,i1];refine vDq ?_;simp only[go_sem,ZP hka,h,i1];refine vc1 hN ?_;simp only[go_sem,hz];rw[hn]at hN;cases hh:(f.cases'.take k).any (· == f.cases'.getD k []);rw[hh]at hH;have ok:VO f.cases' k=true:=by simp only[VO,hn,hh,JW,Bool.and_self]
 simp only[go_sem,h,i1];refine vDq ?_;simp only[go_sem,ZP hka,h,i1];refine vc1 hN ?_;simp only[go_sem,ZP hka,h,i1,i2,cut,JZ,Dj,ZU];refine vc1 hH ?_;simp only[go_sem,w1];exact⟨⟨k+1,by omega,Zi hall ok⟩,nx9 (by omega),⟨rfl,(Fc2 rfl rfl),fcs ⟨rfl,rfl⟩ fnl,fnl⟩⟩;rw[hh]at hH;have hz:ZbX f=false:=by simp only[ZbX,Vr hka (by simp only[VO,hn,hh,JX,Bool.and_false]),Jf]
 simp only[go_sem,h,i1];refine vDq ?_;simp only[go_sem,ZP hka,h,i1];refine vc1 hN ?_;simp only[go_sem,ZP hka,h,i1,i2,cut,JZ,Dj,ZU];refine vc1 hH ?_;simp only[go_sem,hz];have hc:=DB (l:=f.cases') (λj hj=>hall j (by omega));have hH:=Sc f.cases' f.df hl;by_cases h7:(f.cases'.length:Int)<7;simp only[go_sem,h,h7];refine vc1 hH ?_;simp only[go_sem,ZbX,hc,h7,Jk];simp only[go_sem,h,h7,ZbX,hc,Jk,Jf];have hw':(f.worth !=0)=true:=bne_iff_ne.2 hw;have hx:Y5 f=false:=by
  simp only[Y5,hp,h3,hw,Jk,decide_false,Jf];rfl
 refine Zz func94 rfl ntmps94 results94 ?_;simp only[go_sem,fld];refine vc1 hP ?_;simp only[go_sem,k1,k3,hw',hx];have k3:(f.kind==3)=false:=beq_eq_false_iff_ne.2 h3;have hx:Y5 f=(XI f.at'&&(if f.kind=1 then decide (f.df= [])&&(decide ((f.cases'.length:Int)=0)&&(decide (0<f.worth)&&decide (f.worth<1048577)))else decide (f.worth=0)&&ZkJ f)):=by
  simp only[Y5,h3,if_false]
 rw[hx];refine Zz func94 rfl ntmps94 results94 ?_;simp only[go_sem,fld];refine vc1 hP ?_;simp only[go_sem];repeat' ((first|(first|apply Zl|apply Zj|apply Zp)<;>intro h|refine vDq ?_)<;>first|simp only[go_sem,h,k3]|simp only[go_sem,k3]|skip)
 all_goals (simp_all[ZkJ])
 all_goals (cases f.df<;>simp)
def DL (f:Fd) (s:Str):Bool:=(Y5 f&& !decide (f.kind=1))&&(if f.kind=3 then f.cases'.any (· == s)else decide ((s.length:Int)<41))
open Go.PL Go.PL.Srt
structure SortK {α:Type} (pv:α->PV) (g:FuncId) (lt:α->α->Bool) (cv:α->α->Int):Prop where
 len:∀a,(pv a).cells.length=15
 atom:∀a,(pv a).cells.all PV.atom=Ht
 ids:∀a,(pv a).ids= []
 known:∀a,(pv a).known=Ht
 give:∀a m,(pv a).give m=pv a
 givable:∀a m,(pv a).givable m
 part:∀a,Wo Ht 15 (pv a).cells 0=pv a
 cmp:∀a b,Pp g [pv a,pv b] (.int .i64 (cv a b))
 cv:∀a b,decide (cv a b<0)=lt a b
 good:J4 lt
theorem VC {x:Int} (h0:0<=x) (h1:x<=9223372036854775807):IntKind.i64.wrap x=x:=w64 (by omega)
section
variable {α:Type} [Inhabited α] {pv:α->PV} {g:FuncId} {lt:α->α->Bool} {cv:α->α->Int}
theorem ZbG (K:SortK pv g lt cv) (e:TypeId) (n:Nat) (X L Y:List α) (hU:Unl lt L) (hn:X.length+L.length+Y.length=n) (hm:n<=1000000000000) (r:List PV) (hr:r=(X++(srt lt L++Y)).map pv):
  Eff prog 194 [.vsl 1000 n 15,.int .i64 (X.length:Int),.int .i64 ((X.length+L.length:Nat):Int),.fn g []] (Vn n 15 e ((X++(L++Y)).map pv)) (.tup []) (Vn n 15 e r):=by
 subst hr;have hc:∀l:List α,∀p∈l.map pv,p.ids= []:=λl=>Yo K.ids l
 refine Eff.vw [] func194 (by decide) rfl ntmps194 results194 (by simp) (hc _) (hc _) (by simp[Jj,Jg]) (by simp[Jj,Jg]) λq=> ?_
 have w1:IntKind.i64.wrap ((X.length:Int)+1)=((X.length+1:Nat):Int):=by rw[VC (by omega) (by omega)];rfl
 have klen:=K.len;have kpart:=K.part;have katom:=K.atom;have kknown:=K.known;simp only[go_sem]at klen kpart katom kknown;have one:∀l:List α,srt lt (l.take 1)=l.take 1:=λl=>by cases l<;>rfl
 simp only[go_sem,w1];refine YO (ι:= { k:Nat // 1<=k/\(k<=L.length\/k=1) }) 53 (λx=> [(0,.vsl 1000 n 15),(1,.int .i64 (X.length:Int)),(2,.int .i64 ((X.length+L.length:Nat):Int)),(3,.fn g []),(8,.int .i64 ((X.length+x.1:Nat):Int))]) (λ_=> []) (λ_=> [(1000,.vec n 15 e)]) (λ_=> []) (λ_=> []) (λx=> [(1000,(X++(srt lt (L.take x.1)++(L.drop x.1++Y))).map pv)]) (λ_=> []) [] [(1000,q)] [] (λx=>L.length-x.1) ⟨1,by omega,.inr rfl⟩
  (Ye rfl (Fc5 rfl rfl rfl rfl rfl) rfl (by rw[one,<-Jc (Jr 1 L),Ja];rfl) rfl) (λx=>Xb (by simp[Jj,Jg,Zy]) (Z7 K.ids _)) (λx=> ?_)
 obtain⟨k,hk1,hk2⟩:=x;simp only;by_cases hk:k<L.length
 ·have c1:((X.length+k:Nat):Int)<((X.length+L.length:Nat):Int):=by omega
  have eD:L.drop k=L.getD k Jd::L.drop (k+1):=by rw[JA hk,getD_lt hk]
  have eT:L.take (k+1)=L.take k++ [L.getD k Jd]:=by rw[Jo hk,getD_lt hk]
  have hUk:Unl lt (L.take k++ [L.getD k Jd]):=by rw[<-eT];exact Ju.sublist (List.take_sublist _ _) hU
  have hUt:=(Unl.append.1 hUk).1;have hinc:=VF K.good hUt;have hlenT:(L.take k).length=k:=by rw[Jh];omega
  generalize hx:L.getD k Jd=x at *;generalize hD:L.drop (k+1)=D at *;generalize hs:srt lt (L.take k)=sk at *;have hsl:sk.length=k:=by rw[<-hs,Zx];omega
  rw[eD];simp only[go_sem,c1];refine YO (ι:= { pq:List α×List α // pq.1++pq.2=sk/\ ∀y∈pq.2,lt x y=Ht }) 53 (λy=> [(0,.vsl 1000 n 15),(1,.int .i64 (X.length:Int)),(2,.int .i64 ((X.length+L.length:Nat):Int)),(3,.fn g []),(8,.int .i64 ((X.length+k:Nat):Int)),(9,.int .i64 ((X.length+y.1.1.length:Nat):Int))]) (λ_=> []) (λ_=> [(1000,.vec n 15 e)]) (λ_=> []) (λ_=> []) (λy=> [(1000,(X++(y.1.1++x::(y.1.2++(D++Y)))).map pv)]) (λ_=> []) [] [(1000,q)] [] (λy=>y.1.1.length) ⟨(sk,[]),by simp,by simp⟩
   (Ye rfl (by rw[show(⟨(sk,[]),by simp,by simp⟩: { pq:List α×List α // pq.1++pq.2=sk/\ ∀y∈pq.2,lt x y=Ht }).1.1.length=k from hsl];exact(Fc6 rfl rfl rfl rfl rfl rfl)) rfl (by show Hs _=Hs _;simp) rfl) (λy=>Xb (by simp[Jj,Jg,Zy]) (Z7 K.ids _)) (λy=> ?_)
  obtain⟨⟨A,C⟩,hAC,hC⟩:=y;simp only;have w2:IntKind.i64.wrap (((X.length+k:Nat):Int)+1)=((X.length+(k+1):Nat):Int):=by rw[VC (by omega) (by omega)];omega
  have hLD:L.length=k+1+D.length:=by rw[<-hD,Jq];omega
  have hACl:A.length+C.length=k:=by rw[<-hsl,<-hAC];simp
  have next:∀M:List α,srt lt (L.take (k+1))=M->(X++(M++(D++Y)))=(X++(srt lt (L.take (k+1))++(L.drop (k+1)++Y))):=λM h=>by rw[h,hD]
  have hCx:∀c∈C,lt x c=true:=hC;have fin:(∀p∈A,lt p x=Ht)->srt lt (L.take (k+1))=A++x::C:=λhp=>by
   refine Zfs K.good (by rw[hAC];exact hinc) hp hCx ?_;rw[eT];have p1:(A++x::C).Perm (x::(A++C)):=JF;refine p1.trans ?_;rw[hAC,<-hs];exact((Yx (L.take k)).cons x).trans (JJ (l₁:= [x]))
  rcases List.eq_nil_or_concat A with hA|⟨A',y,hA⟩
  ·subst hA;have fin:=fin (by simp);have e9:X.length+([]:List α).length=X.length:=by simp
   rw[e9];have d1:¬((X.length:Int)<(X.length:Int)):=by omega
   simp only[go_sem,d1];refine vDq ?_;simp only[go_sem,d1,w2];refine⟨⟨k+1,by omega,by omega⟩,nx9 (by omega),Ye rfl (Fc5 rfl rfl rfl rfl rfl) rfl ?_ rfl⟩;show Hs _=Hs _;rw[<-next _ fin];simp
  have hA:A=A'++ [y]:=by simpa using hA
  subst hA;obtain⟨j,hj⟩:∃j,j=X.length+A'.length:=⟨_,rfl⟩;have e9:X.length+(A'++ [y]).length=j+1:=by simp;omega
  simp only[List.length_append,List.length_singleton]at hACl;rw[e9];have el:X++((A'++ [y])++x::(C++(D++Y)))=(X++A')++y::([]++x::(C++(D++Y))):=by simp
  rw[el];generalize hl:(X++A')++y::([]++x::(C++(D++Y)))=l;have hln:l.length=n:=by rw[<-hl];simp;omega
  have g0:(l.map pv).getD j .any=pv y:=by rw[ZQ (by omega),<-hl,YA _ _ _ (by simp;omega)]
  have g1:(l.map pv).getD (j+1) .any=pv x:=by
   rw[ZQ (by omega),<-hl,show(X++A')++y::([]++x::(C++(D++Y)))=(X++A'++ [y])++x::(C++(D++Y))by simp,YA _ _ _ (by simp;omega)]
  have w3:IntKind.i64.wrap (((j+1:Nat):Int)-1)=(j:Int):=by rw[VC (by omega) (by omega)];omega
  have d1:(X.length:Int)<((j+1:Nat):Int):=by omega
  have b1:0<=((j+1:Nat):Int)/\((j+1:Nat):Int)<(n:Int):=by omega
  have b0:0<=(j:Int)/\(j:Int)<(n:Int):=by omega
  have hv:=K.cv x y;simp only[go_sem,d1];refine vDq ?_;simp only[go_sem,d1,w3,b1.1,b1.2,b0.1,b0.2,g0,g1,klen,kpart,hln];refine Z6 (K.cmp x y) ?_ ?_ ?_;simp only[go_sem,K.give,K.givable];simp only[go_sem,K.give,K.givable];by_cases hxy:lt x y=Ht
  ·rw[hxy]at hv;have g2:((l.set (j+1) y).map pv).getD j .any=pv y:=by
    rw[ZQ (by simp;omega),<-ZQ (pv:=pv) (by simp;omega),<-Up,Xj (by omega),g0]
   have es:(l.set (j+1) y).set j x=X++(A'++x::((y::C)++(D++Y))):=by
    have h:=ZbV (X++A') [] (C++(D++Y)) y x (i:=j) (j:=j+1) (by simp;omega) (by simp;omega);rw[hl,ZdQ _ _ _ (by omega) (by omega)]at h;have d0:l.getD j Jd=y:=by rw[<-hl];exact YA _ _ _ (by simp;omega)
    have d1:l.getD (j+1) Jd=x:=by
     rw[<-hl,show(X++A')++y::([]++x::(C++(D++Y)))=(X++A'++ [y])++x::(C++(D++Y))by simp,YA _ _ _ (by simp;omega)]
    unfold swap at h
    rw[d0,d1]at h;rw[h];simp
   simp only[go_sem,hv,of_decide_eq_true hv];refine vDq ?_;simp only[go_sem,w3,b1.1,b1.2,b0.1,b0.2,g0,g1,klen,kpart,katom,kknown,hln,Up,g2,Jy,es];subst hj;exact⟨⟨(A',y::C),by simpa using hAC,λz hz=>by
    rcases List.mem_cons.1 hz with rfl|hz;exact hxy;exact hCx z hz⟩,by show A'.length<(A'++ [y]).length;simp,Ye rfl (Fc6 rfl rfl rfl rfl rfl rfl) rfl rfl rfl⟩
  have hv':¬cv x y<0:=by
   have:lt x y=false:=by simpa using hxy
   rw[this]at hv;simpa using hv
  have hy:y∈L.take k:=by rw[<-ZbU (lt:=lt),hs,<-hAC];simp
  have hyx:lt y x=true:=((Unl.append.1 hUk).2.2 y hy x (by simp)).resolve_right hxy;have hA2:∀p∈A',lt p y=true:=λp hp=>by
   rw[<-hAC]at hinc;exact(Inc.append.1 (Inc.append.1 hinc).1).2.2 p hp y (by simp)
  have fin:=fin λp hp=>by
   rcases List.mem_append.1 hp with hp|hp;exact K.good.trans _ _ _ (hA2 p hp) hyx;simp only[List.mem_singleton]at hp;subst hp;exact hyx
  simp only[go_sem,hv',w2];refine⟨⟨k+1,by omega,by omega⟩,nx9 (by omega),Ye rfl (Fc5 rfl rfl rfl rfl rfl) rfl ?_ rfl⟩;show Hs _=Hs _;rw[<-next _ fin,<-hl];simp
 have c1:¬((X.length+k:Nat):Int)<((X.length+L.length:Nat):Int):=by omega
 have e1:L.take k=L:=List.take_of_length_le (by omega);have e2:L.drop k= []:=List.drop_eq_nil_of_le (by omega);simp only[go_sem,c1];refine Uf (r0:= .tup []) (hc _) rfl (.clean rfl) rfl ?_ rfl;show Hs _=Hs _;rw[e1,e2];simp
end
open Go.PL Go.PL.Srt
section
variable {α:Type} [Inhabited α] {pv:α->PV} {g:FuncId} {lt:α->α->Bool} {cv:α->α->Int}
theorem Xi {l:List α} {i:Nat} (h:i<l.length):l.drop i=l.getD i Jd::l.drop (i+1):=by rw[JA h,getD_lt h]
theorem SS {l:List α} {i:Nat} (h:i<l.length):l.take (i+1)=l.take i++ [l.getD i Jd]:=by rw[Jo h,getD_lt h]
theorem Ur (K:SortK pv g lt cv) (e:TypeId) (n:Nat) (X A B C Y:List α) (hAC:A.length=C.length) (hn:X.length+A.length+B.length+C.length+Y.length=n) (hm:n<=1000000000000) (l0 r:List PV) (hl0:l0=(X++(A++(B++(C++Y)))).map pv) (hr:r=(X++(C++(B++(A++Y)))).map pv) (ia ib ic:Int) (ha:ia=(X.length:Int)) (hb:ib=((X.length+A.length+B.length:Nat):Int)) (hc:ic=(A.length:Int)):
  Eff prog 264 [.vsl 1000 n 15,.int .i64 ia,.int .i64 ib,.int .i64 ic,.fn g []] (Vn n 15 e l0) (.tup []) (Vn n 15 e r):=by
 subst hr hl0 ha hb hc;have hcl:∀l:List α,∀p∈l.map pv,p.ids= []:=λl=>Yo K.ids l
 refine Eff.vw [] func264 (by decide) rfl ntmps264 results264 (by simp) (hcl _) (hcl _) (by simp[Jj,Jg]) (by simp[Jj,Jg]) λq=> ?_
 have klen:=K.len;have kpart:=K.part;have katom:=K.atom;have kknown:=K.known;simp only[go_sem]at klen kpart katom kknown;simp only[go_sem];refine YO (ι:= { i:Nat // i<=A.length }) 38 (λx=> [(0,.vsl 1000 n 15),(1,.int .i64 (X.length:Int)),(2,.int .i64 ((X.length+A.length+B.length:Nat):Int)),(3,.int .i64 (A.length:Int)),(10,.int .i64 (x.1:Int))]) (λ_=> []) (λ_=> [(1000,.vec n 15 e)]) (λ_=> []) (λ_=> []) (λx=> [(1000,(X++(C.take x.1++(A.drop x.1++(B++(A.take x.1++(C.drop x.1++Y)))))).map pv)]) (λ_=> []) [] [(1000,q)] [] (λx=>A.length-x.1) ⟨0,JM _⟩
  (Ye rfl (Fc5 rfl rfl rfl rfl rfl) rfl (by show Hs _=Hs _;simp) rfl) (λx=>Xb (by simp[Jj,Jg,Zy]) (Z7 K.ids _)) (λx=> ?_)
 obtain⟨i,hi⟩:=x;simp only;by_cases hk:i<A.length
 ·have hk':i<C.length:=by omega
  have c1:(i:Int)<(A.length:Int):=by omega
  obtain⟨p,hp⟩:∃p,p=X.length+i:=⟨_,rfl⟩;obtain⟨p2,hp2⟩:∃p2,p2=X.length+A.length+B.length+i:=⟨_,rfl⟩;have w1:IntKind.i64.wrap ((X.length:Int)+(i:Int))=(p:Int):=by rw[VC (by omega) (by omega)];omega
  have w2:IntKind.i64.wrap (((X.length+A.length+B.length:Nat):Int)+(i:Int))=(p2:Int):=by rw[VC (by omega) (by omega)];omega
  have w3:IntKind.i64.wrap ((i:Int)+1)=((i+1:Nat):Int):=by rw[VC (by omega) (by omega)];omega
  have el:X++(C.take i++(A.drop i++(B++(A.take i++(C.drop i++Y)))))=(X++C.take i)++A.getD i Jd::((A.drop (i+1)++(B++A.take i))++C.getD i Jd::(C.drop (i+1)++Y)):=by
   rw[Xi hk,Xi hk'];simp
  have en:X++(C.take (i+1)++(A.drop (i+1)++(B++(A.take (i+1)++(C.drop (i+1)++Y)))))=(X++C.take i)++C.getD i Jd::((A.drop (i+1)++(B++A.take i))++A.getD i Jd::(C.drop (i+1)++Y)):=by
   rw[SS hk,SS hk'];simp
  have hx1:p=(X++C.take i).length:=by simp;omega
  have hx2:p2=(X++C.take i).length+1+(A.drop (i+1)++(B++A.take i)).length:=by simp;omega
  have hlen:((X++C.take i)++A.getD i Jd::((A.drop (i+1)++(B++A.take i))++C.getD i Jd::(C.drop (i+1)++Y))).length=n:=by simp;omega
  rw[el];obtain⟨G,hG⟩:∃G:List α,G=X++(C.take (i+1)++(A.drop (i+1)++(B++(A.take (i+1)++(C.drop (i+1)++Y))))):=⟨_,rfl⟩;rw[<-hG]at en;generalize C.drop (i+1)++Y=Z at hx1 hx2 hlen en ⊢;generalize A.drop (i+1)++(B++A.take i)=M at hx1 hx2 hlen en ⊢;generalize X++C.take i=X' at hx1 hx2 hlen en ⊢;generalize A.getD i Jd=a at hx1 hx2 hlen en ⊢;generalize C.getD i Jd=c at hx1 hx2 hlen en ⊢;have sw:=ZbV X' M Z a c (i:=p) (j:=p2) hx1 hx2;have d0:(X'++a::(M++c::Z)).getD p Jd=a:=YA _ _ _ hx1;have d1:(X'++a::(M++c::Z)).getD p2 Jd=c:=by
   rw[show X'++a::(M++c::Z)=(X'++a::M)++c::Z by simp,YA _ _ _ (by simp;omega)]
  have hpl:p2<n:=by omega
  generalize X'++a::(M++c::Z)=l at sw d0 d1 hlen ⊢;unfold swap at sw
  rw[d0,d1]at sw;have g0:(l.map pv).getD p .any=pv a:=by rw[ZQ (by omega),d0]
  have g1:(l.map pv).getD p2 .any=pv c:=by rw[ZQ (by omega),d1]
  have g2:((l.set p c).map pv).getD p2 .any=pv c:=by
   rw[ZQ (by simp;omega),Xj (by omega),d1]
  have b0:0<=(p:Int)/\(p:Int)<(n:Int):=by omega
  have b1:0<=(p2:Int)/\(p2:Int)<(n:Int):=by omega
  simp only[go_sem,c1];refine vDq ?_;simp only[go_sem,w1,w2,w3,b1.1,b1.2,b0.1,b0.2,g0,g1,klen,kpart,katom,kknown,hlen,Up,g2,Jy,sw];exact⟨⟨i+1,by omega⟩,nx9 (by omega),Ye rfl (Fc5 rfl rfl rfl rfl rfl) rfl (by show Hs _=Hs _;rw[<-en,hG]) rfl⟩
 have c1:¬(i:Int)<(A.length:Int):=by omega
 have hi:i=A.length:=by omega
 subst hi;simp only[go_sem,c1];refine Uf (r0:= .tup []) (hcl _) rfl (.clean rfl) rfl ?_ rfl;show Hs _=Hs _;rw[JR,JS,show C.take A.length=C by rw[hAC,JS],show C.drop A.length= []by rw[hAC,JR]];simp
end
open Go.PL Go.PL.Srt
section
variable {α:Type} [Inhabited α] {pv:α->PV} {g:FuncId} {lt:α->α->Bool} {cv:α->α->Int}
def ZuN (R:List α) (m:Nat) (s:List α×List α×List α×List α):Prop:=s.1++(s.2.2.1++(s.2.1++s.2.2.2))=R/\s.1.length+s.2.1.length=m/\0<s.2.1.length/\0<s.2.2.1.length
theorem Za0 (K:SortK pv g lt cv) (e:TypeId) (n:Nat) (X A B Y:List α) (hA:0<A.length) (hB:0<B.length) (hn:X.length+A.length+B.length+Y.length=n) (hm:n<=1000000000000) (l0 r:List PV) (hl0:l0=(X++(A++(B++Y))).map pv) (hr:r=(X++(B++(A++Y))).map pv) (ia ib ic:Int) (ha:ia=(X.length:Int)) (hb:ib=((X.length+A.length:Nat):Int)) (hc:ic=((X.length+A.length+B.length:Nat):Int)):
  Eff prog 242 [.vsl 1000 n 15,.int .i64 ia,.int .i64 ib,.int .i64 ic,.fn g []] (Vn n 15 e l0) (.tup []) (Vn n 15 e r):=by
 subst hr hl0 ha hb hc;have hcl:∀l:List α,∀p∈l.map pv,p.ids= []:=λl=>Yo K.ids l
 refine Eff.vw [] func242 (by decide) rfl ntmps242 results242 (by simp) (hcl _) (hcl _) (by simp[Jj,Jg]) (by simp[Jj,Jg]) λq=> ?_
 have w1:IntKind.i64.wrap (((X.length+A.length:Nat):Int)-(X.length:Int))=(A.length:Int):=by rw[VC (by omega) (by omega)];omega
 have w2:IntKind.i64.wrap (((X.length+A.length+B.length:Nat):Int)-((X.length+A.length:Nat):Int))=(B.length:Int):=by rw[VC (by omega) (by omega)];omega
 simp only[go_sem,w1,w2];generalize hR:X++(B++(A++Y))=R;generalize hM:X.length+A.length=m;have hRl:R.length=n:=by rw[<-hR];simp;omega
 refine YO (ι:= { s:List α×List α×List α×List α // ZuN R m s }) 58 (λx=> [(0,.vsl 1000 n 15),(2,.int .i64 (m:Int)),(4,.fn g []),(10,.int .i64 (x.1.2.1.length:Int)),(11,.int .i64 (x.1.2.2.1.length:Int))]) (λ_=> []) (λ_=> [(1000,.vec n 15 e)]) (λ_=> []) (λ_=> []) (λx=> [(1000,(x.1.1++(x.1.2.1++(x.1.2.2.1++x.1.2.2.2))).map pv)]) (λ_=> []) [] [(1000,q)] [] (λx=>x.1.2.1.length+x.1.2.2.1.length) ⟨(X,A,B,Y),hR,hM,hA,hB⟩
  (Ye rfl (Fc5 rfl rfl rfl rfl rfl) rfl rfl rfl) (λx=>Xb (by simp[Jj,Jg,Zy]) (Z7 K.ids _)) (λx=> ?_)
 obtain⟨⟨X',A',B',Y'⟩,h1,h2,h3,h4⟩:=x;simp only at h1 h2 h3 h4 ⊢;have hlen:X'.length+A'.length+B'.length+Y'.length=n:=by rw[<-hRl,<-h1];simp;omega
 have w3:IntKind.i64.wrap ((m:Int)-(A'.length:Int))=(X'.length:Int):=by rw[VC (by omega) (by omega)];omega
 by_cases hne:(A'.length:Int)=(B'.length:Int);have hne':A'.length=B'.length:=by omega
 have w4:IntKind.i64.wrap ((m:Int)-(B'.length:Int))=(X'.length:Int):=by rw[<-hne];exact w3
 simp only[go_sem,hne,w4];refine Yy 1000 (Ur K e n X' A' [] B' Y' hne' (by simp;omega) hm _ (R.map pv) (by simp) (by rw[<-h1];simp) _ _ _ rfl (by simp;omega) hne.symm) (by simp[Jj,Jg]) (hcl _) (hcl _) rfl rfl rfl ?_;simp only[go_sem];exact Uf (r0:= .tup []) (hcl _) rfl (.clean rfl) rfl rfl rfl;have hbn:((A'.length:Int) !=(B'.length:Int))=true:=bne_iff_ne.2 hne;by_cases hgt:(B'.length:Int)<(A'.length:Int);have e1:A'.take B'.length++A'.drop B'.length=A':=Ja _ _;have l1:(A'.take B'.length).length=B'.length:=by rw[Jh];omega
 have l2:(A'.drop B'.length).length=A'.length-B'.length:=Jq;generalize A'.take B'.length=A1 at e1 l1;generalize A'.drop B'.length=A2 at e1 l2;subst e1;have w5:IntKind.i64.wrap (((A1++A2).length:Int)-(B'.length:Int))=(A2.length:Int):=by rw[VC (by omega) (by omega)];omega
 simp only[go_sem,hbn,hgt,w3,w5];refine Yy 1000 (Ur K e n X' A1 A2 B' Y' l1 (by simp at hlen;omega) hm _ ((X'++(B'++(A2++(A1++Y')))).map pv) (by simp) rfl _ _ _ rfl (by simp at h2;omega) (by omega)) (by simp[Jj,Jg]) (hcl _) (hcl _) rfl rfl rfl ?_;simp only[go_sem,w5];refine⟨⟨(X'++B',A2,A1,Y'),by simpa using h1,by simp at h2 ⊢;omega,by show 0<A2.length;omega,by show 0<A1.length;omega⟩,by show A2.length+A1.length<(A1++A2).length+B'.length;simp;omega,Ye rfl ?_ rfl (by show Hs _=Hs _;simp) rfl⟩;show ∀x∈ [(0,PV.vsl 1000 n 15),(2,.int .i64 (m:Int)),(4,.fn g []),(10,.int .i64 (A2.length:Int)),(11,.int .i64 (A1.length:Int))],_;rw[l1];exact(Fc5 rfl rfl rfl rfl rfl);have e1:B'.take (B'.length-A'.length)++B'.drop (B'.length-A'.length)=B':=Ja _ _;have l1:(B'.take (B'.length-A'.length)).length=B'.length-A'.length:=by rw[Jh];omega
 have l2:(B'.drop (B'.length-A'.length)).length=A'.length:=by rw[Jq];omega
 generalize B'.take (B'.length-A'.length)=B1 at e1 l1;generalize B'.drop (B'.length-A'.length)=B2 at e1 l2;subst e1;have w5:IntKind.i64.wrap (((B1++B2).length:Int)-(A'.length:Int))=(B1.length:Int):=by rw[VC (by omega) (by omega)];omega
 have w6:IntKind.i64.wrap ((m:Int)+((B1++B2).length:Int))=((m+(B1++B2).length:Nat):Int):=by rw[VC (by omega) (by omega)];omega
 have w7:IntKind.i64.wrap (((m+(B1++B2).length:Nat):Int)-(A'.length:Int))=((m+B1.length:Nat):Int):=by rw[VC (by omega) (by omega)];omega
 simp only[go_sem,hbn,hgt,w3,w6,w7];refine Yy 1000 (Ur K e n X' A' B1 B2 Y' l2.symm (by simp at hlen;omega) hm _ ((X'++(B2++(B1++(A'++Y')))).map pv) (by simp) rfl _ _ _ rfl (by omega) rfl) (by simp[Jj,Jg]) (hcl _) (hcl _) rfl rfl rfl ?_;simp only[go_sem,w5];refine⟨⟨(X',B2,B1,A'++Y'),by simpa using h1,by simp at h2 ⊢;omega,by show 0<B2.length;omega,by show 0<B1.length;omega⟩,by show B2.length+B1.length<A'.length+(B1++B2).length;simp;omega,Ye rfl ?_ rfl (by show Hs _=Hs _;simp) rfl⟩;show ∀x∈ [(0,PV.vsl 1000 n 15),(2,.int .i64 (m:Int)),(4,.fn g []),(10,.int .i64 (B2.length:Int)),(11,.int .i64 (B1.length:Int))],_;rw[l2];exact(Fc5 rfl rfl rfl rfl rfl)
end
open Go.PL Go.PL.Srt
section
variable {α:Type} [Inhabited α] {pv:α->PV} {g:FuncId} {lt:α->α->Bool} {cv:α->α->Int}
theorem DT {a b h:Nat} (hh:h=(a+b) / 2) (hm:a+b<=4000000000000):IntKind.i64.wrap ((IntKind.u64.wrap ((a+b:Nat):Int)).fdiv (2 ^ min 1 64))=(h:Int):=by
 have e1:IntKind.u64.wrap ((a+b:Nat):Int)=((a+b:Nat):Int):=IntWalk.u64_in _ (by omega);have e2:((a+b:Nat):Int).fdiv (2 ^ min 1 64)=(h:Int):=by
  show Int.fdiv ((a+b:Nat):Int) 2=(h:Int);rw[Int.fdiv_eq_ediv_of_nonneg _ (by omega)];omega
 rw[e1,e2,VC (by omega) (by omega)]
theorem ZdR (K:SortK pv g lt cv) (e:TypeId) (n:Nat) (X B Y:List α) (x:α) (hB:Inc lt B) (hU:∀y∈B,lt x y=Ht\/lt y x=Ht) (hB0:0<B.length) (hn:X.length+1+B.length+Y.length=n) (hm:n<=1000000000000) (l0 r:List PV) (hl0:l0=(X++(x::(B++Y))).map pv) (hr:r=(X++(srt lt (x::B)++Y)).map pv) (ia ib ic:Int) (ha:ia=(X.length:Int)) (hb:ib=((X.length+1:Nat):Int)) (hc:ic=((X.length+1+B.length:Nat):Int)):
  Eff prog 195 [.vsl 1000 n 15,.int .i64 ia,.int .i64 ib,.int .i64 ic,.fn g []] (Vn n 15 e l0) (.tup []) (Vn n 15 e r):=by
 subst hr hl0 ha hb hc;have hcl:∀l:List α,∀p∈l.map pv,p.ids= []:=λl=>Yo K.ids l
 refine Eff.vw [] func195 (by decide) rfl ntmps195 results195 (by simp) (hcl _) (hcl _) (by simp[Jj,Jg]) (by simp[Jj,Jg]) λq=> ?_
 have klen:=K.len;have kpart:=K.part;have katom:=K.atom;have kknown:=K.known;simp only[go_sem]at klen kpart katom kknown;have w1:IntKind.i64.wrap (((X.length+1:Nat):Int)-(X.length:Int))=1:=by rw[VC (by omega) (by omega)];omega
 have hl:(X++(x::(B++Y))).length=n:=by simp;omega
 simp only[go_sem,w1];refine YO (ι:= { uv:Nat×Nat // uv.1<=uv.2/\uv.2<=B.length/\(∀t,t<uv.1->lt (B.getD t Jd) x=Ht)/\ ∀t,uv.2<=t->t<B.length->lt x (B.getD t Jd)=Ht }) 220 (λy=> [(0,.vsl 1000 n 15),(1,.int .i64 (X.length:Int)),(4,.fn g []),(10,.int .i64 ((X.length+1+y.1.1:Nat):Int)),(11,.int .i64 ((X.length+1+y.1.2:Nat):Int))]) (λ_=> []) (λ_=> [(1000,.vec n 15 e)]) (λ_=> []) (λ_=> []) (λy=> [(1000,(X++(x::(B++Y))).map pv)]) (λ_=> []) [] [(1000,q)] [] (λy=>y.1.2-y.1.1) ⟨(0,B.length),JM _,Js _,λt h=>absurd h (JV _),λt h1 h2=>absurd h2 (by omega)⟩
  (Ye rfl (Fc5 rfl rfl rfl rfl rfl) rfl rfl rfl) (λx=>Xb (by simp[Jj,Jg,Zy]) (Z7 K.ids _)) (λy=> ?_)
 obtain⟨⟨u,v⟩,h1,h2,h3,h4⟩:=y;simp only at h1 h2 h3 h4 ⊢;by_cases huv:u<v;have c1:((X.length+1+u:Nat):Int)<((X.length+1+v:Nat):Int):=by omega
 have w2:IntKind.i64.wrap (((X.length+1+u:Nat):Int)+((X.length+1+v:Nat):Int))=(((X.length+1+u)+(X.length+1+v):Nat):Int):=by rw[VC (by omega) (by omega)];omega
 obtain⟨d,hd⟩:∃d,d=(u+v) / 2:=⟨_,rfl⟩;have hw:=DT (a:=X.length+1+u) (b:=X.length+1+v) (h:=X.length+1+d) (by omega) (by omega);have hdB:d<B.length:=by omega
 have g0:((X++(x::(B++Y))).map pv).getD X.length .any=pv x:=by rw[ZQ (by omega),YA _ _ _ rfl]
 have g1:((X++(x::(B++Y))).map pv).getD (X.length+1+d) .any=pv (B.getD d Jd):=by
  rw[ZQ (by omega),show X++(x::(B++Y))=(X++x::B.take d)++(B.drop d++Y)by rw[Jc,List.cons_append,<-Jc (Jr d B),Ja],Xi hdB];exact congrArg pv (YA _ _ _ (by simp;omega))
 have b0:0<=(X.length:Int)/\(X.length:Int)<(n:Int):=by omega
 have b1:0<=((X.length+1+d:Nat):Int)/\((X.length+1+d:Nat):Int)<(n:Int):=by omega
 have w3:IntKind.i64.wrap (((X.length+1+d:Nat):Int)+1)=((X.length+1+(d+1):Nat):Int):=by rw[VC (by omega) (by omega)];omega
 have hv:=K.cv (B.getD d Jd) x;simp only[go_sem,c1,w2,hw];refine vDq ?_;simp only[go_sem,b1.1,b1.2,b0.1,b0.2,g0,g1,klen,kpart,hl];refine Z6 (K.cmp (B.getD d Jd) x) ?_ ?_ ?_;simp only[go_sem,K.give,K.givable];simp only[go_sem,K.give,K.givable];by_cases hlt:lt (B.getD d Jd) x=Ht;rw[hlt]at hv;simp only[go_sem,hv,of_decide_eq_true hv,w3];refine⟨⟨(d+1,v),by show d+1<=v;omega,h2,λt ht=> ?_,h4⟩,by show v-(d+1)<v-u;omega,Ye rfl (Fc5 rfl rfl rfl rfl rfl) rfl rfl rfl⟩;have ht:t<d+1:=ht;by_cases e:t=d;subst e;exact hlt;refine K.good.trans _ _ _ ?_ hlt;rw[getD_lt (by omega),getD_lt (by omega)];exact hB.lt_get K.good (by omega) (by omega);have hv':¬cv (B.getD d Jd) x<0:=by
  have:lt (B.getD d Jd) x=false:=by simpa using hlt
  rw[this]at hv;simpa using hv
 have hx:lt x (B.getD d Jd)=true:=by
  rw[getD_lt hdB]at hlt ⊢;exact(hU _ (Jm _)).resolve_right hlt
 simp only[go_sem,hv'];refine⟨⟨(u,d),by show u<=d;omega,by show d<=B.length;omega,h3,λt ht ht2=> ?_⟩,by show d-u<v-u;omega,Ye rfl (Fc5 rfl rfl rfl rfl rfl) rfl rfl rfl⟩;have ht:d<=t:=ht;by_cases e:t=d;subst e;exact hx;refine K.good.trans _ _ _ hx ?_;rw[getD_lt (by omega),getD_lt (by omega)];exact hB.lt_get K.good (by omega) (by omega);have c1:¬((X.length+1+u:Nat):Int)<((X.length+1+v:Nat):Int):=by omega
 have huv:v=u:=by omega
 subst huv;have hs:srt lt (x::B)=B.take v++x::B.drop v:=Zfs K.good (by rw[Ja];exact hB) (λp hp=>by
  obtain⟨t,ht,rfl⟩:=Jl hp;rw[Jh]at ht;have:=h3 t (by omega);rw[getD_lt (by omega)]at this;simpa using this) (λp hp=>by
  obtain⟨t,ht,rfl⟩:=Jl hp;rw[Jq]at ht;have:=h4 (v+t) (by omega) (by omega);rw[getD_lt (by omega)]at this;simpa using this) (by
  refine JF.trans ?_;rw[Ja])
 simp only[go_sem,c1];refine YO (ι:= { t:Nat // t<=v }) 220 (λy=> [(0,.vsl 1000 n 15),(10,.int .i64 ((X.length+1+v:Nat):Int)),(13,.int .i64 ((X.length+y.1:Nat):Int))]) (λ_=> []) (λ_=> [(1000,.vec n 15 e)]) (λ_=> []) (λ_=> []) (λy=> [(1000,(X++(B.take y.1++x::(B.drop y.1++Y))).map pv)]) (λ_=> []) [] [(1000,q)] [] (λy=>v-y.1) ⟨0,JM _⟩
  (Ye rfl (Fc3 rfl rfl rfl) rfl (by show Hs _=Hs _;simp) rfl) (λx=>Xb (by simp[Jj,Jg,Zy]) (Z7 K.ids _)) (λy=> ?_)
 obtain⟨t,ht⟩:=y;simp only;have w5:IntKind.i64.wrap (((X.length+1+v:Nat):Int)-1)=((X.length+v:Nat):Int):=by rw[VC (by omega) (by omega)];omega
 by_cases htv:t<v
 ·have c2:((X.length+t:Nat):Int)<((X.length+v:Nat):Int):=by omega
  have htB:t<B.length:=by omega
  obtain⟨p,hp⟩:∃p,p=X.length+t:=⟨_,rfl⟩;rw[<-hp];rw[<-hp]at c2;have w6:IntKind.i64.wrap ((p:Int)+1)=((p+1:Nat):Int):=by rw[VC (by omega) (by omega)];omega
  have el:X++(B.take t++x::(B.drop t++Y))=(X++B.take t)++x::([]++B.getD t Jd::(B.drop (t+1)++Y)):=by rw[Xi htB];simp
  have en:X++(B.take (t+1)++x::(B.drop (t+1)++Y))=(X++B.take t)++B.getD t Jd::([]++x::(B.drop (t+1)++Y)):=by rw[SS htB];simp
  have sw:=ZbV (X++B.take t) [] (B.drop (t+1)++Y) x (B.getD t Jd) (i:=p) (j:=p+1) (by simp;omega) (by simp;omega);rw[<-en]at sw;have d0:((X++B.take t)++x::([]++B.getD t Jd::(B.drop (t+1)++Y))).getD p Jd=x:=YA _ _ _ (by simp;omega);have d1:((X++B.take t)++x::([]++B.getD t Jd::(B.drop (t+1)++Y))).getD (p+1) Jd=B.getD t Jd:=by
   rw[show(X++B.take t)++x::([]++B.getD t Jd::(B.drop (t+1)++Y))=(X++B.take t++ [x])++B.getD t Jd::(B.drop (t+1)++Y)by simp,YA _ _ _ (by simp;omega)]
  have hlen:((X++B.take t)++x::([]++B.getD t Jd::(B.drop (t+1)++Y))).length=n:=by simp;omega
  rw[el];generalize (X++B.take t)++x::([]++B.getD t Jd::(B.drop (t+1)++Y))=l at sw d0 d1 hlen ⊢;generalize B.getD t Jd=y at sw d0 d1 ⊢;unfold swap at sw
  rw[d0,d1]at sw;have g0:(l.map pv).getD p .any=pv x:=by rw[ZQ (by omega),d0]
  have g1:(l.map pv).getD (p+1) .any=pv y:=by rw[ZQ (by omega),d1]
  have g2:((l.set p y).map pv).getD (p+1) .any=pv y:=by rw[ZQ (by simp;omega),Xj (by omega),d1]
  have b0:0<=(p:Int)/\(p:Int)<(n:Int):=by omega
  have b1:0<=((p+1:Nat):Int)/\((p+1:Nat):Int)<(n:Int):=by omega
  simp only[go_sem,w5,c2];refine vDq ?_;simp only[go_sem,w6,b1.1,b1.2,b0.1,b0.2,g0,g1,klen,kpart,katom,kknown,hlen,Up,g2,Jy,sw];subst hp;exact⟨⟨t+1,by omega⟩,by show v-(t+1)<v-t;omega,Ye rfl (Fc3 rfl rfl rfl) rfl rfl rfl⟩
 have c2:¬((X.length+t:Nat):Int)<((X.length+v:Nat):Int):=by omega
 have htv:t=v:=by omega
 subst htv;simp only[go_sem,w5,c2];refine Uf (r0:= .tup []) (hcl _) rfl (.clean rfl) rfl ?_ rfl;show Hs _=Hs _;rw[hs];simp
end
open Go.PL Go.PL.Srt
section
variable {α:Type} [Inhabited α] {pv:α->PV} {g:FuncId} {lt:α->α->Bool} {cv:α->α->Int}
theorem ZbW (K:SortK pv g lt cv) (e:TypeId) (n:Nat) (X A Y:List α) (x:α) (hA:Inc lt A) (hU:∀y∈A,lt x y=Ht\/lt y x=Ht) (hA0:1<A.length) (hn:X.length+A.length+1+Y.length=n) (hm:n<=1000000000000) (l0 r:List PV) (hl0:l0=(X++(A++(x::Y))).map pv) (hr:r=(X++(srt lt (A++ [x])++Y)).map pv) (ia ib ic:Int) (ha:ia=(X.length:Int)) (hb:ib=((X.length+A.length:Nat):Int)) (hc:ic=((X.length+A.length+1:Nat):Int)):
  Eff prog 195 [.vsl 1000 n 15,.int .i64 ia,.int .i64 ib,.int .i64 ic,.fn g []] (Vn n 15 e l0) (.tup []) (Vn n 15 e r):=by
 subst hr hl0 ha hb hc;have hcl:∀l:List α,∀p∈l.map pv,p.ids= []:=λl=>Yo K.ids l
 refine Eff.vw [] func195 (by decide) rfl ntmps195 results195 (by simp) (hcl _) (hcl _) (by simp[Jj,Jg]) (by simp[Jj,Jg]) λq=> ?_
 have klen:=K.len;have kpart:=K.part;have katom:=K.atom;have kknown:=K.known;simp only[go_sem]at klen kpart katom kknown;have w0:IntKind.i64.wrap (((X.length+A.length:Nat):Int)-(X.length:Int))=(A.length:Int):=by rw[VC (by omega) (by omega)];omega
 have w1:IntKind.i64.wrap (((X.length+A.length+1:Nat):Int)-((X.length+A.length:Nat):Int))=1:=by rw[VC (by omega) (by omega)];omega
 have c0:((A.length:Int)==1)=false:=by simp;omega
 have hl:(X++(A++(x::Y))).length=n:=by simp;omega
 simp only[go_sem,w0,w1,c0];refine YO (ι:= { uv:Nat×Nat // uv.1<=uv.2/\uv.2<=A.length/\(∀t,t<uv.1->lt (A.getD t Jd) x=Ht)/\ ∀t,uv.2<=t->t<A.length->lt x (A.getD t Jd)=Ht }) 220 (λy=> [(0,.vsl 1000 n 15),(2,.int .i64 ((X.length+A.length:Nat):Int)),(4,.fn g []),(14,.int .i64 ((X.length+y.1.1:Nat):Int)),(15,.int .i64 ((X.length+y.1.2:Nat):Int))]) (λ_=> []) (λ_=> [(1000,.vec n 15 e)]) (λ_=> []) (λ_=> []) (λy=> [(1000,(X++(A++(x::Y))).map pv)]) (λ_=> []) [] [(1000,q)] [] (λy=>y.1.2-y.1.1) ⟨(0,A.length),JM _,Js _,λt h=>absurd h (JV _),λt h1 h2=>absurd h2 (by omega)⟩
  (Ye rfl (Fc5 rfl rfl rfl rfl rfl) rfl rfl rfl) (λx=>Xb (by simp[Jj,Jg,Zy]) (Z7 K.ids _)) (λy=> ?_)
 obtain⟨⟨u,v⟩,h1,h2,h3,h4⟩:=y;simp only at h1 h2 h3 h4 ⊢;by_cases huv:u<v;have c1:((X.length+u:Nat):Int)<((X.length+v:Nat):Int):=by omega
 have w2:IntKind.i64.wrap (((X.length+u:Nat):Int)+((X.length+v:Nat):Int))=(((X.length+u)+(X.length+v):Nat):Int):=by rw[VC (by omega) (by omega)];omega
 obtain⟨d,hd⟩:∃d,d=(u+v) / 2:=⟨_,rfl⟩;have hw:=DT (a:=X.length+u) (b:=X.length+v) (h:=X.length+d) (by omega) (by omega);have hdA:d<A.length:=by omega
 have g0:((X++(A++(x::Y))).map pv).getD (X.length+A.length) .any=pv x:=by
  rw[ZQ (by omega),show X++(A++(x::Y))=(X++A)++x::Y by simp];exact congrArg pv (YA _ _ _ (by simp))
 have g1:((X++(A++(x::Y))).map pv).getD (X.length+d) .any=pv (A.getD d Jd):=by
  rw[ZQ (by omega),show X++(A++(x::Y))=(X++A.take d)++(A.drop d++(x::Y))by rw[Jc,<-Jc (Jr d A),Ja],Xi hdA];exact congrArg pv (YA _ _ _ (by simp;omega))
 have b0:0<=((X.length+A.length:Nat):Int)/\((X.length+A.length:Nat):Int)<(n:Int):=by omega
 have b1:0<=((X.length+d:Nat):Int)/\((X.length+d:Nat):Int)<(n:Int):=by omega
 have w3:IntKind.i64.wrap (((X.length+d:Nat):Int)+1)=((X.length+(d+1):Nat):Int):=by rw[VC (by omega) (by omega)];omega
 have hv:=K.cv x (A.getD d Jd);simp only[go_sem,c1,w2,hw];refine vDq ?_;simp only[go_sem,b1.1,b1.2,b0.1,b0.2,g0,g1,klen,kpart,hl];refine Z6 (K.cmp x (A.getD d Jd)) ?_ ?_ ?_;simp only[go_sem,K.give,K.givable];simp only[go_sem,K.give,K.givable];by_cases hlt:lt x (A.getD d Jd)=Ht;rw[hlt]at hv;simp only[go_sem,hv,of_decide_eq_true hv];refine⟨⟨(u,d),by show u<=d;omega,by show d<=A.length;omega,h3,λt ht ht2=> ?_⟩,by show d-u<v-u;omega,Ye rfl (Fc5 rfl rfl rfl rfl rfl) rfl rfl rfl⟩;have ht:d<=t:=ht;by_cases e:t=d;subst e;exact hlt;refine K.good.trans _ _ _ hlt ?_;rw[getD_lt (by omega),getD_lt (by omega)];exact hA.lt_get K.good (by omega) (by omega);have hv':¬cv x (A.getD d Jd)<0:=by
  have:lt x (A.getD d Jd)=false:=by simpa using hlt
  rw[this]at hv;simpa using hv
 have hx:lt (A.getD d Jd) x=true:=by
  rw[getD_lt hdA]at hlt ⊢;exact(hU _ (Jm _)).resolve_left hlt
 simp only[go_sem,hv',w3];refine⟨⟨(d+1,v),by show d+1<=v;omega,h2,λt ht=> ?_,h4⟩,by show v-(d+1)<v-u;omega,Ye rfl (Fc5 rfl rfl rfl rfl rfl) rfl rfl rfl⟩;have ht:t<d+1:=ht;by_cases e:t=d;subst e;exact hx;refine K.good.trans _ _ _ ?_ hx;rw[getD_lt (by omega),getD_lt (by omega)];exact hA.lt_get K.good (by omega) (by omega);have c1:¬((X.length+u:Nat):Int)<((X.length+v:Nat):Int):=by omega
 have huv:v=u:=by omega
 subst huv;have hs:srt lt (A++ [x])=A.take v++x::A.drop v:=Zfs K.good (by rw[Ja];exact hA) (λp hp=>by
  obtain⟨t,ht,rfl⟩:=Jl hp;rw[Jh]at ht;have:=h3 t (by omega);rw[getD_lt (by omega)]at this;simpa using this) (λp hp=>by
  obtain⟨t,ht,rfl⟩:=Jl hp;rw[Jq]at ht;have:=h4 (v+t) (by omega) (by omega);rw[getD_lt (by omega)]at this;simpa using this) (by
  refine JF.trans ?_;rw[Ja];exact JJ (l₁:= [x]))
 simp only[go_sem,c1];refine YO (ι:= { t:Nat // v<=t/\t<=A.length }) 220 (λy=> [(0,.vsl 1000 n 15),(14,.int .i64 ((X.length+v:Nat):Int)),(17,.int .i64 ((X.length+y.1:Nat):Int))]) (λ_=> []) (λ_=> [(1000,.vec n 15 e)]) (λ_=> []) (λ_=> []) (λy=> [(1000,(X++(A.take y.1++x::(A.drop y.1++Y))).map pv)]) (λ_=> []) [] [(1000,q)] [] (λy=>y.1-v) ⟨A.length,h2,Js _⟩
  (Ye rfl (Fc3 rfl rfl rfl) rfl (by show Hs _=Hs _;simp) rfl) (λx=>Xb (by simp[Jj,Jg,Zy]) (Z7 K.ids _)) (λy=> ?_)
 obtain⟨t,ht1,ht2⟩:=y;simp only;by_cases htv:v<t
 ·obtain⟨t,rfl⟩:∃t',t=t'+1:=⟨t-1,by omega⟩;have c2:((X.length+v:Nat):Int)<((X.length+(t+1):Nat):Int):=by omega
  have htA:t<A.length:=by omega
  obtain⟨p,hp⟩:∃p,p=X.length+t:=⟨_,rfl⟩;have ep:X.length+(t+1)=p+1:=by omega
  rw[ep];rw[ep]at c2;have w6:IntKind.i64.wrap (((p+1:Nat):Int)-1)=(p:Int):=by rw[VC (by omega) (by omega)];omega
  have el:X++(A.take (t+1)++x::(A.drop (t+1)++Y))=(X++A.take t)++A.getD t Jd::([]++x::(A.drop (t+1)++Y)):=by rw[SS htA];simp
  have en:X++(A.take t++x::(A.drop t++Y))=(X++A.take t)++x::([]++A.getD t Jd::(A.drop (t+1)++Y)):=by rw[Xi htA];simp
  have sw:=ZbV (X++A.take t) [] (A.drop (t+1)++Y) (A.getD t Jd) x (i:=p) (j:=p+1) (by simp;omega) (by simp;omega);rw[<-en]at sw;have d0:((X++A.take t)++A.getD t Jd::([]++x::(A.drop (t+1)++Y))).getD p Jd=A.getD t Jd:=YA _ _ _ (by simp;omega);have d1:((X++A.take t)++A.getD t Jd::([]++x::(A.drop (t+1)++Y))).getD (p+1) Jd=x:=by
   rw[show(X++A.take t)++A.getD t Jd::([]++x::(A.drop (t+1)++Y))=(X++A.take t++ [A.getD t Jd])++x::(A.drop (t+1)++Y)by simp,YA _ _ _ (by simp;omega)]
  have hlen:((X++A.take t)++A.getD t Jd::([]++x::(A.drop (t+1)++Y))).length=n:=by simp;omega
  rw[el];generalize (X++A.take t)++A.getD t Jd::([]++x::(A.drop (t+1)++Y))=l at sw d0 d1 hlen ⊢;generalize A.getD t Jd=y at sw d0 d1 ⊢;rw[ZdQ _ _ _ (by omega) (by omega)]at sw;unfold swap at sw
  rw[d0,d1]at sw;have g0:(l.map pv).getD p .any=pv y:=by rw[ZQ (by omega),d0]
  have g1:(l.map pv).getD (p+1) .any=pv x:=by rw[ZQ (by omega),d1]
  have g2:((l.set (p+1) y).map pv).getD p .any=pv y:=by rw[ZQ (by simp;omega),Xj (by omega),d0]
  have b0:0<=(p:Int)/\(p:Int)<(n:Int):=by omega
  have b1:0<=((p+1:Nat):Int)/\((p+1:Nat):Int)<(n:Int):=by omega
  simp only[go_sem,c2];refine vDq ?_;simp only[go_sem,w6,b1.1,b1.2,b0.1,b0.2,g0,g1,klen,kpart,katom,kknown,hlen,Up,g2,Jy,sw];subst hp;exact⟨⟨t,by omega,by omega⟩,by show t-v<t+1-v;omega,Ye rfl (Fc3 rfl rfl rfl) rfl rfl rfl⟩
 have c2:¬((X.length+v:Nat):Int)<((X.length+t:Nat):Int):=by omega
 have htv:t=v:=by omega
 subst htv;simp only[go_sem,c2];refine Uf (r0:= .tup []) (hcl _) rfl (.clean rfl) rfl ?_ rfl;show Hs _=Hs _;rw[hs];simp
end
open Go.PL Go.PL.Srt
section
variable {α:Type} [Inhabited α] {pv:α->PV} {g:FuncId} {lt:α->α->Bool} {cv:α->α->Int}
theorem Inc.left {A B:List α} (h:Inc lt (A++B)):Inc lt A:=(Inc.append.1 h).1
theorem Inc.right {A B:List α} (h:Inc lt (A++B)):Inc lt B:=(Inc.append.1 h).2.1
theorem ZgI (gd:J4 lt) {A B:List α} (hA:Inc lt A) (hB:Inc lt B) (hU:Unl lt (A++B)) (s H lo hi:Nat) (c1:lo<=s) (c2:s<=hi) (c3:hi<=H) (c4:hi<=A.length) (c5:H<=lo+B.length) (d1:lo=0\/lo+B.length=H) (d2:hi=H\/hi=A.length)
  (h3:∀t,lo<=t->t<s->lt (A.getD t Jd) (B.getD (H-1-t) Jd)=Ht) (h4:∀t,s<=t->t<hi->lt (B.getD (H-1-t) Jd) (A.getD t Jd)=Ht):
  ∃A1 A2 B1 B2,A=A1++A2/\B=B1++B2/\s=A1.length/\H=A1.length+B1.length/\srt lt (A++B)=srt lt (A1++B1)++srt lt (A2++B2):=by
 refine⟨A.take s,A.drop s,B.take (H-s),B.drop (H-s),(Ja _ _).symm,(Ja _ _).symm,by rw[Jh];omega,by rw[Jh,Jh];omega,?_⟩;refine ZmV gd hA hB hU s (H-s) (by omega) (by omega) (λk1 k2=> ?_) (λk1 k2=> ?_);have:=h3 (s-1) (by omega) (by omega);rw[getD_lt (by omega),getD_lt (by omega)]at this;have e:H-1-(s-1)=H-s:=by omega
 simpa only[e]using this;have:=h4 s (by omega) (by omega);rw[getD_lt (by omega),getD_lt (by omega)]at this;have e:H-1-s=H-s-1:=by omega
 simpa only[e]using this
theorem GY (K:SortK pv g lt cv) (e:TypeId) (n:Nat) (hm:n<=1000000000000) (tot:Nat):∀(X A B Y:List α) (_:A.length+B.length<=tot) (hA:Inc lt A) (hB:Inc lt B) (hU:Unl lt (A++B)) (_:0<A.length) (_:0<B.length) (hn:X.length+A.length+B.length+Y.length=n) (l0 r:List PV) (hl0:l0=(X++(A++(B++Y))).map pv) (hr:r=(X++(srt lt (A++B)++Y)).map pv) (ia ib ic:Int) (ha:ia=(X.length:Int)) (hb:ib=((X.length+A.length:Nat):Int)) (hc:ic=((X.length+A.length+B.length:Nat):Int)),
  Eff prog 195 [.vsl 1000 n 15,.int .i64 ia,.int .i64 ib,.int .i64 ic,.fn g []] (Vn n 15 e l0) (.tup []) (Vn n 15 e r):=by
 induction tot with
 |zero=>intro X A B Y h1 _ _ _ h2;omega
 |succ tot ih=>
 intro X A B Y hT hA hB hU hA0 hB0 hn l0 r hl0 hr ia ib ic ha hb hc;by_cases hA1:A.length=1;obtain⟨x,rfl⟩:=JG.1 hA1;refine ZdR K e n X B Y x hB (λy hy=> ?_) hB0 (by simpa using hn) hm l0 r (by rw[hl0];rfl) (by rw[hr];rfl) ia ib ic ha hb hc;exact(Unl.append.1 hU).2.2 x (by simp) y hy;by_cases hB1:B.length=1;obtain⟨x,rfl⟩:=JG.1 hB1;refine ZbW K e n X A Y x hA (λy hy=> ?_) (by omega) (by simpa using hn) hm l0 r (by rw[hl0];rfl) (by rw[hr]) ia ib ic ha hb hc;exact((Unl.append.1 hU).2.2 y hy x (by simp)).symm;subst hr hl0 ha hb hc;have hcl:∀l:List α,∀p∈l.map pv,p.ids= []:=λl=>Yo K.ids l
 refine Eff.vw [] func195 (by decide) rfl ntmps195 results195 (by simp) (hcl _) (hcl _) (by simp[Jj,Jg]) (by simp[Jj,Jg]) λq=> ?_
 have klen:=K.len;have kpart:=K.part;simp only[go_sem]at klen kpart;obtain⟨H,hH⟩:∃H,H=(A.length+B.length) / 2:=⟨_,rfl⟩;have w0:IntKind.i64.wrap (((X.length+A.length:Nat):Int)-(X.length:Int))=(A.length:Int):=by rw[VC (by omega) (by omega)];omega
 have w1:IntKind.i64.wrap (((X.length+A.length+B.length:Nat):Int)-((X.length+A.length:Nat):Int))=(B.length:Int):=by rw[VC (by omega) (by omega)];omega
 have c0:((A.length:Int)==1)=false:=by simp;omega
 have c1:((B.length:Int)==1)=false:=by simp;omega
 have w2:IntKind.i64.wrap ((X.length:Int)+((X.length+A.length+B.length:Nat):Int))=((X.length+(X.length+A.length+B.length):Nat):Int):=by rw[VC (by omega) (by omega)];omega
 have hw:=DT (a:=X.length) (b:=X.length+A.length+B.length) (h:=X.length+H) (by omega) (by omega);have w3:IntKind.i64.wrap (((X.length+H:Nat):Int)+((X.length+A.length:Nat):Int))=((X.length+H+(X.length+A.length):Nat):Int):=by rw[VC (by omega) (by omega)];omega
 have w4:IntKind.i64.wrap (((X.length+H+(X.length+A.length):Nat):Int)-1)=((X.length+H+(X.length+A.length)-1:Nat):Int):=by rw[VC (by omega) (by omega)];omega
 have hl:(X++(A++(B++Y))).length=n:=by simp;omega
 obtain⟨lo,hi,hlh⟩:∃lo hi,(H<A.length/\lo=H-B.length/\hi=H)\/(A.length<=H/\lo=0/\hi=A.length):=by
  by_cases h:H<A.length;exact⟨_,_,.inl ⟨h,rfl,rfl⟩⟩;exact⟨_,_,.inr ⟨by omega,rfl,rfl⟩⟩
 have w5:H<A.length->IntKind.i64.wrap (((X.length+H+(X.length+A.length):Nat):Int)-((X.length+A.length+B.length:Nat):Int))=((X.length+(H-B.length):Nat):Int):=λh=>by rw[VC (by omega) (by omega)];omega
 have w6:(X.length:Int)=((X.length+0:Nat):Int):=by simp
 have hlh2:=hlh;rcases hlh with ⟨hc,hlo,hhi⟩|⟨hc,hlo,hhi⟩;have c2:((X.length+H:Nat):Int)<((X.length+A.length:Nat):Int):=by omega
 simp only[go_sem,w0,w1,c0,c1,w2,hw,w3,w4,c2,w5 hc];rw[<-hlo];have e1:X.length+H=X.length+hi:=by rw[hhi]
 refine YO (ι:= { uv:Nat×Nat // lo<=uv.1/\uv.1<=uv.2/\uv.2<=hi/\(∀t,lo<=t->t<uv.1->lt (A.getD t Jd) (B.getD (H-1-t) Jd)=Ht)/\ ∀t,uv.2<=t->t<hi->lt (B.getD (H-1-t) Jd) (A.getD t Jd)=Ht }) 220 (λy=> [(0,.vsl 1000 n 15),(1,.int .i64 (X.length:Int)),(2,.int .i64 ((X.length+A.length:Nat):Int)),(3,.int .i64 ((X.length+A.length+B.length:Nat):Int)),(4,.fn g []),(18,.int .i64 ((X.length+H:Nat):Int)),(19,.int .i64 ((X.length+H+(X.length+A.length):Nat):Int)),(20,.int .i64 ((X.length+y.1.1:Nat):Int)),(21,.int .i64 ((X.length+y.1.2:Nat):Int)),(22,.int .i64 ((X.length+H+(X.length+A.length)-1:Nat):Int))]) (λ_=> []) (λ_=> [(1000,.vec n 15 e)]) (λ_=> []) (λ_=> []) (λy=> [(1000,(X++(A++(B++Y))).map pv)]) (λ_=> []) [] [(1000,q)] [] (λy=>y.1.2-y.1.1) ⟨(lo,hi),Js _,by show lo<=hi;omega,Js _,λt h1 h2=>absurd h1 (by have:t<lo:=h2;omega),λt h1 h2=>absurd h2 (by have:hi<=t:=h1;omega)⟩
  (Ye rfl (by subst hhi;exact(Fc10 rfl rfl rfl rfl rfl rfl rfl rfl rfl rfl)) rfl rfl rfl) (λx=>Xb (by simp[Jj,Jg,Zy]) (Z7 K.ids _)) (λy=> ?_)
 obtain⟨⟨u,v⟩,h0,h1,h2,h3,h4⟩:=y;simp only at h0 h1 h2 h3 h4 ⊢;by_cases huv:u<v;have c3:((X.length+u:Nat):Int)<((X.length+v:Nat):Int):=by omega
 have w7:IntKind.i64.wrap (((X.length+u:Nat):Int)+((X.length+v:Nat):Int))=(((X.length+u)+(X.length+v):Nat):Int):=by rw[VC (by omega) (by omega)];omega
 obtain⟨d,hd⟩:∃d,d=(u+v) / 2:=⟨_,rfl⟩;have hw2:=DT (a:=X.length+u) (b:=X.length+v) (h:=X.length+d) (by omega) (by omega);obtain⟨f,hf⟩:∃f,f=H-1-d:=⟨_,rfl⟩;have hdA:d<A.length:=by omega
 have hfB:f<B.length:=by omega
 have w8:IntKind.i64.wrap (((X.length+H+(X.length+A.length)-1:Nat):Int)-((X.length+d:Nat):Int))=((X.length+A.length+f:Nat):Int):=by rw[VC (by omega) (by omega)];omega
 have g0:((X++(A++(B++Y))).map pv).getD (X.length+A.length+f) .any=pv (B.getD f Jd):=by
  rw[ZQ (by omega),show X++(A++(B++Y))=(X++(A++B.take f))++(B.drop f++Y)by rw[Jc,Jc,<-Jc (Jr f B),Ja],Xi hfB];exact congrArg pv (YA _ _ _ (by simp;omega))
 have g1:((X++(A++(B++Y))).map pv).getD (X.length+d) .any=pv (A.getD d Jd):=by
  rw[ZQ (by omega),show X++(A++(B++Y))=(X++A.take d)++(A.drop d++(B++Y))by rw[Jc,<-Jc (Jr d A),Ja],Xi hdA];exact congrArg pv (YA _ _ _ (by simp;omega))
 have b0:0<=((X.length+A.length+f:Nat):Int)/\((X.length+A.length+f:Nat):Int)<(n:Int):=by omega
 have b1:0<=((X.length+d:Nat):Int)/\((X.length+d:Nat):Int)<(n:Int):=by omega
 have w9:IntKind.i64.wrap (((X.length+d:Nat):Int)+1)=((X.length+(d+1):Nat):Int):=by rw[VC (by omega) (by omega)];omega
 have hv:=K.cv (B.getD f Jd) (A.getD d Jd);simp only[go_sem,c3,w7,hw2];refine vDq ?_;simp only[go_sem,w8,b1.1,b1.2,b0.1,b0.2,g0,g1,klen,kpart,hl];refine Z6 (K.cmp (B.getD f Jd) (A.getD d Jd)) ?_ ?_ ?_;simp only[go_sem,K.give,K.givable];simp only[go_sem,K.give,K.givable];have hxy:lt (A.getD d Jd) (B.getD f Jd)=Ht\/lt (B.getD f Jd) (A.getD d Jd)=true:=by
  rw[getD_lt hdA,getD_lt hfB];exact(Unl.append.1 hU).2.2 _ (Jm _) _ (Jm _)
 by_cases hlt:lt (B.getD f Jd) (A.getD d Jd)=Ht;rw[hlt]at hv;simp only[go_sem,hv,of_decide_eq_true hv];refine⟨⟨(u,d),h0,by show u<=d;omega,by show d<=hi;omega,h3,λt ht ht2=> ?_⟩,by show d-u<v-u;omega,Ye rfl (Fc10 rfl rfl rfl rfl rfl rfl rfl rfl rfl rfl) rfl rfl rfl⟩;have ht:d<=t:=ht;by_cases et:t=d;subst et;rw[<-hf];exact hlt;have i1:lt (A.getD d Jd) (A.getD t Jd)=true:=by
  rw[getD_lt (by omega),getD_lt (by omega)];exact hA.lt_get K.good (by omega) (by omega)
 have i2:lt (B.getD (H-1-t) Jd) (B.getD f Jd)=true:=by
  rw[getD_lt (by omega),getD_lt (by omega)];exact hB.lt_get K.good (by omega) (by omega)
 exact K.good.trans _ _ _ i2 (K.good.trans _ _ _ hlt i1);have hv':¬cv (B.getD f Jd) (A.getD d Jd)<0:=by
  have:lt (B.getD f Jd) (A.getD d Jd)=false:=by simpa using hlt
  rw[this]at hv;simpa using hv
 have hx:=hxy.resolve_right hlt;simp only[go_sem,hv',w9];refine⟨⟨(d+1,v),by show lo<=d+1;omega,by show d+1<=v;omega,h2,λt ht1 ht=> ?_,h4⟩,by show v-(d+1)<v-u;omega,Ye rfl (Fc10 rfl rfl rfl rfl rfl rfl rfl rfl rfl rfl) rfl rfl rfl⟩;have ht:t<d+1:=ht;by_cases et:t=d;subst et;rw[<-hf];exact hx;have i1:lt (A.getD t Jd) (A.getD d Jd)=true:=by
  rw[getD_lt (by omega),getD_lt (by omega)];exact hA.lt_get K.good (by omega) (by omega)
 have ht1:lo<=t:=ht1;have i2:lt (B.getD f Jd) (B.getD (H-1-t) Jd)=true:=by
  rw[getD_lt (by omega),getD_lt (by omega)];exact hB.lt_get K.good (by omega) (by omega)
 exact K.good.trans _ _ _ i1 (K.good.trans _ _ _ hx i2)
 ·have c3:¬((X.length+u:Nat):Int)<((X.length+v:Nat):Int):=by omega
  have huv:v=u:=by omega
  subst huv;have hex:=ZgI K.good hA hB hU v H lo hi h0 h2 (by omega) (by omega) (by omega) (by omega) (by omega) h3 h4;obtain⟨A1,A2,B1,B2,eA,eB,l1,l2,hsp⟩:=hex;have lA:A.length=A1.length+A2.length:=by rw[eA];simp
  have lB:B.length=B1.length+B2.length:=by rw[eB];simp
  have iA:Inc lt (A1++A2):=eA▸hA;have iB:Inc lt (B1++B2):=eB▸hB;have iU:Unl lt ((A1++A2)++(B1++B2)):=by rw[<-eA,<-eB];exact hU
  have iU1:Unl lt (A1++B1):=Ju.sublist (JH.append (Jp _ _) (Jp _ _)) iU;have iU2:Unl lt (A2++B2):=Ju.sublist (JH.append (Jn _ _) (Jn _ _)) iU;have el:X++(A++(B++Y))=X++(A1++(A2++(B1++(B2++Y)))):=by rw[eA,eB];simp
  have wE:IntKind.i64.wrap (((X.length+H+(X.length+A.length):Nat):Int)-((X.length+v:Nat):Int))=((X.length+A.length+(H-v):Nat):Int):=by rw[VC (by omega) (by omega)];omega
  by_cases k1:((X.length+v:Nat):Int)<((X.length+A.length:Nat):Int)<;>by_cases k2:((X.length+A.length:Nat):Int)<((X.length+A.length+(H-v):Nat):Int)<;>by_cases k3:(X.length:Int)<((X.length+v:Nat):Int)<;>by_cases k4:((X.length+v:Nat):Int)<((X.length+H:Nat):Int)<;>by_cases k5:((X.length+H:Nat):Int)<((X.length+A.length+(H-v):Nat):Int)<;>by_cases k6:((X.length+A.length+(H-v):Nat):Int)<((X.length+A.length+B.length:Nat):Int)<;>first|(exfalso;omega)|(simp only[go_sem,c3,wE,k1,k2,k3,k4,k5,k6];rw[el])
  all_goals first
   |(refine Yy 1000 (Za0 K e n (X++A1) A2 B1 (B2++Y) (by omega) (by omega) (by simp;omega) hm _ ((X++(A1++(B1++(A2++(B2++Y))))).map pv) (by simp) (by simp) _ _ _ (by simp;omega) (by simp;omega) (by simp;omega)) (by simp[Jj,Jg]) (hcl _) (hcl _) rfl rfl rfl ?_;simp only[go_sem,k1,k2,k3,k4,k5,k6])
   |rw[show X++(A1++(A2++(B1++(B2++Y))))=X++(A1++(B1++(A2++(B2++Y))))from by
     have hz:A2.length=0\/B1.length=0:=by omega
     rcases hz with hz|hz<;>rw[Ji]at hz<;>simp[hz]]
  all_goals first
   |(refine Yy 1000 (ih X A1 B1 (A2++(B2++Y)) (by omega) (Inc.left iA) (Inc.left iB) iU1 (by omega) (by omega) (by simp;omega) _ ((X++(srt lt (A1++B1)++(A2++(B2++Y)))).map pv) rfl rfl _ _ _ rfl (by omega) (by omega)) (by simp[Jj,Jg]) (hcl _) (hcl _) rfl rfl rfl ?_;simp only[go_sem,k1,k2,k3,k4,k5,k6])
   |rw[show X++(A1++(B1++(A2++(B2++Y))))=X++(srt lt (A1++B1)++(A2++(B2++Y)))from by
     have hz:A1.length=0\/B1.length=0:=by omega
     rcases hz with hz|hz<;>rw[Ji]at hz<;>simp[hz,XK K.good (Inc.left iA),XK K.good (Inc.left iB)]]
  all_goals first
   |(refine Yy 1000 (ih (X++srt lt (A1++B1)) A2 B2 Y (by omega) (Inc.right iA) (Inc.right iB) iU2 (by omega) (by omega) (by simp[Zx];omega) _ ((X++(srt lt (A1++B1)++(srt lt (A2++B2)++Y))).map pv) (by simp) (by simp) _ _ _ (by simp[Zx];omega) (by simp[Zx];omega) (by simp[Zx];omega)) (by simp[Jj,Jg]) (hcl _) (hcl _) rfl rfl rfl ?_;simp only[go_sem,k1,k2,k3,k4,k5,k6])
   |rw[show X++(srt lt (A1++B1)++(A2++(B2++Y)))=X++(srt lt (A1++B1)++(srt lt (A2++B2)++Y))from by
     have hz:A2.length=0\/B2.length=0:=by omega
     rcases hz with hz|hz<;>rw[Ji]at hz<;>simp[hz,XK K.good (Inc.right iA),XK K.good (Inc.right iB)]]
  all_goals
   refine Uf (r0:= .tup []) (hcl _) rfl (.clean rfl) rfl ?_ rfl;show Hs _=Hs _;rw[hsp];simp
 have c2:¬((X.length+H:Nat):Int)<((X.length+A.length:Nat):Int):=by omega
 simp only[go_sem,w0,w1,c0,c1,w2,hw,w3,w4,c2];refine YO (ι:= { uv:Nat×Nat // lo<=uv.1/\uv.1<=uv.2/\uv.2<=hi/\(∀t,lo<=t->t<uv.1->lt (A.getD t Jd) (B.getD (H-1-t) Jd)=Ht)/\ ∀t,uv.2<=t->t<hi->lt (B.getD (H-1-t) Jd) (A.getD t Jd)=Ht }) 220 (λy=> [(0,.vsl 1000 n 15),(1,.int .i64 (X.length:Int)),(2,.int .i64 ((X.length+A.length:Nat):Int)),(3,.int .i64 ((X.length+A.length+B.length:Nat):Int)),(4,.fn g []),(18,.int .i64 ((X.length+H:Nat):Int)),(19,.int .i64 ((X.length+H+(X.length+A.length):Nat):Int)),(20,.int .i64 ((X.length+y.1.1:Nat):Int)),(21,.int .i64 ((X.length+y.1.2:Nat):Int)),(22,.int .i64 ((X.length+H+(X.length+A.length)-1:Nat):Int))]) (λ_=> []) (λ_=> [(1000,.vec n 15 e)]) (λ_=> []) (λ_=> []) (λy=> [(1000,(X++(A++(B++Y))).map pv)]) (λ_=> []) [] [(1000,q)] [] (λy=>y.1.2-y.1.1) ⟨(lo,hi),Js _,by show lo<=hi;omega,Js _,λt h1 h2=>absurd h1 (by have:t<lo:=h2;omega),λt h1 h2=>absurd h2 (by have:hi<=t:=h1;omega)⟩
  (Ye rfl (by subst hhi hlo;exact(Fc10 rfl rfl rfl rfl rfl rfl rfl rfl rfl rfl)) rfl rfl rfl) (λx=>Xb (by simp[Jj,Jg,Zy]) (Z7 K.ids _)) (λy=> ?_)
 obtain⟨⟨u,v⟩,h0,h1,h2,h3,h4⟩:=y;simp only at h0 h1 h2 h3 h4 ⊢;by_cases huv:u<v;have c3:((X.length+u:Nat):Int)<((X.length+v:Nat):Int):=by omega
 have w7:IntKind.i64.wrap (((X.length+u:Nat):Int)+((X.length+v:Nat):Int))=(((X.length+u)+(X.length+v):Nat):Int):=by rw[VC (by omega) (by omega)];omega
 obtain⟨d,hd⟩:∃d,d=(u+v) / 2:=⟨_,rfl⟩;have hw2:=DT (a:=X.length+u) (b:=X.length+v) (h:=X.length+d) (by omega) (by omega);obtain⟨f,hf⟩:∃f,f=H-1-d:=⟨_,rfl⟩;have hdA:d<A.length:=by omega
 have hfB:f<B.length:=by omega
 have w8:IntKind.i64.wrap (((X.length+H+(X.length+A.length)-1:Nat):Int)-((X.length+d:Nat):Int))=((X.length+A.length+f:Nat):Int):=by rw[VC (by omega) (by omega)];omega
 have g0:((X++(A++(B++Y))).map pv).getD (X.length+A.length+f) .any=pv (B.getD f Jd):=by
  rw[ZQ (by omega),show X++(A++(B++Y))=(X++(A++B.take f))++(B.drop f++Y)by rw[Jc,Jc,<-Jc (Jr f B),Ja],Xi hfB];exact congrArg pv (YA _ _ _ (by simp;omega))
 have g1:((X++(A++(B++Y))).map pv).getD (X.length+d) .any=pv (A.getD d Jd):=by
  rw[ZQ (by omega),show X++(A++(B++Y))=(X++A.take d)++(A.drop d++(B++Y))by rw[Jc,<-Jc (Jr d A),Ja],Xi hdA];exact congrArg pv (YA _ _ _ (by simp;omega))
 have b0:0<=((X.length+A.length+f:Nat):Int)/\((X.length+A.length+f:Nat):Int)<(n:Int):=by omega
 have b1:0<=((X.length+d:Nat):Int)/\((X.length+d:Nat):Int)<(n:Int):=by omega
 have w9:IntKind.i64.wrap (((X.length+d:Nat):Int)+1)=((X.length+(d+1):Nat):Int):=by rw[VC (by omega) (by omega)];omega
 have hv:=K.cv (B.getD f Jd) (A.getD d Jd);simp only[go_sem,c3,w7,hw2];refine vDq ?_;simp only[go_sem,w8,b1.1,b1.2,b0.1,b0.2,g0,g1,klen,kpart,hl];refine Z6 (K.cmp (B.getD f Jd) (A.getD d Jd)) ?_ ?_ ?_;simp only[go_sem,K.give,K.givable];simp only[go_sem,K.give,K.givable];have hxy:lt (A.getD d Jd) (B.getD f Jd)=Ht\/lt (B.getD f Jd) (A.getD d Jd)=true:=by
  rw[getD_lt hdA,getD_lt hfB];exact(Unl.append.1 hU).2.2 _ (Jm _) _ (Jm _)
 by_cases hlt:lt (B.getD f Jd) (A.getD d Jd)=Ht;rw[hlt]at hv;simp only[go_sem,hv,of_decide_eq_true hv];refine⟨⟨(u,d),h0,by show u<=d;omega,by show d<=hi;omega,h3,λt ht ht2=> ?_⟩,by show d-u<v-u;omega,Ye rfl (Fc10 rfl rfl rfl rfl rfl rfl rfl rfl rfl rfl) rfl rfl rfl⟩;have ht:d<=t:=ht;by_cases et:t=d;subst et;rw[<-hf];exact hlt;have i1:lt (A.getD d Jd) (A.getD t Jd)=true:=by
  rw[getD_lt (by omega),getD_lt (by omega)];exact hA.lt_get K.good (by omega) (by omega)
 have i2:lt (B.getD (H-1-t) Jd) (B.getD f Jd)=true:=by
  rw[getD_lt (by omega),getD_lt (by omega)];exact hB.lt_get K.good (by omega) (by omega)
 exact K.good.trans _ _ _ i2 (K.good.trans _ _ _ hlt i1);have hv':¬cv (B.getD f Jd) (A.getD d Jd)<0:=by
  have:lt (B.getD f Jd) (A.getD d Jd)=false:=by simpa using hlt
  rw[this]at hv;simpa using hv
 have hx:=hxy.resolve_right hlt;simp only[go_sem,hv',w9];refine⟨⟨(d+1,v),by show lo<=d+1;omega,by show d+1<=v;omega,h2,λt ht1 ht=> ?_,h4⟩,by show v-(d+1)<v-u;omega,Ye rfl (Fc10 rfl rfl rfl rfl rfl rfl rfl rfl rfl rfl) rfl rfl rfl⟩;have ht:t<d+1:=ht;by_cases et:t=d;subst et;rw[<-hf];exact hx;have i1:lt (A.getD t Jd) (A.getD d Jd)=true:=by
  rw[getD_lt (by omega),getD_lt (by omega)];exact hA.lt_get K.good (by omega) (by omega)
 have ht1:lo<=t:=ht1;have i2:lt (B.getD f Jd) (B.getD (H-1-t) Jd)=true:=by
  rw[getD_lt (by omega),getD_lt (by omega)];exact hB.lt_get K.good (by omega) (by omega)
 exact K.good.trans _ _ _ i1 (K.good.trans _ _ _ hx i2);have c3:¬((X.length+u:Nat):Int)<((X.length+v:Nat):Int):=by omega
 have huv:v=u:=by omega
 subst huv;have hex:=ZgI K.good hA hB hU v H lo hi h0 h2 (by omega) (by omega) (by omega) (by omega) (by omega) h3 h4;obtain⟨A1,A2,B1,B2,eA,eB,l1,l2,hsp⟩:=hex;have lA:A.length=A1.length+A2.length:=by rw[eA];simp
 have lB:B.length=B1.length+B2.length:=by rw[eB];simp
 have iA:Inc lt (A1++A2):=eA▸hA;have iB:Inc lt (B1++B2):=eB▸hB;have iU:Unl lt ((A1++A2)++(B1++B2)):=by rw[<-eA,<-eB];exact hU
 have iU1:Unl lt (A1++B1):=Ju.sublist (JH.append (Jp _ _) (Jp _ _)) iU;have iU2:Unl lt (A2++B2):=Ju.sublist (JH.append (Jn _ _) (Jn _ _)) iU;have el:X++(A++(B++Y))=X++(A1++(A2++(B1++(B2++Y)))):=by rw[eA,eB];simp
 have wE:IntKind.i64.wrap (((X.length+H+(X.length+A.length):Nat):Int)-((X.length+v:Nat):Int))=((X.length+A.length+(H-v):Nat):Int):=by rw[VC (by omega) (by omega)];omega
 by_cases k1:((X.length+v:Nat):Int)<((X.length+A.length:Nat):Int)<;>by_cases k2:((X.length+A.length:Nat):Int)<((X.length+A.length+(H-v):Nat):Int)<;>by_cases k3:(X.length:Int)<((X.length+v:Nat):Int)<;>by_cases k4:((X.length+v:Nat):Int)<((X.length+H:Nat):Int)<;>by_cases k5:((X.length+H:Nat):Int)<((X.length+A.length+(H-v):Nat):Int)<;>by_cases k6:((X.length+A.length+(H-v):Nat):Int)<((X.length+A.length+B.length:Nat):Int)<;>first|(exfalso;omega)|(simp only[go_sem,c3,wE,k1,k2,k3,k4,k5,k6];rw[el])
 all_goals first
  |(refine Yy 1000 (Za0 K e n (X++A1) A2 B1 (B2++Y) (by omega) (by omega) (by simp;omega) hm _ ((X++(A1++(B1++(A2++(B2++Y))))).map pv) (by simp) (by simp) _ _ _ (by simp;omega) (by simp;omega) (by simp;omega)) (by simp[Jj,Jg]) (hcl _) (hcl _) rfl rfl rfl ?_;simp only[go_sem,k1,k2,k3,k4,k5,k6])
  |rw[show X++(A1++(A2++(B1++(B2++Y))))=X++(A1++(B1++(A2++(B2++Y))))from by
    have hz:A2.length=0\/B1.length=0:=by omega
    rcases hz with hz|hz<;>rw[Ji]at hz<;>simp[hz]]
 all_goals first
  |(refine Yy 1000 (ih X A1 B1 (A2++(B2++Y)) (by omega) (Inc.left iA) (Inc.left iB) iU1 (by omega) (by omega) (by simp;omega) _ ((X++(srt lt (A1++B1)++(A2++(B2++Y)))).map pv) rfl rfl _ _ _ rfl (by omega) (by omega)) (by simp[Jj,Jg]) (hcl _) (hcl _) rfl rfl rfl ?_;simp only[go_sem,k1,k2,k3,k4,k5,k6])
  |rw[show X++(A1++(B1++(A2++(B2++Y))))=X++(srt lt (A1++B1)++(A2++(B2++Y)))from by
    have hz:A1.length=0\/B1.length=0:=by omega
    rcases hz with hz|hz<;>rw[Ji]at hz<;>simp[hz,XK K.good (Inc.left iA),XK K.good (Inc.left iB)]]
 all_goals first
  |(refine Yy 1000 (ih (X++srt lt (A1++B1)) A2 B2 Y (by omega) (Inc.right iA) (Inc.right iB) iU2 (by omega) (by omega) (by simp[Zx];omega) _ ((X++(srt lt (A1++B1)++(srt lt (A2++B2)++Y))).map pv) (by simp) (by simp) _ _ _ (by simp[Zx];omega) (by simp[Zx];omega) (by simp[Zx];omega)) (by simp[Jj,Jg]) (hcl _) (hcl _) rfl rfl rfl ?_;simp only[go_sem,k1,k2,k3,k4,k5,k6])
  |rw[show X++(srt lt (A1++B1)++(A2++(B2++Y)))=X++(srt lt (A1++B1)++(srt lt (A2++B2)++Y))from by
    have hz:A2.length=0\/B2.length=0:=by omega
    rcases hz with hz|hz<;>rw[Ji]at hz<;>simp[hz,XK K.good (Inc.right iA),XK K.good (Inc.right iB)]]
 all_goals
  refine Uf (r0:= .tup []) (hcl _) rfl (.clean rfl) rfl ?_ rfl;show Hs _=Hs _;rw[hsp];simp
end
open Go.Shelf
def Zfk:Go.Shelf.Ren:=⟨λ|190=>123|125=>165|258=>164|128=>217|129=>218|302=>208|303=>209|304=>210|305=>211|306=>212|307=>213|308=>214|309=>215|310=>216|333=>250|329=>251|330=>252|334=>253|335=>254|336=>255|344=>274|n=>n,λ|31=>28|9=>9|3=>3|46=>226|0=>0|51=>271|53=>273|4=>4|183=>263|182=>262|131=>268|5=>5|218=>293|222=>297|228=>317|229=>318|n=>n,λ|n=>n⟩
theorem Zkx:Go.Proofs.Lays.n190 prog Zfk where
 mixed:=by kernel_rfl
 f125:=func165.trans (congrArg Hs (by kernel_rfl))
 f128:=func217.trans (congrArg Hs (by kernel_rfl))
 f129:=func218.trans (congrArg Hs (by kernel_rfl))
 f190:=func123.trans (congrArg Hs (by kernel_rfl))
 f258:=func164.trans (congrArg Hs (by kernel_rfl))
 f302:=func208.trans (congrArg Hs (by kernel_rfl))
 f303:=func209.trans (congrArg Hs (by kernel_rfl))
 f304:=func210.trans (congrArg Hs (by kernel_rfl))
 f305:=func211.trans (congrArg Hs (by kernel_rfl))
 f306:=func212.trans (congrArg Hs (by kernel_rfl))
 f307:=func213.trans (congrArg Hs (by kernel_rfl))
 f308:=func214.trans (congrArg Hs (by kernel_rfl))
 f309:=func215.trans (congrArg Hs (by kernel_rfl))
 f310:=func216.trans (congrArg Hs (by kernel_rfl))
 f329:=func251.trans (congrArg Hs (by kernel_rfl))
 f330:=func252.trans (congrArg Hs (by kernel_rfl))
 f333:=func250.trans (congrArg Hs (by kernel_rfl))
 f334:=func253.trans (congrArg Hs (by kernel_rfl))
 f335:=func254.trans (congrArg Hs (by kernel_rfl))
 f336:=func255.trans (congrArg Hs (by kernel_rfl))
 f344:=func274.trans (congrArg Hs (by kernel_rfl))
 t0:=underlying0
 a0:=isAgg0
 z0:=sizeOf0
 v0:=zeroValue0
 t3:=underlying3
 a3:=isAgg3
 z3:=sizeOf3
 v3:=zeroValue3
 t4:=underlying4
 a4:=isAgg4
 z4:=sizeOf4
 v4:=zeroValue4
 t5:=underlying5
 a5:=isAgg5
 z5:=sizeOf5
 v5:=zeroValue5
 t9:=underlying9
 a9:=isAgg9
 z9:=sizeOf9
 v9:=zeroValue9
 t31:=underlying28
 a31:=isAgg28
 z31:=sizeOf28
 v31:=zeroValue28
 t46:=underlying226
 a46:=isAgg226
 z46:=sizeOf226
 v46:=zeroValue226
 t51:=underlying271
 a51:=isAgg271
 z51:=sizeOf271
 v51:=zeroValue271
 t53:=underlying273
 a53:=isAgg273
 z53:=sizeOf273
 v53:=zeroValue273
 t131:=underlying268
 a131:=isAgg268
 z131:=sizeOf268
 v131:=zeroValue268
 t182:=underlying262
 a182:=isAgg262
 z182:=sizeOf262
 v182:=zeroValue262
 t183:=underlying263
 a183:=isAgg263
 z183:=sizeOf263
 v183:=zeroValue263
 t218:=underlying293
 a218:=isAgg293
 z218:=sizeOf293
 v218:=zeroValue293
 t222:=underlying297
 a222:=isAgg297
 z222:=sizeOf297
 v222:=zeroValue297
 t228:=underlying317
 a228:=isAgg317
 z228:=sizeOf317
 v228:=zeroValue317
 t229:=underlying318
 a229:=isAgg318
 z229:=sizeOf318
 v229:=zeroValue318
def ZeJ:Go.Shelf.Ren:=⟨λ|194=>124|n=>n,λ|31=>28|9=>9|3=>3|4=>4|0=>0|n=>n,λ|n=>n⟩
theorem Zja:Go.Proofs.Lays.n194 prog ZeJ where
 mixed:=by kernel_rfl
 f194:=func124.trans (congrArg Hs (by kernel_rfl))
 t0:=underlying0
 a0:=isAgg0
 z0:=sizeOf0
 v0:=zeroValue0
 t3:=underlying3
 a3:=isAgg3
 z3:=sizeOf3
 v3:=zeroValue3
 t4:=underlying4
 a4:=isAgg4
 z4:=sizeOf4
 v4:=zeroValue4
 t9:=underlying9
 a9:=isAgg9
 z9:=sizeOf9
 v9:=zeroValue9
 t31:=underlying28
 a31:=isAgg28
 z31:=sizeOf28
 v31:=zeroValue28
end Go.Proofs.YtepchngegclagaaGreat
