/- Lemmas of the proof. -/
import Derived.Test.YtepchngegclagaaGreatPlH
import Derived.Test.YtepchngegclagaaGreatProg
import Derived.KernelRfl
import Derived.Shelf.Slices.CompactS
import Derived.Shelf.Sort.Plain
import Derived.Shelf.Slices.In.SortNone
import Derived.Shelf.SlSortCmp.WholeK
open Inhabited renaming default→Jd
open Option renaming some→Hs
open Bool renaming true→Ht,false→Hf
open Go.Proofs.Tryz
open Go Go.PL
open Int renaming natCast_nonneg→Jk
open List renaming getD_eq_getElem?_getD→Ja,findIdx?_eq_some_iff_getElem→Jb,take_succ_eq_append_getElem→Jc,mem_map→Je,map_cons→Jg,getElem?_eq_getElem→Jh,append_nil→Ji,getElem_of_mem→Jj,take→Jq
open Nat renaming lt_or_ge→Jm
open PV renaming didsL→Jf,dids→Jl,idsL→Jn,givableL→Jo,ids→Jp
namespace Go.Proofs.YtepchngegclagaaGreat
set_option maxHeartbeats 64000000
set_option maxRecDepth 20000
set_option linter.unusedVariables false
set_option linter.unusedSimpArgs false
open Go.PL
@[go_sem] theorem Zvp:tkn prog 2=true:=by kernel_rfl
@[go_sem] theorem Zvu:tsz prog 2=1:=by kernel_rfl
@[go_sem] theorem Zt7:Z2 prog 2=false:=by kernel_rfl
@[go_sem] theorem Zvq:tkn prog 3=true:=by kernel_rfl
@[go_sem] theorem Zvv:tsz prog 3=1:=by kernel_rfl
@[go_sem] theorem Zt8:Z2 prog 3=false:=by kernel_rfl
@[go_sem] theorem Zvr:tkn prog 4=true:=by kernel_rfl
@[go_sem] theorem Zvw:tsz prog 4=1:=by kernel_rfl
@[go_sem] theorem Zt9:Z2 prog 4=false:=by kernel_rfl
@[go_sem] theorem Zun:Zes prog 4= .bool:=by kernel_rfl
@[go_sem] theorem Zvs:tkn prog 9=true:=by kernel_rfl
@[go_sem] theorem Zvx:tsz prog 9=1:=by kernel_rfl
@[go_sem] theorem Zua:Z2 prog 9=false:=by kernel_rfl
@[go_sem] theorem Zvo:tix prog 9= .str:=by kernel_rfl
@[go_sem] theorem ZuQ:Zcj prog 9= .str:=by kernel_rfl
@[go_sem] theorem Zuo:tix prog 22= .slc 20 true:=by kernel_rfl
@[go_sem] theorem Ztv:Zcj prog 22= .slc:=by kernel_rfl
@[go_sem] theorem Zse:X2 prog 22=Hs ⟨82,20,264⟩:=by kernel_rfl
@[go_sem] theorem Zuy:tkn prog 23=true:=by kernel_rfl
@[go_sem] theorem ZuR:tsz prog 23=1:=by kernel_rfl
@[go_sem] theorem ZsR:Z2 prog 23=false:=by kernel_rfl
@[go_sem] theorem Zup:tix prog 23= .slc 15 true:=by kernel_rfl
@[go_sem] theorem Ztw:Zcj prog 23= .slc:=by kernel_rfl
@[go_sem] theorem Zsf:X2 prog 23=Hs ⟨48,15,176⟩:=by kernel_rfl
@[go_sem] theorem Zuz:tkn prog 25=true:=by kernel_rfl
@[go_sem] theorem ZuS:tsz prog 25=2:=by kernel_rfl
@[go_sem] theorem ZoP:Z2 prog 25=true:=by kernel_rfl
@[go_sem] theorem Zsu:X8 prog 25=Hs [.int .i64 0,.int .i64 0]:=by kernel_rfl
@[go_sem] theorem ZqQ:Xz prog 25 0=Hs (0,1,Hf):=by kernel_rfl
@[go_sem] theorem ZqR:Xz prog 25 1=Hs (1,1,Hf):=by kernel_rfl
@[go_sem] theorem Zub:tbd prog 25= .str [(0,1),(1,1)] [.int .i64 0,.int .i64 0]:=by kernel_rfl
@[go_sem] theorem ZpW:FM prog 25=Hs [.int,.int]:=by kernel_rfl
@[go_sem] theorem ZuA:tkn prog 27=true:=by kernel_rfl
@[go_sem] theorem ZuT:tsz prog 27=3:=by kernel_rfl
@[go_sem] theorem ZsS:Z2 prog 27=true:=by kernel_rfl
@[go_sem] theorem Zsv:X8 prog 27=Hs [.int .i64 0,.str [],.str []]:=by kernel_rfl
@[go_sem] theorem ZqS:Xz prog 27 0=Hs (0,1,Hf):=by kernel_rfl
@[go_sem] theorem ZqT:Xz prog 27 1=Hs (1,1,Hf):=by kernel_rfl
@[go_sem] theorem ZqU:Xz prog 27 2=Hs (2,1,Hf):=by kernel_rfl
@[go_sem] theorem Zuc:tbd prog 27= .str [(0,1),(1,1),(2,1)] [.int .i64 0,.str [],.str []]:=by kernel_rfl
@[go_sem] theorem ZpX:FM prog 27=Hs [.int,.str,.str]:=by kernel_rfl
@[go_sem] theorem ZuB:tkn prog 28=true:=by kernel_rfl
@[go_sem] theorem ZuU:tsz prog 28=1:=by kernel_rfl
@[go_sem] theorem ZsT:Z2 prog 28=false:=by kernel_rfl
@[go_sem] theorem Zuq:tix prog 28= .slc 1 false:=by kernel_rfl
@[go_sem] theorem Ztx:Zcj prog 28= .slc:=by kernel_rfl
@[go_sem] theorem Zsg:X2 prog 28=Hs ⟨9,1,16⟩:=by kernel_rfl
@[go_sem] theorem ZuC:tkn prog 30=true:=by kernel_rfl
@[go_sem] theorem ZuV:tsz prog 30=7:=by kernel_rfl
@[go_sem] theorem ZsU:Z2 prog 30=true:=by kernel_rfl
@[go_sem] theorem Zsw:X8 prog 30=Hs [.int .i64 0,.str [],.str [],.int .i64 0,.str [],.sl .nil [],.int .i64 0]:=by kernel_rfl
@[go_sem] theorem ZqV:Xz prog 30 0=Hs (0,3,Ht):=by kernel_rfl
@[go_sem] theorem ZqW:Xz prog 30 1=Hs (3,1,Hf):=by kernel_rfl
@[go_sem] theorem ZqX:Xz prog 30 2=Hs (4,1,Hf):=by kernel_rfl
@[go_sem] theorem ZqY:Xz prog 30 3=Hs (5,1,Hf):=by kernel_rfl
@[go_sem] theorem ZqZ:Xz prog 30 4=Hs (6,1,Hf):=by kernel_rfl
@[go_sem] theorem Zud:tbd prog 30= .str [(0,3),(3,1),(4,1),(5,1),(6,1)] [.int .i64 0,.str [],.str [],.int .i64 0,.str [],.sl .nil [],.int .i64 0]:=by kernel_rfl
@[go_sem] theorem ZuD:tkn prog 31=true:=by kernel_rfl
@[go_sem] theorem ZuW:tsz prog 31=1:=by kernel_rfl
@[go_sem] theorem ZsV:Z2 prog 31=false:=by kernel_rfl
@[go_sem] theorem Zur:tix prog 31= .slc 2 true:=by kernel_rfl
@[go_sem] theorem Zty:Zcj prog 31= .slc:=by kernel_rfl
@[go_sem] theorem Zsh:X2 prog 31=Hs ⟨194,2,32⟩:=by kernel_rfl
@[go_sem] theorem ZuE:tkn prog 33=true:=by kernel_rfl
@[go_sem] theorem ZuX:tsz prog 33=16:=by kernel_rfl
@[go_sem] theorem ZsW:Z2 prog 33=true:=by kernel_rfl
@[go_sem] theorem Zsx:X8 prog 33=Hs [.int .i64 0,.int .i64 0,.str [],.str [],.str [],.str [],.int .i64 0,.int .i64 0,.str [],.str [],.int .i64 0,.str [],.sl .nil [],.int .i64 0,.sl .nil [],.sl .nil []]:=by kernel_rfl
@[go_sem] theorem Zq0:Xz prog 33 0=Hs (0,1,Hf):=by kernel_rfl
@[go_sem] theorem Zq1:Xz prog 33 1=Hs (1,3,Ht):=by kernel_rfl
@[go_sem] theorem Zq2:Xz prog 33 2=Hs (4,1,Hf):=by kernel_rfl
@[go_sem] theorem Zq3:Xz prog 33 3=Hs (5,1,Hf):=by kernel_rfl
@[go_sem] theorem Zq4:Xz prog 33 4=Hs (6,1,Hf):=by kernel_rfl
@[go_sem] theorem Zq5:Xz prog 33 5=Hs (7,7,Ht):=by kernel_rfl
@[go_sem] theorem Zq6:Xz prog 33 6=Hs (14,1,Hf):=by kernel_rfl
@[go_sem] theorem Zq7:Xz prog 33 7=Hs (15,1,Hf):=by kernel_rfl
@[go_sem] theorem Zue:tbd prog 33= .str [(0,1),(1,3),(4,1),(5,1),(6,1),(7,7),(14,1),(15,1)] [.int .i64 0,.int .i64 0,.str [],.str [],.str [],.str [],.int .i64 0,.int .i64 0,.str [],.str [],.int .i64 0,.str [],.sl .nil [],.int .i64 0,.sl .nil [],.sl .nil []]:=by kernel_rfl
@[go_sem] theorem ZuF:tkn prog 35=true:=by kernel_rfl
@[go_sem] theorem ZuY:tsz prog 35=26:=by kernel_rfl
@[go_sem] theorem ZoQ:Z2 prog 35=true:=by kernel_rfl
@[go_sem] theorem Zsy:X8 prog 35=Hs [.int .i64 0,.str [],.str [],.int .i64 0,.str [],.str [],.int .i64 0,.str [],.int .i64 0,.int .i64 0,.int .i64 0,.int .i64 0,.str [],.str [],.str [],.str [],.int .i64 0,.int .i64 0,.str [],.str [],.int .i64 0,.str [],.sl .nil [],.int .i64 0,.sl .nil [],.sl .nil []]:=by kernel_rfl
@[go_sem] theorem Zq8:Xz prog 35 0=Hs (0,1,Hf):=by kernel_rfl
@[go_sem] theorem Zq9:Xz prog 35 1=Hs (1,1,Hf):=by kernel_rfl
@[go_sem] theorem Zra:Xz prog 35 2=Hs (2,1,Hf):=by kernel_rfl
@[go_sem] theorem Zrb:Xz prog 35 3=Hs (3,3,Ht):=by kernel_rfl
@[go_sem] theorem Zrc:Xz prog 35 4=Hs (6,1,Hf):=by kernel_rfl
@[go_sem] theorem Zrd:Xz prog 35 5=Hs (7,1,Hf):=by kernel_rfl
@[go_sem] theorem Zuf:tbd prog 35= .str [(0,1),(1,1),(2,1),(3,3),(6,1),(7,1),(8,2),(10,16)] [.int .i64 0,.str [],.str [],.int .i64 0,.str [],.str [],.int .i64 0,.str [],.int .i64 0,.int .i64 0,.int .i64 0,.int .i64 0,.str [],.str [],.str [],.str [],.int .i64 0,.int .i64 0,.str [],.str [],.int .i64 0,.str [],.sl .nil [],.int .i64 0,.sl .nil [],.sl .nil []]:=by kernel_rfl
@[go_sem] theorem ZuG:tkn prog 40=true:=by kernel_rfl
@[go_sem] theorem ZuZ:tsz prog 40=1:=by kernel_rfl
@[go_sem] theorem ZsX:Z2 prog 40=false:=by kernel_rfl
@[go_sem] theorem Zte:Zes prog 40= .ptr:=by kernel_rfl
@[go_sem] theorem Ztf:Zes prog 43= .ptr:=by kernel_rfl
@[go_sem] theorem ZuH:tkn prog 46=true:=by kernel_rfl
@[go_sem] theorem Zu0:tsz prog 46=1:=by kernel_rfl
@[go_sem] theorem ZsY:Z2 prog 46=false:=by kernel_rfl
@[go_sem] theorem Zus:tix prog 46= .slc 2 true:=by kernel_rfl
@[go_sem] theorem Ztz:Zcj prog 46= .slc:=by kernel_rfl
@[go_sem] theorem Zsi:X2 prog 46=Hs ⟨25,2,16⟩:=by kernel_rfl
@[go_sem] theorem ZuI:tkn prog 48=true:=by kernel_rfl
@[go_sem] theorem Zu1:tsz prog 48=15:=by kernel_rfl
@[go_sem] theorem ZoR:Z2 prog 48=true:=by kernel_rfl
@[go_sem] theorem Zsz:X8 prog 48=Hs [.int .i64 0,.int .i64 0,.int .i64 0,.int .i64 0,.int .i64 0,.str [],.int .i64 0,.str [],.int .i64 0,.str [],.str [],.int .i64 0,.bool Hf,.str [],.sl .nil []]:=by kernel_rfl
@[go_sem] theorem Zre:Xz prog 48 0=Hs (0,2,Ht):=by kernel_rfl
@[go_sem] theorem Zrf:Xz prog 48 1=Hs (2,2,Ht):=by kernel_rfl
@[go_sem] theorem Zrg:Xz prog 48 2=Hs (4,1,Hf):=by kernel_rfl
@[go_sem] theorem Zrh:Xz prog 48 3=Hs (5,1,Hf):=by kernel_rfl
@[go_sem] theorem Zri:Xz prog 48 4=Hs (6,1,Hf):=by kernel_rfl
@[go_sem] theorem Zrj:Xz prog 48 5=Hs (7,1,Hf):=by kernel_rfl
@[go_sem] theorem Zrk:Xz prog 48 6=Hs (8,3,Ht):=by kernel_rfl
@[go_sem] theorem Zrl:Xz prog 48 7=Hs (11,1,Hf):=by kernel_rfl
@[go_sem] theorem Zrm:Xz prog 48 8=Hs (12,1,Hf):=by kernel_rfl
@[go_sem] theorem Zrn:Xz prog 48 9=Hs (13,1,Hf):=by kernel_rfl
@[go_sem] theorem ZpV:Xz prog 48 10=Hs (14,1,Hf):=by kernel_rfl
@[go_sem] theorem Zug:tbd prog 48= .str [(0,2),(2,2),(4,1),(5,1),(6,1),(7,1),(8,3),(11,1),(12,1),(13,1),(14,1)] [.int .i64 0,.int .i64 0,.int .i64 0,.int .i64 0,.int .i64 0,.str [],.int .i64 0,.str [],.int .i64 0,.str [],.str [],.int .i64 0,.bool Hf,.str [],.sl .nil []]:=by kernel_rfl
@[go_sem] theorem ZuJ:tkn prog 55=true:=by kernel_rfl
@[go_sem] theorem Zu2:tsz prog 55=1:=by kernel_rfl
@[go_sem] theorem ZsZ:Z2 prog 55=false:=by kernel_rfl
@[go_sem] theorem ZsA:X8 prog 55=Hs [.sl .nil []]:=by kernel_rfl
@[go_sem] theorem Zut:tix prog 55= .slc 7 true:=by kernel_rfl
@[go_sem] theorem ZtA:Zcj prog 55= .slc:=by kernel_rfl
@[go_sem] theorem Zsj:X2 prog 55=Hs ⟨30,7,96⟩:=by kernel_rfl
@[go_sem] theorem ZuK:tkn prog 62=true:=by kernel_rfl
@[go_sem] theorem Zu3:tsz prog 62=6:=by kernel_rfl
@[go_sem] theorem Zs0:Z2 prog 62=true:=by kernel_rfl
@[go_sem] theorem ZsB:X8 prog 62=Hs [.int .i64 0,.int .i64 0,.int .i64 0,.int .i64 0,.int .i64 0,.int .i64 0]:=by kernel_rfl
@[go_sem] theorem Zuu:tix prog 62= .arr 6 1 false:=by kernel_rfl
@[go_sem] theorem Zuh:tbd prog 62= .arr 1 [.int .i64 0,.int .i64 0,.int .i64 0,.int .i64 0,.int .i64 0,.int .i64 0]:=by kernel_rfl
@[go_sem] theorem ZuL:tkn prog 64=true:=by kernel_rfl
@[go_sem] theorem Zu4:tsz prog 64=1:=by kernel_rfl
@[go_sem] theorem Zs1:Z2 prog 64=false:=by kernel_rfl
@[go_sem] theorem Zuv:tix prog 64= .slc 5 true:=by kernel_rfl
@[go_sem] theorem ZtB:Zcj prog 64= .slc:=by kernel_rfl
@[go_sem] theorem Zsk:X2 prog 64=Hs ⟨125,5,72⟩:=by kernel_rfl
@[go_sem] theorem ZuM:tkn prog 65=true:=by kernel_rfl
@[go_sem] theorem Zu5:tsz prog 65=1:=by kernel_rfl
@[go_sem] theorem Zs2:Z2 prog 65=false:=by kernel_rfl
@[go_sem] theorem Zuw:tix prog 65= .slc 2 true:=by kernel_rfl
@[go_sem] theorem ZtC:Zcj prog 65= .slc:=by kernel_rfl
@[go_sem] theorem Zsl:X2 prog 65=Hs ⟨142,2,40⟩:=by kernel_rfl
@[go_sem] theorem ZuN:tkn prog 67=true:=by kernel_rfl
@[go_sem] theorem Zu6:tsz prog 67=2:=by kernel_rfl
@[go_sem] theorem Zs3:Z2 prog 67=true:=by kernel_rfl
@[go_sem] theorem ZsC:X8 prog 67=Hs [.sl .nil [],.sl .nil []]:=by kernel_rfl
@[go_sem] theorem Zro:Xz prog 67 0=Hs (0,1,Hf):=by kernel_rfl
@[go_sem] theorem Zrp:Xz prog 67 1=Hs (1,1,Hf):=by kernel_rfl
@[go_sem] theorem Zui:tbd prog 67= .str [(0,1),(1,1)] [.sl .nil [],.sl .nil []]:=by kernel_rfl
@[go_sem] theorem Zux:tix prog 79= .slc 26 true:=by kernel_rfl
@[go_sem] theorem ZtD:Zcj prog 79= .slc:=by kernel_rfl
@[go_sem] theorem Zsm:X2 prog 79=Hs ⟨35,26,352⟩:=by kernel_rfl
@[go_sem] theorem ZuO:tkn prog 82=true:=by kernel_rfl
@[go_sem] theorem Zu7:tsz prog 82=20:=by kernel_rfl
@[go_sem] theorem ZoS:Z2 prog 82=true:=by kernel_rfl
@[go_sem] theorem ZsD:X8 prog 82=Hs [.int .i64 0,.int .i64 0,.int .i64 0,.int .i64 0,.int .i64 0,.int .i64 0,.str [],.str [],.str [],.str [],.int .i64 0,.int .i64 0,.str [],.str [],.int .i64 0,.str [],.sl .nil [],.int .i64 0,.sl .nil [],.sl .nil []]:=by kernel_rfl
@[go_sem] theorem Zrq:Xz prog 82 0=Hs (0,2,Ht):=by kernel_rfl
@[go_sem] theorem Zrr:Xz prog 82 1=Hs (2,2,Ht):=by kernel_rfl
@[go_sem] theorem Zrs:Xz prog 82 2=Hs (4,16,Ht):=by kernel_rfl
@[go_sem] theorem Zuj:tbd prog 82= .str [(0,2),(2,2),(4,16)] [.int .i64 0,.int .i64 0,.int .i64 0,.int .i64 0,.int .i64 0,.int .i64 0,.str [],.str [],.str [],.str [],.int .i64 0,.int .i64 0,.str [],.str [],.int .i64 0,.str [],.sl .nil [],.int .i64 0,.sl .nil [],.sl .nil []]:=by kernel_rfl
@[go_sem] theorem ZuP:tkn prog 94=true:=by kernel_rfl
@[go_sem] theorem Zu8:tsz prog 94=31:=by kernel_rfl
@[go_sem] theorem Zs4:Z2 prog 94=true:=by kernel_rfl
@[go_sem] theorem ZsE:X8 prog 94=Hs [.nilp,.int .i64 0,.int .i64 0,.sl .nil [],.sl .nil [],.int .i64 0,.str [],.str [],.int .i64 0,.str [],.str [],.int .i64 0,.str [],.int .i64 0,.int .i64 0,.int .i64 0,.int .i64 0,.str [],.str [],.str [],.str [],.int .i64 0,.int .i64 0,.str [],.str [],.int .i64 0,.str [],.sl .nil [],.int .i64 0,.sl .nil [],.sl .nil []]:=by kernel_rfl
@[go_sem] theorem Zrt:Xz prog 94 0=Hs (0,1,Hf):=by kernel_rfl
@[go_sem] theorem Zru:Xz prog 94 1=Hs (1,2,Ht):=by kernel_rfl
@[go_sem] theorem Zrv:Xz prog 94 2=Hs (3,1,Hf):=by kernel_rfl
@[go_sem] theorem Zrw:Xz prog 94 3=Hs (4,1,Hf):=by kernel_rfl
@[go_sem] theorem Zrx:Xz prog 94 4=Hs (5,26,Ht):=by kernel_rfl
@[go_sem] theorem Zuk:tbd prog 94= .str [(0,1),(1,2),(3,1),(4,1),(5,26)] [.nilp,.int .i64 0,.int .i64 0,.sl .nil [],.sl .nil [],.int .i64 0,.str [],.str [],.int .i64 0,.str [],.str [],.int .i64 0,.str [],.int .i64 0,.int .i64 0,.int .i64 0,.int .i64 0,.str [],.str [],.str [],.str [],.int .i64 0,.int .i64 0,.str [],.str [],.int .i64 0,.str [],.sl .nil [],.int .i64 0,.sl .nil [],.sl .nil []]:=by kernel_rfl
@[go_sem] theorem Ztl:tkn prog 110=true:=by kernel_rfl
@[go_sem] theorem ZtE:tsz prog 110=23:=by kernel_rfl
@[go_sem] theorem Zr6:Z2 prog 110=true:=by kernel_rfl
@[go_sem] theorem ZrB:X8 prog 110=Hs [.int .i64 0,.int .i64 0,.int .i64 0,.int .i64 0,.int .i64 0,.int .i64 0,.str [],.str [],.str [],.str [],.int .i64 0,.int .i64 0,.str [],.str [],.int .i64 0,.str [],.sl .nil [],.int .i64 0,.sl .nil [],.sl .nil [],.int .i64 0,.sl .nil [],.int .i64 0]:=by kernel_rfl
@[go_sem] theorem ZpG:Xz prog 110 0=Hs (0,20,Ht):=by kernel_rfl
@[go_sem] theorem ZpH:Xz prog 110 1=Hs (20,1,Hf):=by kernel_rfl
@[go_sem] theorem ZpI:Xz prog 110 2=Hs (21,1,Hf):=by kernel_rfl
@[go_sem] theorem ZpJ:Xz prog 110 3=Hs (22,1,Hf):=by kernel_rfl
@[go_sem] theorem Zs5:tbd prog 110= .str [(0,20),(20,1),(21,1),(22,1)] [.int .i64 0,.int .i64 0,.int .i64 0,.int .i64 0,.int .i64 0,.int .i64 0,.str [],.str [],.str [],.str [],.int .i64 0,.int .i64 0,.str [],.str [],.int .i64 0,.str [],.sl .nil [],.int .i64 0,.sl .nil [],.sl .nil [],.int .i64 0,.sl .nil [],.int .i64 0]:=by kernel_rfl
@[go_sem] theorem Ztm:tkn prog 116=true:=by kernel_rfl
@[go_sem] theorem ZtF:tsz prog 116=6:=by kernel_rfl
@[go_sem] theorem Zr7:Z2 prog 116=true:=by kernel_rfl
@[go_sem] theorem Ztg:tix prog 116= .arr 6 1 false:=by kernel_rfl
@[go_sem] theorem ZpK:Xz prog 118 0=Hs (0,6,Ht):=by kernel_rfl
@[go_sem] theorem Zs6:tbd prog 118= .str [(0,6)] [.sl .nil [],.sl .nil [],.sl .nil [],.sl .nil [],.sl .nil [],.sl .nil []]:=by kernel_rfl
@[go_sem] theorem Ztn:tkn prog 125=true:=by kernel_rfl
@[go_sem] theorem ZtG:tsz prog 125=5:=by kernel_rfl
@[go_sem] theorem Zr8:Z2 prog 125=true:=by kernel_rfl
@[go_sem] theorem ZrC:X8 prog 125=Hs [.int .i64 0,.str [],.str [],.int .i64 0,.sl .nil []]:=by kernel_rfl
@[go_sem] theorem ZpL:Xz prog 125 0=Hs (0,3,Ht):=by kernel_rfl
@[go_sem] theorem ZpM:Xz prog 125 1=Hs (3,1,Hf):=by kernel_rfl
@[go_sem] theorem ZpN:Xz prog 125 2=Hs (4,1,Hf):=by kernel_rfl
@[go_sem] theorem Zs7:tbd prog 125= .str [(0,3),(3,1),(4,1)] [.int .i64 0,.str [],.str [],.int .i64 0,.sl .nil []]:=by kernel_rfl
@[go_sem] theorem Zto:tkn prog 133=true:=by kernel_rfl
@[go_sem] theorem ZtH:tsz prog 133=1:=by kernel_rfl
@[go_sem] theorem Zr9:Z2 prog 133=false:=by kernel_rfl
@[go_sem] theorem ZrD:X8 prog 133=Hs [.nilmap]:=by kernel_rfl
@[go_sem] theorem Zsr:Zm8 prog 133=Hs ([.str,.int,.str,.str],.sl .nil []):=by kernel_rfl
@[go_sem] theorem Ztp:tkn prog 136=true:=by kernel_rfl
@[go_sem] theorem ZtI:tsz prog 136=4:=by kernel_rfl
@[go_sem] theorem Zsa:Z2 prog 136=true:=by kernel_rfl
@[go_sem] theorem ZrE:X8 prog 136=Hs [.str [],.int .i64 0,.str [],.str []]:=by kernel_rfl
@[go_sem] theorem Zs8:tbd prog 136= .str [(0,1),(1,3)] [.str [],.int .i64 0,.str [],.str []]:=by kernel_rfl
@[go_sem] theorem ZpO:Xz prog 142 0=Hs (0,1,Hf):=by kernel_rfl
@[go_sem] theorem ZpP:Xz prog 142 1=Hs (1,1,Hf):=by kernel_rfl
@[go_sem] theorem Zs9:tbd prog 142= .str [(0,1),(1,1)] [.str [],.sl .nil []]:=by kernel_rfl
@[go_sem] theorem Zss:Zm8 prog 146=Hs ([.int,.int],.agg []):=by kernel_rfl
@[go_sem] theorem Ztq:tkn prog 147=true:=by kernel_rfl
@[go_sem] theorem ZtJ:tsz prog 147=0:=by kernel_rfl
@[go_sem] theorem ZrF:X8 prog 147=Hs []:=by kernel_rfl
@[go_sem] theorem Zta:tbd prog 147= .str [] []:=by kernel_rfl
@[go_sem] theorem Ztr:tkn prog 149=true:=by kernel_rfl
@[go_sem] theorem ZtK:tsz prog 149=1:=by kernel_rfl
@[go_sem] theorem Zsb:Z2 prog 149=false:=by kernel_rfl
@[go_sem] theorem Zsn:Zes prog 149= .map:=by kernel_rfl
@[go_sem] theorem Zry:ZfL prog 149=true:=by kernel_rfl
@[go_sem] theorem Zst:Zm8 prog 149=Hs ([.int,.int],.agg [.int .i64 0,.int .i64 0,.int .i64 0,.int .i64 0,.int .i64 0,.int .i64 0,.str [],.str [],.str [],.str [],.int .i64 0,.int .i64 0,.str [],.str [],.int .i64 0,.str [],.sl .nil [],.int .i64 0,.sl .nil [],.sl .nil [],.int .i64 0,.sl .nil [],.int .i64 0]):=by kernel_rfl
@[go_sem] theorem ZpQ:Xz prog 151 0=Hs (0,1,Hf):=by kernel_rfl
@[go_sem] theorem Ztb:tbd prog 151= .str [(0,1)] [.nilmap]:=by kernel_rfl
@[go_sem] theorem Zts:tkn prog 194=true:=by kernel_rfl
@[go_sem] theorem ZtL:tsz prog 194=2:=by kernel_rfl
@[go_sem] theorem Zm5:Z2 prog 194=true:=by kernel_rfl
@[go_sem] theorem ZrG:X8 prog 194=Hs [.str [],.str []]:=by kernel_rfl
@[go_sem] theorem ZpR:Xz prog 194 0=Hs (0,1,Hf):=by kernel_rfl
@[go_sem] theorem ZpS:Xz prog 194 1=Hs (1,1,Hf):=by kernel_rfl
@[go_sem] theorem ZoU:FM prog 194=Hs [.str,.str]:=by kernel_rfl
@[go_sem] theorem Zth:tix prog 237= .slc 3 true:=by kernel_rfl
@[go_sem] theorem Zso:Zcj prog 237= .slc:=by kernel_rfl
@[go_sem] theorem ZqN:X2 prog 237=Hs ⟨27,3,40⟩:=by kernel_rfl
@[go_sem] theorem Zti:tix prog 246= .slc 16 true:=by kernel_rfl
@[go_sem] theorem Zsp:Zcj prog 246= .slc:=by kernel_rfl
@[go_sem] theorem ZqO:X2 prog 246=Hs ⟨33,16,232⟩:=by kernel_rfl
@[go_sem] theorem Ztj:tix prog 281= .slc 3 true:=by kernel_rfl
@[go_sem] theorem Zsq:Zcj prog 281= .slc:=by kernel_rfl
@[go_sem] theorem ZqP:X2 prog 281=Hs ⟨287,3,24⟩:=by kernel_rfl
@[go_sem] theorem Ztt:tkn prog 287=true:=by kernel_rfl
@[go_sem] theorem ZtM:tsz prog 287=3:=by kernel_rfl
@[go_sem] theorem Zsc:Z2 prog 287=true:=by kernel_rfl
@[go_sem] theorem ZrH:X8 prog 287=Hs [.int .i64 0,.int .i64 0,.bool Hf]:=by kernel_rfl
@[go_sem] theorem ZpT:Xz prog 287 0=Hs (0,2,Ht):=by kernel_rfl
@[go_sem] theorem ZpU:Xz prog 287 1=Hs (2,1,Hf):=by kernel_rfl
@[go_sem] theorem Ztc:tbd prog 287= .str [(0,2),(2,1)] [.int .i64 0,.int .i64 0,.bool Hf]:=by kernel_rfl
@[go_sem] theorem Ztu:tkn prog 314=true:=by kernel_rfl
@[go_sem] theorem ZtN:tsz prog 314=2:=by kernel_rfl
@[go_sem] theorem Zsd:Z2 prog 314=true:=by kernel_rfl
@[go_sem] theorem ZrI:X8 prog 314=Hs [.flt .f64 0,.flt .f64 0]:=by kernel_rfl
@[go_sem] theorem Ztk:tix prog 314= .arr 2 1 false:=by kernel_rfl
@[go_sem] theorem Ztd:tbd prog 314= .arr 1 [.flt .f64 0,.flt .f64 0]:=by kernel_rfl
@[go_sem] theorem ZqM:tcv prog 3 226= .int .u64:=by kernel_rfl
@[go_sem] theorem ZqL:tcv prog 226 3= .int .i64:=by kernel_rfl
open Go.PL
attribute [go_sem] reduceIte Nat.reduceEqDiff reduceCtorEq Nat.reduceLT Nat.reduceAdd Nat.reduceSub Nat.reduceMul Nat.reduceLeDiff Int.reduceLT Int.reduceLE Int.reduceToNat Int.reduceEq Int.reduceAdd Int.reduceSub Int.reduceNeg Int.reduceBNe Int.reduceBEq
attribute [go_sem] true_or or_true List.getElem?_cons_zero List.getElem?_cons_succ List.getElem?_nil decide_true decide_false Bool.not_true Bool.not_false imp_self false_implies true_implies List.all_cons List.all_nil Bool.and_true Bool.false_eq_true Nat.zero_add Nat.add_zero Option.some.injEq true_and and_true List.getD_cons_zero List.getD_cons_succ List.length_cons List.length_nil ne_eq not_false_eq_true implies_true and_self Jq List.drop Jg List.map_nil List.reverse_cons List.reverse_nil List.nil_append PV.bool.injEq List.length_map Int.toNat_natCast Nat.mul_one beq_self_eq_true bne_self_eq_false Bool.or_self Bool.false_or Bool.true_or Bool.or_true Bool.or_false
theorem mxo:prog.follows .mixedOrders=true:=by kernel_rfl
theorem vDq {id:Nat} {l:List Oper} {Q:Exit->St->Prop} {s:St} (h:@vA prog Hf ⟨@vQ ⟨Q⟩ .normal⟩ ⟨l⟩ ⟨l⟩ s) (hB:Zjk l.toArray=true:=by kernel_rfl):awp prog (.region id l.toArray Ht) Q s:=ZnV mxo hB h
abbrev Pp:=PL.Pure prog
theorem ZF {f:FuncId} {fn:Func} {c:Code} {args:List PV} {r:PV} {n:Nat} {rs:List ResultVar} (hf:prog.funcs[f]? = Hs fn) (hb:fn.body=Hs c) (hn:fn.ntmps=n) (hrs:fn.results=rs.toArray) (h:@vC prog ⟨c⟩ ⟨Zel prog rs r⟩ (St.init args n)) (hi:r.dids= []:=by rfl) (hname:fn.name≠ "runtime.NumGoroutine" :=by decide) (hl:args.length<=n:=by simp):Pp f args r:=pov hf hname hb hn hrs hl hi h
theorem ZM {f:FuncId} {fn:Func} {c:Code} {args:List PV} {r:PV} {n:Nat} {rs:List ResultVar} (hf:prog.funcs[f]? = Hs fn) (hb:fn.body=Hs c) (hn:fn.ntmps=n) (hrs:fn.results=rs.toArray) (hi:r.dids= []) (h:@vC prog ⟨c⟩ ⟨Zel prog rs r⟩ (St.init args n)) (hname:fn.name≠ "runtime.NumGoroutine" :=by decide) (hl:args.length<=n:=by simp):Pp f args r:=pov hf hname hb hn hrs hl hi h
theorem w64 {x:Int} (h: -9223372036854775808<=x/\x<=9223372036854775807):IntKind.i64.wrap x=x:=IntWalk.i64_in _ (by omega)
theorem nx9 {n k:Nat} (h:k<n):n-(k+1)<n-k:=by omega
theorem wk9 {k:Nat} (h:(k:Int)<9223372036854775807):IntKind.i64.wrap ((k:Int)+1)=((k+1:Nat):Int):=by
 rw[w64 (by omega)];rfl
theorem Zd:maxLen=9223372036854775807:=by decide
theorem Vt {k n:Nat} (h:k<n) (hn:n<=maxLen):IntKind.i64.wrap ((k:Int)+1)=((k+1:Nat):Int):=by
 rw[Zd]at hn;rw[w64 (by omega)];rfl
abbrev Str:=List UInt8
structure Rf where
 sc:Int
 gr:Str
 nm:Str
 deriving DecidableEq,Inhabited
structure En where
 at':Rf
 n:Int
 l:List Str
 deriving DecidableEq,Inhabited
structure Rw where
 item:Str
 l:List En
 deriving DecidableEq,Inhabited
structure Dc where
 head:List En
 rows:List Rw
 deriving DecidableEq,Inhabited
def Xd (l:List Str):PV:= .sl .no (l.map .str)
def ref (r:Rf):PV:= .agg [.int .i64 r.sc,.str r.gr,.str r.nm]
def ent (e:En):PV:= .agg [.int .i64 e.at'.sc,.str e.at'.gr,.str e.at'.nm,.int .i64 e.n,.sl .no (e.l.map .str)]
def UM (l:List En):PV:= .sl .no (l.map ent)
def row (r:Rw):PV:= .agg [.str r.item,.sl .no (r.l.map ent)]
def doc (d:Dc):PV:= .agg [.sl .no (d.head.map ent),.sl .no (d.rows.map row)]
theorem vc1 {x:Bool} {M:KH} {g:FuncId} {args args':List PV} {K:KR} {r:PV} (h1:PL.Pure prog g args' r) (h2:K.k r M.m) (h0:Jo M.m args:=by first|(simp only[go_sem,ref,ent,UM,doc,Xd,row];done)|exact rfl) (he:PV.giveL M.m args=args':=by first|(simp only[go_sem,ref,ent,UM,doc,Xd,row];done)|exact rfl):@Vr prog x M (Hs (g,args)) K:=Zk h1 h0 he h2
theorem ZD (a b:Rf):(a.sc==b.sc&&(a.gr==b.gr&&a.nm==b.nm))=decide (a=b):=by
 cases a;cases b;rw[Bool.eq_iff_iff];simp
theorem ZY {l:List Str} {i:Nat} (h:i<l.length):(l.map PV.str).getD i .any= .str (l.getD i []):=by
 simp[Ja,h]
theorem VC {l:List En} {i:Nat} (h:i<l.length):(l.map ent).getD i .any=ent (l.getD i Jd):=by
 simp[Ja,h]
theorem Tr {l:List Rw} {i:Nat} (h:i<l.length):(l.map row).getD i .any=row (l.getD i Jd):=by
 simp[Ja,h]
theorem Zy {α:Type} {l:List α} {i:Nat} {d:α} (h:i<l.length):l.getD i d∈l:=by
 rw[Ja,Jh h];exact List.getElem_mem h
theorem XJ {α:Type} {a b:List α} {d:α} (hl:a.length=b.length) (h:∀j,j<a.length->a.getD j d=b.getD j d):a=b:=by
 apply List.ext_getElem hl;intro i h1 h2;have:=h i h1;simpa[Ja,h1,h2]using this
theorem WU {α:Type} {a b:List α} {d:α} {j:Nat} (h:a.getD j d≠b.getD j d):a≠b:=λe=>h (by rw[e])
theorem Zau (a b:List Str) (ha:a.length<=maxLen) (hb:b.length<=maxLen):Pp 125 [Xd a,Xd b] (.bool (decide (a=b))):=by
 by_cases hl:a.length=b.length;have hl':((a.length:Int) !=(b.length:Int))=false:=by rw[hl];exact bne_self_eq_false _
 refine ZF func125 rfl ntmps125 results125 ?_;simp only[go_sem,Xd,hl'];refine Zz (ι:= { k:Nat // k<=a.length/\ ∀j,j<k->a.getD j []=b.getD j [] }) 26 (λx=> [(0,Xd a),(1,Xd b),(5,.int .i64 (x.1:Int))]) (λx=> []) (λx=> []) (λx=>a.length-x.1) ⟨0,by omega,λj hj=>by omega⟩
  ⟨rfl,(Fc3 rfl rfl rfl),fnl,fnl⟩ (λx=>⟨(Fc3 rfl rfl rfl),fnl⟩) (λx=> ?_)
 obtain⟨k,hk,hall⟩:=x;simp only;by_cases h:(k:Int)<(a.length:Int);have hka:k<a.length:=by omega
 have hkb:k<b.length:=by omega
 have w1:=Vt hka ha;have i1:=Jk k
 have i2:(k:Int)<(b.length:Int):=by omega
 by_cases he:a.getD k []=b.getD k [];have he':(a.getD k []==b.getD k [])=true:=beq_iff_eq.2 he;simp only[go_sem,Xd,h];refine vDq ?_;simp only[go_sem,ZY hka,ZY hkb,h,i1,i2,he',w1];exact⟨⟨k+1,by omega,λj hj=>by
  rcases Jm j k with h1|h1;exact hall j h1;obtain rfl:j=k:=by omega
  exact he⟩,nx9 (by omega),⟨rfl,(Fc3 rfl rfl rfl),fnl,fnl⟩⟩
 have he':(a.getD k []==b.getD k [])=false:=beq_eq_false_iff_ne.2 he;have hab:¬a=b:=WU he;simp only[go_sem,Xd,h];refine vDq ?_;simp only[go_sem,ZY hka,ZY hkb,h,i1,i2,he',hab];have hab:decide (a=b)=true:=decide_eq_true (XJ (d:= []) hl λj hj=>hall j (by omega));simp only[go_sem,Xd,h,hab];have hl':((a.length:Int) !=(b.length:Int))=true:=bne_iff_ne.2 (by omega);have hab:¬a=b:=λe=>hl (by rw[e])
 refine ZF func125 rfl ntmps125 results125 ?_;simp only[go_sem,Xd,hl',hab]
open Go.PL
def idx {α:Type} (p:α->Bool) (l:List α):Int:=match l.findIdx? p with|some i=>(i:Int)|none=> -1
theorem VY {α:Type} {p:α->Bool} {l:List α} {k:Nat} {d:α} (hk:k<l.length) (h:∀j,j<k->p (l.getD j d)=Hf) (hp:p (l.getD k d)=Ht):idx p l=k:=by
 have:l.findIdx? p=Hs k:=by
  rw[Jb];refine⟨hk,?_,λj hj=> ?_⟩;simpa[Ja,hk]using hp;have:=h j hj;simp[Ja,show j<l.length by omega]at this;simp[this]
 simp[idx,this]
theorem Su {α:Type} {p:α->Bool} {l:List α} {d:α} (h:∀j,j<l.length->p (l.getD j d)=Hf):idx p l= -1:=by
 have:l.findIdx? p=none:=by
  rw[List.findIdx?_eq_none_iff];intro x hx;obtain⟨j,hj,rfl⟩:=Jj hx;have:=h j hj;simpa[Ja,hj]using this
 simp[idx,this]
theorem Zn {p:Nat->Prop} {k:Nat} (h:∀j,j<k->p j) (hk:p k):∀j,j<k+1->p j:=λj hj=>by
 rcases Jm j k with h1|h1;exact h j h1;obtain rfl:j=k:=by omega
 exact hk
theorem Zqa {a b:En} (h1:a.at'=b.at') (h2:a.n=b.n) (h3:a.l=b.l):a=b:=by
 cases a;cases b;simp_all
theorem Uy (a b:List En) (ha:a.length<=maxLen) (hb:b.length<=maxLen) (ha':∀e∈a,e.l.length<=maxLen) (hb':∀e∈b,e.l.length<=maxLen):Pp 70 [UM a,UM b] (.bool (decide (a=b))):=by
 by_cases hl:a.length=b.length;have hl':((a.length:Int) !=(b.length:Int))=false:=by rw[hl];exact bne_self_eq_false _
 refine ZF func70 rfl ntmps70 results70 ?_;simp only[go_sem,UM,hl'];refine Zz (ι:= { k:Nat // k<=a.length/\ ∀j,j<k->a.getD j Jd=b.getD j Jd }) 55 (λx=> [(0,UM a),(1,UM b),(5,.int .i64 (x.1:Int))]) (λx=> []) (λx=> []) (λx=>a.length-x.1) ⟨0,by omega,λj hj=>by omega⟩
  ⟨rfl,(Fc3 rfl rfl rfl),fnl,fnl⟩ (λx=>⟨(Fc3 rfl rfl rfl),fnl⟩) (λx=> ?_)
 obtain⟨k,hk,hall⟩:=x;simp only;by_cases h:(k:Int)<(a.length:Int);have hka:k<a.length:=by omega
 have hkb:k<b.length:=by omega
 have w1:=Vt hka ha;have i1:=Jk k
 have i2:(k:Int)<(b.length:Int):=by omega
 have hc:=Zau _ _ (ha' _ (Zy (d:=Jd) hka)) (hb' _ (Zy (d:=Jd) hkb));by_cases e1:(a.getD k Jd).at'=(b.getD k Jd).at';have e1':=decide_eq_true e1;by_cases e2:(a.getD k Jd).n=(b.getD k Jd).n;have e2':((a.getD k Jd).n !=(b.getD k Jd).n)=false:=by rw[e2];exact bne_self_eq_false _
 by_cases e3:(a.getD k Jd).l=(b.getD k Jd).l;rw[decide_eq_true e3]at hc;simp only[go_sem,UM,h];refine vDq ?_;simp only[go_sem,VC hka,VC hkb,ent,h,i1,i2,ZD,e1',e2'];refine vc1 hc ?_;simp only[go_sem,w1];exact⟨⟨k+1,by omega,Zn hall (Zqa e1 e2 e3)⟩,nx9 (by omega),⟨rfl,(Fc3 rfl rfl rfl),fnl,fnl⟩⟩;rw[decide_eq_false e3]at hc;have hab:¬a=b:=λe=>e3 (by rw[e])
 simp only[go_sem,UM,h];refine vDq ?_;simp only[go_sem,VC hka,VC hkb,ent,h,i1,i2,ZD,e1',e2'];refine vc1 hc ?_;simp only[go_sem,hab];have e2':((a.getD k Jd).n !=(b.getD k Jd).n)=true:=bne_iff_ne.2 e2;have hab:¬a=b:=λe=>e2 (by rw[e])
 simp only[go_sem,UM,h];refine vDq ?_;simp only[go_sem,VC hka,VC hkb,ent,h,i1,i2,ZD,e1',e2',hab];have e1':=decide_eq_false e1;have hab:¬a=b:=λe=>e1 (by rw[e])
 simp only[go_sem,UM,h];refine vDq ?_;simp only[go_sem,VC hka,VC hkb,ent,h,i1,i2,ZD,e1',hab];have hab:decide (a=b)=true:=decide_eq_true (XJ (d:=Jd) hl λj hj=>hall j (by omega));simp only[go_sem,UM,h,hab];have hl':((a.length:Int) !=(b.length:Int))=true:=bne_iff_ne.2 (by omega);have hab:¬a=b:=λe=>hl (by rw[e])
 refine ZF func70 rfl ntmps70 results70 ?_;simp only[go_sem,UM,hl',hab]
open Go.PL
theorem Uc {α:Type} {p:α->Bool} {l:List α} {k:Nat} {d:α} (hk:k<l.length) (h:p (l.getD k d)=Ht):l.any p=true:=
 List.any_eq_true.2 ⟨_,Zy hk,h⟩
theorem VQ {α:Type} {p:α->Bool} {l:List α} {d:α} (h:∀j,j<l.length->p (l.getD j d)=Hf):l.any p=false:=by
 rw[List.any_eq_false];intro x hx;obtain⟨j,hj,rfl⟩:=Jj hx;have:=h j hj;simpa[Ja,hj]using this
def XY (n:Nat) (s:Str):Bool:=decide ((n:Int)<(s.length:Int))
def ZpY (d:Dc):Prop:=d.head.length<=maxLen/\d.rows.length<=maxLen/\(∀e∈d.head,e.l.length<=maxLen)/\ ∀r∈d.rows,r.l.length<=maxLen/\ ∀e∈r.l,e.l.length<=maxLen
open Go.PL
@[go_sem] theorem Zp2 {α:Type}:(#[]:Array α).isEmpty=true:=rfl
theorem Fb {α:Type} (p:α->Bool) (l:List α):idx p l= -1\/ ∃k:Nat,k<l.length/\idx p l=k:=by
 unfold idx;cases h:l.findIdx? p with
 |none=>exact .inl rfl
 |some k=>
  rw[Jb]at h;exact .inr ⟨k,h.1,rfl⟩
theorem Xb {n b:Nat} (hn:n<=100000000000) (hb:b<=1000):Zhj n b:=by
 refine⟨?_,by unfold maxLen;omega⟩
 calc n*b<=100000000000*1000:=Nat.mul_le_mul hn hb
  _<=140737488355328:=by decide
@[go_sem] theorem ZqK (n:Nat):Sized n []=True:=by simp[Sized]
@[go_sem] theorem ZpF (n:Nat) (e:PV) (l:List PV):Sized n (e::l)=(e.cells.length=n/\Sized n l):=by simp[Sized]
@[go_sem] theorem Zp3:XQ []=True:=by simp[XQ]
@[go_sem] theorem Zpx (e:PV) (l:List PV):XQ (e::l)=(e.cells.all PV.atom=Ht/\XQ l):=by simp[XQ]
theorem Y4 (l:List Str):Sized 1 (l.map .str):=λe he=>by
 obtain⟨x,_,rfl⟩:=Je.1 he;rfl
theorem Zi2 (l:List Str):XQ (l.map .str):=λe he=>by
 obtain⟨x,_,rfl⟩:=Je.1 he;rfl
theorem Wo (l:List Str):Jf (l.map .str)= []:=by
 induction l with
 |nil=>rfl
 |cons t l ih=>simp only[Jg,Jf,ih,Jl,Ji]
theorem Tm (e:En):(ent e).dids= []:=by simp only[ent,Jl,Jf,Wo,Ji]
open Go.PL
attribute [go_sem] Bool.not_eq_true'
theorem Zob {s:Str} (h:s= []):(s== [])=true:=by rw[h];rfl
theorem ZlZ {s:Str} (h:¬s= []):(s== [])=false:=beq_eq_false_iff_ne.2 h
open Go.PL
structure Fd where
 at':Rf
 kind:Int
 df:Str
 cases':List Str
 worth:Int
 deriving DecidableEq,Inhabited
def fld (f:Fd):PV:= .agg [.int .i64 f.at'.sc,.str f.at'.gr,.str f.at'.nm,.int .i64 f.kind,.str f.df,.sl .no (f.cases'.map .str),.int .i64 f.worth]
def Zp (l:List Fd):PV:= .sl .no (l.map fld)
theorem vc2 {x:Bool} {M:KH} {g:FuncId} {args args':List PV} {K:KR} {r:PV} (h1:PL.Pure prog g args' r) (h2:K.k r M.m) (h0:Jo M.m args:=by first|(simp only[go_sem,ref,ent,UM,doc,Xd,row,Zp,fld];done)|exact rfl) (he:PV.giveL M.m args=args':=by first|(simp only[go_sem,ref,ent,UM,doc,Xd,row,Zp,fld];done)|exact rfl):@Vr prog x M (Hs (g,args)) K:=Zk h1 h0 he h2
theorem ZX {l:List Fd} {i:Nat} (h:i<l.length):(l.map fld).getD i .any=fld (l.getD i Jd):=by
 simp[Ja,h]
def Tc (f:Fd):En:=⟨f.at',0,if f.kind=1\/f.kind=4 then []else [f.df]⟩
attribute [go_sem] Fo
theorem Zhp (f:Fd):Pp 121 [fld f] (ent (Tc f)):=by
 by_cases h1:f.kind=1;have h1':(f.kind !=1)=false:=by rw[h1];rfl
 refine ZM func121 rfl ntmps121 results121 (Tm _) ?_;simp only[go_sem,fld,ent,Tc,h1'];simp[h1];have h1':(f.kind !=1)=true:=bne_iff_ne.2 h1;by_cases h2:f.kind=4;have h2':(f.kind !=4)=false:=by rw[h2];rfl
 refine ZM func121 rfl ntmps121 results121 (Tm _) ?_;simp only[go_sem,fld,ent,Tc,h1',h2'];simp[h2];have h2':(f.kind !=4)=true:=bne_iff_ne.2 h2;refine ZM func121 rfl ntmps121 results121 (Tm _) ?_;simp only[go_sem,fld,ent,Tc,h1',h2',h1,h2,or_self]
theorem ZdU (l:List En):Sized 5 (l.map ent):=λe he=>by
 obtain⟨x,_,rfl⟩:=Je.1 he;rfl
theorem Zi0 (l:List En):XQ (l.map ent):=λe he=>by
 obtain⟨x,_,rfl⟩:=Je.1 he;rfl
theorem ZT {α:Type} {l:List α} {k:Nat} (h:k<l.length) {d:α}:l.take (k+1)=l.take k++ [l.getD k d]:=by
 rw[Jc h,Ja,Jh h];rfl
theorem DR (l:List En):Jf (l.map ent)= []:=by
 induction l with
 |nil=>rfl
 |cons e l ih=>rw[Jg,Jf,ih,Tm];rfl
theorem Zjm (l:List En):(UM l).dids= []:=by simp only[UM,Jl,DR]
def FA:List Fd:= [⟨⟨0,[],[99,111,117,112,111,110]⟩,2,[],[],0⟩,⟨⟨1,[],[110,111,116,101]⟩,2,[],[],0⟩,⟨⟨1,[],[113,116,121]⟩,1,[],[],1⟩,
 ⟨⟨1,[],[115,105,122,101]⟩,3,[109,101,100,105,117,109],[[115,109,97,108,108],[109,101,100,105,117,109],[108,97,114,103,101]],0⟩,⟨⟨1,[],[116,97,103,115]⟩,4,[],[],0⟩]
theorem Vn (l:List Fd):Sized 7 (l.map fld):=λe he=>by
 obtain⟨x,_,rfl⟩:=Je.1 he;rfl
theorem Zc2 (l:List Fd):Jf (l.map fld)= []:=by
 induction l with
 |nil=>rfl
 |cons e l ih=>rw[Jg,Jf,ih];simp only[fld,Jl,Jf,Wo,Ji]
theorem UR (l:List Fd):(Zp l).dids= []:=by simp only[Zp,Jl,Zc2]
open Go.PL Go.PL.Srt
structure SortK {α:Type} (pv:α->PV) (g:FuncId) (lt:α->α->Bool) (cv:α->α->Int):Prop where
 len:∀a,(pv a).cells.length=15
 atom:∀a,(pv a).cells.all PV.atom=Ht
 ids:∀a,(pv a).ids= []
 known:∀a,(pv a).known=Ht
 give:∀a m,(pv a).give m=pv a
 givable:∀a m,(pv a).givable m
 part:∀a,Wu Ht 15 (pv a).cells 0=pv a
 cmp:∀a b,Pp g [pv a,pv b] (.int .i64 (cv a b))
 cv:∀a b,decide (cv a b<0)=lt a b
 good:Srt.Good lt
theorem VK {x:Int} (h0:0<=x) (h1:x<=9223372036854775807):IntKind.i64.wrap x=x:=w64 (by omega)
section
variable {α:Type} [Inhabited α] {pv:α->PV} {g:FuncId} {lt:α->α->Bool} {cv:α->α->Int}
theorem ZbQ (K:SortK pv g lt cv) (e:TypeId) (n:Nat) (X L Y:List α) (hU:Unl lt L) (hn:X.length+L.length+Y.length=n) (hm:n<=1000000000000) (r:List PV) (hr:r=(X++(srt lt L++Y)).map pv):
  Eff prog 194 [.vsl 1000 n 15,.int .i64 (X.length:Int),.int .i64 ((X.length+L.length:Nat):Int),.fn g []] (WF n 15 e ((X++(L++Y)).map pv)) (.tup []) (WF n 15 e r):=by
 subst hr;have hc:∀l:List α,∀p∈l.map pv,p.ids= []:=λl=>YX K.ids l
 refine Eff.vw [] func194 (by decide) rfl ntmps194 results194 (by simp) (hc _) (hc _) (by simp[Jp,Jn]) (by simp[Jp,Jn]) λq=> ?_
 have w1:IntKind.i64.wrap ((X.length:Int)+1)=((X.length+1:Nat):Int):=by rw[VK (by omega) (by omega)];rfl
 have klen:=K.len;have kpart:=K.part;have katom:=K.atom;have kknown:=K.known;simp only[go_sem]at klen kpart katom kknown;have one:∀l:List α,srt lt (l.take 1)=l.take 1:=λl=>by cases l<;>rfl
 simp only[go_sem,w1];refine XP (ι:= { k:Nat // 1<=k/\(k<=L.length\/k=1) }) 53 (λx=> [(0,.vsl 1000 n 15),(1,.int .i64 (X.length:Int)),(2,.int .i64 ((X.length+L.length:Nat):Int)),(3,.fn g []),(8,.int .i64 ((X.length+x.1:Nat):Int))]) (λ_=> []) (λ_=> [(1000,.vec n 15 e)]) (λ_=> []) (λ_=> []) (λx=> [(1000,(X++(srt lt (L.take x.1)++(L.drop x.1++Y))).map pv)]) (λ_=> []) [] [(1000,q)] [] (λx=>L.length-x.1) ⟨1,by omega,.inr rfl⟩
  (Yg rfl (Fc5 rfl rfl rfl rfl rfl) rfl (by rw[one,<-List.append_assoc (Jq 1 L),List.take_append_drop];rfl) rfl) (λx=>Xe (by simp[Jp,Jn,ZN]) (Yh K.ids _)) (λx=> ?_)
 obtain⟨k,hk1,hk2⟩:=x;simp only;by_cases hk:k<L.length
 ·have c1:((X.length+k:Nat):Int)<((X.length+L.length:Nat):Int):=by omega
  have eD:L.drop k=L.getD k Jd::L.drop (k+1):=by rw[List.drop_eq_getElem_cons hk,getD_lt hk]
  have eT:L.take (k+1)=L.take k++ [L.getD k Jd]:=by rw[Jc hk,getD_lt hk]
  have hUk:Unl lt (L.take k++ [L.getD k Jd]):=by rw[<-eT];exact List.Pairwise.sublist (List.take_sublist _ _) hU
  have hUt:=(Unl.append.1 hUk).1;have hinc:=Vo K.good hUt;have hlenT:(L.take k).length=k:=by rw[List.length_take];omega
  generalize hx:L.getD k Jd=x at *;generalize hD:L.drop (k+1)=D at *;generalize hs:srt lt (L.take k)=sk at *;have hsl:sk.length=k:=by rw[<-hs,Zx];omega
  rw[eD];simp only[go_sem,c1];refine XP (ι:= { pq:List α×List α // pq.1++pq.2=sk/\ ∀y∈pq.2,lt x y=Ht }) 53 (λy=> [(0,.vsl 1000 n 15),(1,.int .i64 (X.length:Int)),(2,.int .i64 ((X.length+L.length:Nat):Int)),(3,.fn g []),(8,.int .i64 ((X.length+k:Nat):Int)),(9,.int .i64 ((X.length+y.1.1.length:Nat):Int))]) (λ_=> []) (λ_=> [(1000,.vec n 15 e)]) (λ_=> []) (λ_=> []) (λy=> [(1000,(X++(y.1.1++x::(y.1.2++(D++Y)))).map pv)]) (λ_=> []) [] [(1000,q)] [] (λy=>y.1.1.length) ⟨(sk,[]),by simp,by simp⟩
   (Yg rfl (by rw[show(⟨(sk,[]),by simp,by simp⟩: { pq:List α×List α // pq.1++pq.2=sk/\ ∀y∈pq.2,lt x y=Ht }).1.1.length=k from hsl];exact(Fc6 rfl rfl rfl rfl rfl rfl)) rfl (by show Hs _=Hs _;simp) rfl) (λy=>Xe (by simp[Jp,Jn,ZN]) (Yh K.ids _)) (λy=> ?_)
  obtain⟨⟨A,C⟩,hAC,hC⟩:=y;simp only;have w2:IntKind.i64.wrap (((X.length+k:Nat):Int)+1)=((X.length+(k+1):Nat):Int):=by rw[VK (by omega) (by omega)];omega
  have hLD:L.length=k+1+D.length:=by rw[<-hD,List.length_drop];omega
  have hACl:A.length+C.length=k:=by rw[<-hsl,<-hAC];simp
  have next:∀M:List α,srt lt (L.take (k+1))=M->(X++(M++(D++Y)))=(X++(srt lt (L.take (k+1))++(L.drop (k+1)++Y))):=λM h=>by rw[h,hD]
  have hCx:∀c∈C,lt x c=true:=hC;have fin:(∀p∈A,lt p x=Ht)->srt lt (L.take (k+1))=A++x::C:=λhp=>by
   refine ZfG K.good (by rw[hAC];exact hinc) hp hCx ?_;rw[eT];have p1:(A++x::C).Perm (x::(A++C)):=List.perm_middle;refine p1.trans ?_;rw[hAC,<-hs];exact((Yz (L.take k)).cons x).trans (List.perm_append_comm (l₁:= [x]))
  rcases List.eq_nil_or_concat A with hA|⟨A',y,hA⟩
  ·subst hA;have fin:=fin (by simp);have e9:X.length+([]:List α).length=X.length:=by simp
   rw[e9];have d1:¬((X.length:Int)<(X.length:Int)):=by omega
   simp only[go_sem,d1];refine vDq ?_;simp only[go_sem,d1,w2];refine⟨⟨k+1,by omega,by omega⟩,nx9 (by omega),Yg rfl (Fc5 rfl rfl rfl rfl rfl) rfl ?_ rfl⟩;show Hs _=Hs _;rw[<-next _ fin];simp
  have hA:A=A'++ [y]:=by simpa using hA
  subst hA;obtain⟨j,hj⟩:∃j,j=X.length+A'.length:=⟨_,rfl⟩;have e9:X.length+(A'++ [y]).length=j+1:=by simp;omega
  simp only[List.length_append,List.length_singleton]at hACl;rw[e9];have el:X++((A'++ [y])++x::(C++(D++Y)))=(X++A')++y::([]++x::(C++(D++Y))):=by simp
  rw[el];generalize hl:(X++A')++y::([]++x::(C++(D++Y)))=l;have hln:l.length=n:=by rw[<-hl];simp;omega
  have g0:(l.map pv).getD j .any=pv y:=by rw[ZR (by omega),<-hl,YC _ _ _ (by simp;omega)]
  have g1:(l.map pv).getD (j+1) .any=pv x:=by
   rw[ZR (by omega),<-hl,show(X++A')++y::([]++x::(C++(D++Y)))=(X++A'++ [y])++x::(C++(D++Y))by simp,YC _ _ _ (by simp;omega)]
  have w3:IntKind.i64.wrap (((j+1:Nat):Int)-1)=(j:Int):=by rw[VK (by omega) (by omega)];omega
  have d1:(X.length:Int)<((j+1:Nat):Int):=by omega
  have b1:0<=((j+1:Nat):Int)/\((j+1:Nat):Int)<(n:Int):=by omega
  have b0:0<=(j:Int)/\(j:Int)<(n:Int):=by omega
  have hv:=K.cv x y;simp only[go_sem,d1];refine vDq ?_;simp only[go_sem,d1,w3,b1.1,b1.2,b0.1,b0.2,g0,g1,klen,kpart,hln];refine Zk (K.cmp x y) ?_ ?_ ?_;simp only[go_sem,K.give,K.givable];simp only[go_sem,K.give,K.givable];by_cases hxy:lt x y=Ht
  ·rw[hxy]at hv;have g2:((l.set (j+1) y).map pv).getD j .any=pv y:=by
    rw[ZR (by simp;omega),<-ZR (pv:=pv) (by simp;omega),<-TE,Xl (by omega),g0]
   have es:(l.set (j+1) y).set j x=X++(A'++x::((y::C)++(D++Y))):=by
    have h:=Zcc (X++A') [] (C++(D++Y)) y x (i:=j) (j:=j+1) (by simp;omega) (by simp;omega);rw[hl,Zd7 _ _ _ (by omega) (by omega)]at h;have d0:l.getD j Jd=y:=by rw[<-hl];exact YC _ _ _ (by simp;omega)
    have d1:l.getD (j+1) Jd=x:=by
     rw[<-hl,show(X++A')++y::([]++x::(C++(D++Y)))=(X++A'++ [y])++x::(C++(D++Y))by simp,YC _ _ _ (by simp;omega)]
    unfold swap at h
    rw[d0,d1]at h;rw[h];simp
   simp only[go_sem,hv,of_decide_eq_true hv];refine vDq ?_;simp only[go_sem,w3,b1.1,b1.2,b0.1,b0.2,g0,g1,klen,kpart,katom,kknown,hln,TE,g2,List.length_set,es];subst hj;exact⟨⟨(A',y::C),by simpa using hAC,λz hz=>by
    rcases List.mem_cons.1 hz with rfl|hz;exact hxy;exact hCx z hz⟩,by show A'.length<(A'++ [y]).length;simp,Yg rfl (Fc6 rfl rfl rfl rfl rfl rfl) rfl rfl rfl⟩
  have hv':¬cv x y<0:=by
   have:lt x y=false:=by simpa using hxy
   rw[this]at hv;simpa using hv
  have hy:y∈L.take k:=by rw[<-Zca (lt:=lt),hs,<-hAC];simp
  have hyx:lt y x=true:=((Unl.append.1 hUk).2.2 y hy x (by simp)).resolve_right hxy;have hA2:∀p∈A',lt p y=true:=λp hp=>by
   rw[<-hAC]at hinc;exact(Inc.append.1 (Inc.append.1 hinc).1).2.2 p hp y (by simp)
  have fin:=fin λp hp=>by
   rcases List.mem_append.1 hp with hp|hp;exact K.good.trans _ _ _ (hA2 p hp) hyx;simp only[List.mem_singleton]at hp;subst hp;exact hyx
  simp only[go_sem,hv',w2];refine⟨⟨k+1,by omega,by omega⟩,nx9 (by omega),Yg rfl (Fc5 rfl rfl rfl rfl rfl) rfl ?_ rfl⟩;show Hs _=Hs _;rw[<-next _ fin,<-hl];simp
 have c1:¬((X.length+k:Nat):Int)<((X.length+L.length:Nat):Int):=by omega
 have e1:L.take k=L:=List.take_of_length_le (by omega);have e2:L.drop k= []:=List.drop_eq_nil_of_le (by omega);simp only[go_sem,c1];refine Ug (r0:= .tup []) (hc _) rfl (.clean rfl) rfl ?_ rfl;show Hs _=Hs _;rw[e1,e2];simp
end
open Go.Shelf
def Zfx:Go.Shelf.Ren:=⟨λ|190=>123|125=>165|258=>164|128=>217|129=>218|302=>208|303=>209|304=>210|305=>211|306=>212|307=>213|308=>214|309=>215|310=>216|333=>250|329=>251|330=>252|334=>253|335=>254|336=>255|344=>274|n=>n,λ|31=>28|9=>9|3=>3|46=>226|0=>0|51=>271|53=>273|4=>4|183=>263|182=>262|131=>268|5=>5|218=>293|222=>297|228=>317|229=>318|n=>n,λ|n=>n⟩
theorem ZkE:Go.Proofs.Lays.n190 prog Zfx where
 mixed:=by kernel_rfl
 f125:=func165.trans (congrArg Hs (by kernel_rfl))
 f128:=func217.trans (congrArg Hs (by kernel_rfl))
 f129:=func218.trans (congrArg Hs (by kernel_rfl))
 f190:=func123.trans (congrArg Hs (by kernel_rfl))
 f258:=func164.trans (congrArg Hs (by kernel_rfl))
 f302:=func208.trans (congrArg Hs (by kernel_rfl))
 f303:=func209.trans (congrArg Hs (by kernel_rfl))
 f304:=func210.trans (congrArg Hs (by kernel_rfl))
 f305:=func211.trans (congrArg Hs (by kernel_rfl))
 f306:=func212.trans (congrArg Hs (by kernel_rfl))
 f307:=func213.trans (congrArg Hs (by kernel_rfl))
 f308:=func214.trans (congrArg Hs (by kernel_rfl))
 f309:=func215.trans (congrArg Hs (by kernel_rfl))
 f310:=func216.trans (congrArg Hs (by kernel_rfl))
 f329:=func251.trans (congrArg Hs (by kernel_rfl))
 f330:=func252.trans (congrArg Hs (by kernel_rfl))
 f333:=func250.trans (congrArg Hs (by kernel_rfl))
 f334:=func253.trans (congrArg Hs (by kernel_rfl))
 f335:=func254.trans (congrArg Hs (by kernel_rfl))
 f336:=func255.trans (congrArg Hs (by kernel_rfl))
 f344:=func274.trans (congrArg Hs (by kernel_rfl))
 t0:=underlying0
 a0:=isAgg0
 z0:=sizeOf0
 v0:=zeroValue0
 t3:=underlying3
 a3:=isAgg3
 z3:=sizeOf3
 v3:=zeroValue3
 t4:=underlying4
 a4:=isAgg4
 z4:=sizeOf4
 v4:=zeroValue4
 t5:=underlying5
 a5:=isAgg5
 z5:=sizeOf5
 v5:=zeroValue5
 t9:=underlying9
 a9:=isAgg9
 z9:=sizeOf9
 v9:=zeroValue9
 t31:=underlying28
 a31:=isAgg28
 z31:=sizeOf28
 v31:=zeroValue28
 t46:=underlying226
 a46:=isAgg226
 z46:=sizeOf226
 v46:=zeroValue226
 t51:=underlying271
 a51:=isAgg271
 z51:=sizeOf271
 v51:=zeroValue271
 t53:=underlying273
 a53:=isAgg273
 z53:=sizeOf273
 v53:=zeroValue273
 t131:=underlying268
 a131:=isAgg268
 z131:=sizeOf268
 v131:=zeroValue268
 t182:=underlying262
 a182:=isAgg262
 z182:=sizeOf262
 v182:=zeroValue262
 t183:=underlying263
 a183:=isAgg263
 z183:=sizeOf263
 v183:=zeroValue263
 t218:=underlying293
 a218:=isAgg293
 z218:=sizeOf293
 v218:=zeroValue293
 t222:=underlying297
 a222:=isAgg297
 z222:=sizeOf297
 v222:=zeroValue297
 t228:=underlying317
 a228:=isAgg317
 z228:=sizeOf317
 v228:=zeroValue317
 t229:=underlying318
 a229:=isAgg318
 z229:=sizeOf318
 v229:=zeroValue318
def ZeV:Go.Shelf.Ren:=⟨λ|194=>124|n=>n,λ|31=>28|9=>9|3=>3|4=>4|0=>0|n=>n,λ|n=>n⟩
theorem Zja:Go.Proofs.Lays.n194 prog ZeV where
 mixed:=by kernel_rfl
 f194:=func124.trans (congrArg Hs (by kernel_rfl))
 t0:=underlying0
 a0:=isAgg0
 z0:=sizeOf0
 v0:=zeroValue0
 t3:=underlying3
 a3:=isAgg3
 z3:=sizeOf3
 v3:=zeroValue3
 t4:=underlying4
 a4:=isAgg4
 z4:=sizeOf4
 v4:=zeroValue4
 t9:=underlying9
 a9:=isAgg9
 z9:=sizeOf9
 v9:=zeroValue9
 t31:=underlying28
 a31:=isAgg28
 z31:=sizeOf28
 v31:=zeroValue28
open Go.Shelf
def Zfy:Go.Shelf.Ren:=⟨λ|6=>137|15=>165|14=>183|28=>217|29=>218|20=>228|21=>229|22=>230|23=>231|24=>232|25=>233|26=>234|27=>235|46=>256|47=>251|48=>252|49=>257|50=>258|57=>275|n=>n,λ|22=>46|24=>25|25=>200|3=>3|39=>226|0=>0|53=>271|55=>273|4=>4|46=>263|45=>262|50=>268|5=>5|9=>9|66=>293|70=>297|76=>317|77=>318|n=>n,λ|n=>n⟩
theorem ZkF:Go.Proofs.SlLaysF0.n6 prog Zfy where
 mixed:=by kernel_rfl
 f6:=⟨ "slices.SortFunc[[]punnet/api.Tag,punnet/api.Tag]",by decide,func137.trans (congrArg Hs (by kernel_rfl))⟩
 f14:=⟨ "slices.pdqsortCmpFunc[punnet/api.Tag]",by decide,func183.trans (congrArg Hs (by kernel_rfl))⟩
 f15:=func165.trans (congrArg Hs (by kernel_rfl))
 f20:=⟨ "slices.insertionSortCmpFunc[punnet/api.Tag]",by decide,func228.trans (congrArg Hs (by kernel_rfl))⟩
 f21:=⟨ "slices.heapSortCmpFunc[punnet/api.Tag]",by decide,func229.trans (congrArg Hs (by kernel_rfl))⟩
 f22:=⟨ "slices.breakPatternsCmpFunc[punnet/api.Tag]",by decide,func230.trans (congrArg Hs (by kernel_rfl))⟩
 f23:=⟨ "slices.choosePivotCmpFunc[punnet/api.Tag]",by decide,func231.trans (congrArg Hs (by kernel_rfl))⟩
 f24:=⟨ "slices.reverseRangeCmpFunc[punnet/api.Tag]",by decide,func232.trans (congrArg Hs (by kernel_rfl))⟩
 f25:=⟨ "slices.partialInsertionSortCmpFunc[punnet/api.Tag]",by decide,func233.trans (congrArg Hs (by kernel_rfl))⟩
 f26:=⟨ "slices.partitionEqualCmpFunc[punnet/api.Tag]",by decide,func234.trans (congrArg Hs (by kernel_rfl))⟩
 f27:=⟨ "slices.partitionCmpFunc[punnet/api.Tag]",by decide,func235.trans (congrArg Hs (by kernel_rfl))⟩
 f28:=func217.trans (congrArg Hs (by kernel_rfl))
 f29:=func218.trans (congrArg Hs (by kernel_rfl))
 f46:=⟨ "slices.siftDownCmpFunc[punnet/api.Tag]",by decide,func256.trans (congrArg Hs (by kernel_rfl))⟩
 f47:=func251.trans (congrArg Hs (by kernel_rfl))
 f48:=func252.trans (congrArg Hs (by kernel_rfl))
 f49:=⟨ "slices.medianAdjacentCmpFunc[punnet/api.Tag]",by decide,func257.trans (congrArg Hs (by kernel_rfl))⟩
 f50:=⟨ "slices.medianCmpFunc[punnet/api.Tag]",by decide,func258.trans (congrArg Hs (by kernel_rfl))⟩
 f57:=⟨ "slices.order2CmpFunc[punnet/api.Tag]",by decide,func275.trans (congrArg Hs (by kernel_rfl))⟩
 t0:=underlying0
 a0:=isAgg0
 z0:=sizeOf0
 v0:=zeroValue0
 t3:=underlying3
 a3:=isAgg3
 z3:=sizeOf3
 v3:=zeroValue3
 t4:=underlying4
 a4:=isAgg4
 z4:=sizeOf4
 v4:=zeroValue4
 t5:=underlying5
 a5:=isAgg5
 z5:=sizeOf5
 v5:=zeroValue5
 t9:=underlying9
 a9:=isAgg9
 z9:=sizeOf9
 v9:=zeroValue9
 t22:=underlying46
 a22:=isAgg46
 z22:=sizeOf46
 v22:=zeroValue46
 t25:=underlying200
 a25:=isAgg200
 z25:=sizeOf200
 v25:=zeroValue200
 t39:=underlying226
 a39:=isAgg226
 z39:=sizeOf226
 v39:=zeroValue226
 t45:=underlying262
 a45:=isAgg262
 z45:=sizeOf262
 v45:=zeroValue262
 t46:=underlying263
 a46:=isAgg263
 z46:=sizeOf263
 v46:=zeroValue263
 t50:=underlying268
 a50:=isAgg268
 z50:=sizeOf268
 v50:=zeroValue268
 t53:=underlying271
 a53:=isAgg271
 z53:=sizeOf271
 v53:=zeroValue271
 t55:=underlying273
 a55:=isAgg273
 z55:=sizeOf273
 v55:=zeroValue273
 t66:=underlying293
 a66:=isAgg293
 z66:=sizeOf293
 v66:=zeroValue293
 t70:=underlying297
 a70:=isAgg297
 z70:=sizeOf297
 v70:=zeroValue297
 t76:=underlying317
 a76:=isAgg317
 z76:=sizeOf317
 v76:=zeroValue317
 t77:=underlying318
 a77:=isAgg318
 z77:=sizeOf318
 v77:=zeroValue318
end Go.Proofs.YtepchngegclagaaGreat
