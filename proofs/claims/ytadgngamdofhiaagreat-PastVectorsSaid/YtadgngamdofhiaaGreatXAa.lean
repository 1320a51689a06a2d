/- Lemmas of the proof. -/
import Derived.Test.YtadgngamdofhiaaGreatPlH
import Derived.Test.YtadgngamdofhiaaGreatProg
import Derived.KernelRfl
import Derived.Shelf.Slices.CompactS
import Derived.Shelf.Sort.Plain
import Derived.Shelf.Slices.In.SortNone
open Inhabited renaming default→Jd
open Go.Proofs.Tryz
open Go Go.PL
open Int renaming natCast_nonneg→Jc
open List renaming getD_eq_getElem?_getD→Ja,getElem_of_mem→Jb,take→Jh
open Nat renaming lt_or_ge→Je
open PV renaming idsL→Jf,ids→Jg
namespace Go.Proofs.YtadgngamdofhiaaGreat
set_option maxHeartbeats 64000000
set_option maxRecDepth 20000
set_option linter.unusedVariables false
set_option linter.unusedSimpArgs false
open Go.PL
@[go_sem] theorem ZxV:tkn prog 2=true:=by kernel_rfl
@[go_sem] theorem ZxZ:tsz prog 2=1:=by kernel_rfl
@[go_sem] theorem Zwy:Yo prog 2=false:=by kernel_rfl
@[go_sem] theorem ZxW:tkn prog 3=true:=by kernel_rfl
@[go_sem] theorem Zx0:tsz prog 3=1:=by kernel_rfl
@[go_sem] theorem Zwz:Yo prog 3=false:=by kernel_rfl
@[go_sem] theorem ZxX:tkn prog 4=true:=by kernel_rfl
@[go_sem] theorem Zx1:tsz prog 4=1:=by kernel_rfl
@[go_sem] theorem ZwA:Yo prog 4=false:=by kernel_rfl
@[go_sem] theorem ZwO:Zd0 prog 4= .bool:=by kernel_rfl
@[go_sem] theorem ZxY:tkn prog 9=true:=by kernel_rfl
@[go_sem] theorem Zx2:tsz prog 9=1:=by kernel_rfl
@[go_sem] theorem ZwB:Yo prog 9=false:=by kernel_rfl
@[go_sem] theorem ZxU:tix prog 9= .str:=by kernel_rfl
@[go_sem] theorem Zxj:ZcF prog 9= .str:=by kernel_rfl
@[go_sem] theorem ZwP:tix prog 22= .slc 20 true:=by kernel_rfl
@[go_sem] theorem ZvY:ZcF prog 22= .slc:=by kernel_rfl
@[go_sem] theorem Zuz:We prog 22=some ⟨78,20,264⟩:=by kernel_rfl
@[go_sem] theorem ZwQ:tix prog 23= .slc 15 true:=by kernel_rfl
@[go_sem] theorem ZvZ:ZcF prog 23= .slc:=by kernel_rfl
@[go_sem] theorem ZvH:Zd0 prog 23= .slc:=by kernel_rfl
@[go_sem] theorem ZuA:We prog 23=some ⟨62,15,176⟩:=by kernel_rfl
@[go_sem] theorem Zw0:tkn prog 25=true:=by kernel_rfl
@[go_sem] theorem Zxk:tsz prog 25=2:=by kernel_rfl
@[go_sem] theorem Zro:Yo prog 25=true:=by kernel_rfl
@[go_sem] theorem ZuQ:Wy prog 25=some [.int .i64 0,.int .i64 0]:=by kernel_rfl
@[go_sem] theorem Zte:WG prog 25 0=some (0,1,false):=by kernel_rfl
@[go_sem] theorem Ztf:WG prog 25 1=some (1,1,false):=by kernel_rfl
@[go_sem] theorem ZwC:tbd prog 25= .str [(0,1),(1,1)] [.int .i64 0,.int .i64 0]:=by kernel_rfl
@[go_sem] theorem Zss:ZaT prog 25=some [.int,.int]:=by kernel_rfl
@[go_sem] theorem Zw1:tkn prog 27=true:=by kernel_rfl
@[go_sem] theorem Zxl:tsz prog 27=3:=by kernel_rfl
@[go_sem] theorem Zvm:Yo prog 27=true:=by kernel_rfl
@[go_sem] theorem ZuR:Wy prog 27=some [.int .i64 0,.str [],.str []]:=by kernel_rfl
@[go_sem] theorem Ztg:WG prog 27 0=some (0,1,false):=by kernel_rfl
@[go_sem] theorem Zth:WG prog 27 1=some (1,1,false):=by kernel_rfl
@[go_sem] theorem Zti:WG prog 27 2=some (2,1,false):=by kernel_rfl
@[go_sem] theorem ZwD:tbd prog 27= .str [(0,1),(1,1),(2,1)] [.int .i64 0,.str [],.str []]:=by kernel_rfl
@[go_sem] theorem Zst:ZaT prog 27=some [.int,.str,.str]:=by kernel_rfl
@[go_sem] theorem ZvI:Zd0 prog 32= .ptr:=by kernel_rfl
@[go_sem] theorem ZwR:tix prog 35= .slc 3 true:=by kernel_rfl
@[go_sem] theorem Zv0:ZcF prog 35= .slc:=by kernel_rfl
@[go_sem] theorem ZuB:We prog 35=some ⟨70,3,40⟩:=by kernel_rfl
@[go_sem] theorem Zw2:tkn prog 36=true:=by kernel_rfl
@[go_sem] theorem Zxm:tsz prog 36=1:=by kernel_rfl
@[go_sem] theorem Zvn:Yo prog 36=false:=by kernel_rfl
@[go_sem] theorem ZuS:Wy prog 36=some [.int .i64 0]:=by kernel_rfl
@[go_sem] theorem Zw3:tkn prog 46=true:=by kernel_rfl
@[go_sem] theorem Zxn:tsz prog 46=6:=by kernel_rfl
@[go_sem] theorem Zrp:Yo prog 46=true:=by kernel_rfl
@[go_sem] theorem ZwS:tix prog 46= .arr 6 1 false:=by kernel_rfl
@[go_sem] theorem Zw4:tkn prog 48=true:=by kernel_rfl
@[go_sem] theorem Zxo:tsz prog 48=1:=by kernel_rfl
@[go_sem] theorem Zvo:Yo prog 48=false:=by kernel_rfl
@[go_sem] theorem ZwT:tix prog 48= .slc 5 true:=by kernel_rfl
@[go_sem] theorem Zv1:ZcF prog 48= .slc:=by kernel_rfl
@[go_sem] theorem ZvJ:Zd0 prog 48= .slc:=by kernel_rfl
@[go_sem] theorem ZuC:We prog 48=some ⟨65,5,72⟩:=by kernel_rfl
@[go_sem] theorem Zw5:tkn prog 49=true:=by kernel_rfl
@[go_sem] theorem Zxp:tsz prog 49=1:=by kernel_rfl
@[go_sem] theorem Zvp:Yo prog 49=false:=by kernel_rfl
@[go_sem] theorem ZwU:tix prog 49= .slc 2 true:=by kernel_rfl
@[go_sem] theorem Zv2:ZcF prog 49= .slc:=by kernel_rfl
@[go_sem] theorem ZuD:We prog 49=some ⟨109,2,40⟩:=by kernel_rfl
@[go_sem] theorem Zw6:tkn prog 51=true:=by kernel_rfl
@[go_sem] theorem Zxq:tsz prog 51=2:=by kernel_rfl
@[go_sem] theorem Zvq:Yo prog 51=true:=by kernel_rfl
@[go_sem] theorem ZuT:Wy prog 51=some [.sl .nil [],.sl .nil []]:=by kernel_rfl
@[go_sem] theorem Ztj:WG prog 51 0=some (0,1,false):=by kernel_rfl
@[go_sem] theorem Ztk:WG prog 51 1=some (1,1,false):=by kernel_rfl
@[go_sem] theorem ZwE:tbd prog 51= .str [(0,1),(1,1)] [.sl .nil [],.sl .nil []]:=by kernel_rfl
@[go_sem] theorem Zw7:tkn prog 60=true:=by kernel_rfl
@[go_sem] theorem Zxr:tsz prog 60=1:=by kernel_rfl
@[go_sem] theorem Zvr:Yo prog 60=false:=by kernel_rfl
@[go_sem] theorem ZwV:tix prog 60= .slc 2 true:=by kernel_rfl
@[go_sem] theorem Zv3:ZcF prog 60= .slc:=by kernel_rfl
@[go_sem] theorem ZuE:We prog 60=some ⟨25,2,16⟩:=by kernel_rfl
@[go_sem] theorem Zw8:tkn prog 62=true:=by kernel_rfl
@[go_sem] theorem Zxs:tsz prog 62=15:=by kernel_rfl
@[go_sem] theorem Zrq:Yo prog 62=true:=by kernel_rfl
@[go_sem] theorem ZuU:Wy prog 62=some [.int .i64 0,.int .i64 0,.int .i64 0,.int .i64 0,.int .i64 0,.str [],.int .i64 0,.str [],.int .i64 0,.str [],.str [],.int .i64 0,.bool false,.str [],.sl .nil []]:=by kernel_rfl
@[go_sem] theorem Ztl:WG prog 62 0=some (0,2,true):=by kernel_rfl
@[go_sem] theorem Ztm:WG prog 62 1=some (2,2,true):=by kernel_rfl
@[go_sem] theorem Ztn:WG prog 62 2=some (4,1,false):=by kernel_rfl
@[go_sem] theorem Zto:WG prog 62 3=some (5,1,false):=by kernel_rfl
@[go_sem] theorem Ztp:WG prog 62 4=some (6,1,false):=by kernel_rfl
@[go_sem] theorem Ztq:WG prog 62 5=some (7,1,false):=by kernel_rfl
@[go_sem] theorem Ztr:WG prog 62 6=some (8,3,true):=by kernel_rfl
@[go_sem] theorem Zts:WG prog 62 7=some (11,1,false):=by kernel_rfl
@[go_sem] theorem Ztt:WG prog 62 8=some (12,1,false):=by kernel_rfl
@[go_sem] theorem Ztu:WG prog 62 9=some (13,1,false):=by kernel_rfl
@[go_sem] theorem Zsr:WG prog 62 10=some (14,1,false):=by kernel_rfl
@[go_sem] theorem ZwF:tbd prog 62= .str [(0,2),(2,2),(4,1),(5,1),(6,1),(7,1),(8,3),(11,1),(12,1),(13,1),(14,1)] [.int .i64 0,.int .i64 0,.int .i64 0,.int .i64 0,.int .i64 0,.str [],.int .i64 0,.str [],.int .i64 0,.str [],.str [],.int .i64 0,.bool false,.str [],.sl .nil []]:=by kernel_rfl
@[go_sem] theorem Zw9:tkn prog 63=true:=by kernel_rfl
@[go_sem] theorem Zxt:tsz prog 63=1:=by kernel_rfl
@[go_sem] theorem Zvs:Yo prog 63=false:=by kernel_rfl
@[go_sem] theorem ZwW:tix prog 63= .slc 1 false:=by kernel_rfl
@[go_sem] theorem Zv4:ZcF prog 63= .slc:=by kernel_rfl
@[go_sem] theorem ZvK:Zd0 prog 63= .slc:=by kernel_rfl
@[go_sem] theorem ZuF:We prog 63=some ⟨9,1,16⟩:=by kernel_rfl
@[go_sem] theorem Zxa:tkn prog 65=true:=by kernel_rfl
@[go_sem] theorem Zxu:tsz prog 65=5:=by kernel_rfl
@[go_sem] theorem Zvt:Yo prog 65=true:=by kernel_rfl
@[go_sem] theorem ZuV:Wy prog 65=some [.int .i64 0,.str [],.str [],.int .i64 0,.sl .nil []]:=by kernel_rfl
@[go_sem] theorem Ztv:WG prog 65 0=some (0,3,true):=by kernel_rfl
@[go_sem] theorem Ztw:WG prog 65 1=some (3,1,false):=by kernel_rfl
@[go_sem] theorem Ztx:WG prog 65 2=some (4,1,false):=by kernel_rfl
@[go_sem] theorem ZwG:tbd prog 65= .str [(0,3),(3,1),(4,1)] [.int .i64 0,.str [],.str [],.int .i64 0,.sl .nil []]:=by kernel_rfl
@[go_sem] theorem Zxb:tkn prog 67=true:=by kernel_rfl
@[go_sem] theorem Zxv:tsz prog 67=13:=by kernel_rfl
@[go_sem] theorem Zvu:Yo prog 67=true:=by kernel_rfl
@[go_sem] theorem ZuW:Wy prog 67=some [.int .i64 0,.str [],.int .i64 0,.str [],.str [],.int .i64 0,.sl .nil [],.int .i64 0,.str [],.str [],.int .i64 0,.sl .nil [],.sl .nil []]:=by kernel_rfl
@[go_sem] theorem Zty:WG prog 67 0=some (0,1,false):=by kernel_rfl
@[go_sem] theorem Ztz:WG prog 67 1=some (1,1,false):=by kernel_rfl
@[go_sem] theorem ZtA:WG prog 67 3=some (7,5,true):=by kernel_rfl
@[go_sem] theorem ZwH:tbd prog 67= .str [(0,1),(1,1),(2,5),(7,5),(12,1)] [.int .i64 0,.str [],.int .i64 0,.str [],.str [],.int .i64 0,.sl .nil [],.int .i64 0,.str [],.str [],.int .i64 0,.sl .nil [],.sl .nil []]:=by kernel_rfl
@[go_sem] theorem Zxc:tkn prog 68=true:=by kernel_rfl
@[go_sem] theorem Zxw:tsz prog 68=1:=by kernel_rfl
@[go_sem] theorem Zvv:Yo prog 68=false:=by kernel_rfl
@[go_sem] theorem ZwX:tix prog 68= .slc 13 true:=by kernel_rfl
@[go_sem] theorem Zv5:ZcF prog 68= .slc:=by kernel_rfl
@[go_sem] theorem ZuG:We prog 68=some ⟨67,13,192⟩:=by kernel_rfl
@[go_sem] theorem Zxd:tkn prog 70=true:=by kernel_rfl
@[go_sem] theorem Zxx:tsz prog 70=3:=by kernel_rfl
@[go_sem] theorem ZuX:Wy prog 70=some [.int .i64 0,.int .i64 0,.sl .nil []]:=by kernel_rfl
@[go_sem] theorem ZtB:WG prog 70 0=some (0,2,true):=by kernel_rfl
@[go_sem] theorem ZtC:WG prog 70 1=some (2,1,false):=by kernel_rfl
@[go_sem] theorem ZwI:tbd prog 70= .str [(0,2),(2,1)] [.int .i64 0,.int .i64 0,.sl .nil []]:=by kernel_rfl
@[go_sem] theorem Zxe:tkn prog 73=true:=by kernel_rfl
@[go_sem] theorem Zxy:tsz prog 73=7:=by kernel_rfl
@[go_sem] theorem Zvw:Yo prog 73=true:=by kernel_rfl
@[go_sem] theorem ZuY:Wy prog 73=some [.int .i64 0,.str [],.str [],.int .i64 0,.str [],.sl .nil [],.int .i64 0]:=by kernel_rfl
@[go_sem] theorem ZtD:WG prog 73 0=some (0,3,true):=by kernel_rfl
@[go_sem] theorem ZtE:WG prog 73 1=some (3,1,false):=by kernel_rfl
@[go_sem] theorem ZtF:WG prog 73 2=some (4,1,false):=by kernel_rfl
@[go_sem] theorem ZtG:WG prog 73 3=some (5,1,false):=by kernel_rfl
@[go_sem] theorem ZtH:WG prog 73 4=some (6,1,false):=by kernel_rfl
@[go_sem] theorem ZwJ:tbd prog 73= .str [(0,3),(3,1),(4,1),(5,1),(6,1)] [.int .i64 0,.str [],.str [],.int .i64 0,.str [],.sl .nil [],.int .i64 0]:=by kernel_rfl
@[go_sem] theorem Zxf:tkn prog 74=true:=by kernel_rfl
@[go_sem] theorem Zxz:tsz prog 74=1:=by kernel_rfl
@[go_sem] theorem Zvx:Yo prog 74=false:=by kernel_rfl
@[go_sem] theorem ZwY:tix prog 74= .slc 2 true:=by kernel_rfl
@[go_sem] theorem Zv6:ZcF prog 74= .slc:=by kernel_rfl
@[go_sem] theorem ZuH:We prog 74=some ⟨162,2,32⟩:=by kernel_rfl
@[go_sem] theorem Zxg:tkn prog 76=true:=by kernel_rfl
@[go_sem] theorem ZxA:tsz prog 76=16:=by kernel_rfl
@[go_sem] theorem Zvy:Yo prog 76=true:=by kernel_rfl
@[go_sem] theorem ZuZ:Wy prog 76=some [.int .i64 0,.int .i64 0,.str [],.str [],.str [],.str [],.int .i64 0,.int .i64 0,.str [],.str [],.int .i64 0,.str [],.sl .nil [],.int .i64 0,.sl .nil [],.sl .nil []]:=by kernel_rfl
@[go_sem] theorem ZtI:WG prog 76 0=some (0,1,false):=by kernel_rfl
@[go_sem] theorem ZtJ:WG prog 76 1=some (1,3,true):=by kernel_rfl
@[go_sem] theorem ZtK:WG prog 76 2=some (4,1,false):=by kernel_rfl
@[go_sem] theorem ZtL:WG prog 76 3=some (5,1,false):=by kernel_rfl
@[go_sem] theorem ZtM:WG prog 76 4=some (6,1,false):=by kernel_rfl
@[go_sem] theorem ZtN:WG prog 76 5=some (7,7,true):=by kernel_rfl
@[go_sem] theorem ZtO:WG prog 76 6=some (14,1,false):=by kernel_rfl
@[go_sem] theorem ZtP:WG prog 76 7=some (15,1,false):=by kernel_rfl
@[go_sem] theorem ZwK:tbd prog 76= .str [(0,1),(1,3),(4,1),(5,1),(6,1),(7,7),(14,1),(15,1)] [.int .i64 0,.int .i64 0,.str [],.str [],.str [],.str [],.int .i64 0,.int .i64 0,.str [],.str [],.int .i64 0,.str [],.sl .nil [],.int .i64 0,.sl .nil [],.sl .nil []]:=by kernel_rfl
@[go_sem] theorem Zxh:tkn prog 78=true:=by kernel_rfl
@[go_sem] theorem ZxB:tsz prog 78=20:=by kernel_rfl
@[go_sem] theorem Zrr:Yo prog 78=true:=by kernel_rfl
@[go_sem] theorem Zu0:Wy prog 78=some [.int .i64 0,.int .i64 0,.int .i64 0,.int .i64 0,.int .i64 0,.int .i64 0,.str [],.str [],.str [],.str [],.int .i64 0,.int .i64 0,.str [],.str [],.int .i64 0,.str [],.sl .nil [],.int .i64 0,.sl .nil [],.sl .nil []]:=by kernel_rfl
@[go_sem] theorem ZtQ:WG prog 78 0=some (0,2,true):=by kernel_rfl
@[go_sem] theorem ZtR:WG prog 78 1=some (2,2,true):=by kernel_rfl
@[go_sem] theorem ZtS:WG prog 78 2=some (4,16,true):=by kernel_rfl
@[go_sem] theorem ZwL:tbd prog 78= .str [(0,2),(2,2),(4,16)] [.int .i64 0,.int .i64 0,.int .i64 0,.int .i64 0,.int .i64 0,.int .i64 0,.str [],.str [],.str [],.str [],.int .i64 0,.int .i64 0,.str [],.str [],.int .i64 0,.str [],.sl .nil [],.int .i64 0,.sl .nil [],.sl .nil []]:=by kernel_rfl
@[go_sem] theorem Zxi:tkn prog 84=true:=by kernel_rfl
@[go_sem] theorem ZxC:tsz prog 84=1:=by kernel_rfl
@[go_sem] theorem Zvz:Yo prog 84=false:=by kernel_rfl
@[go_sem] theorem Zu1:Wy prog 84=some [.sl .nil []]:=by kernel_rfl
@[go_sem] theorem ZwZ:tix prog 84= .slc 7 true:=by kernel_rfl
@[go_sem] theorem Zv7:ZcF prog 84= .slc:=by kernel_rfl
@[go_sem] theorem ZuI:We prog 84=some ⟨73,7,96⟩:=by kernel_rfl
@[go_sem] theorem ZvP:tkn prog 109=true:=by kernel_rfl
@[go_sem] theorem Zv8:tsz prog 109=2:=by kernel_rfl
@[go_sem] theorem Zus:Yo prog 109=true:=by kernel_rfl
@[go_sem] theorem ZtW:Wy prog 109=some [.str [],.sl .nil []]:=by kernel_rfl
@[go_sem] theorem Zsg:WG prog 109 0=some (0,1,false):=by kernel_rfl
@[go_sem] theorem Zsh:WG prog 109 1=some (1,1,false):=by kernel_rfl
@[go_sem] theorem ZvA:tbd prog 109= .str [(0,1),(1,1)] [.str [],.sl .nil []]:=by kernel_rfl
@[go_sem] theorem ZuN:ZpH prog 113=some ([.int,.int],.agg []):=by kernel_rfl
@[go_sem] theorem ZvQ:tkn prog 114=true:=by kernel_rfl
@[go_sem] theorem Zv9:tsz prog 114=0:=by kernel_rfl
@[go_sem] theorem ZtX:Wy prog 114=some []:=by kernel_rfl
@[go_sem] theorem ZvB:tbd prog 114= .str [] []:=by kernel_rfl
@[go_sem] theorem ZvR:tkn prog 118=true:=by kernel_rfl
@[go_sem] theorem Zwa:tsz prog 118=1:=by kernel_rfl
@[go_sem] theorem Zut:Yo prog 118=false:=by kernel_rfl
@[go_sem] theorem ZuJ:Zd0 prog 118= .map:=by kernel_rfl
@[go_sem] theorem ZtT:ZhA prog 118=true:=by kernel_rfl
@[go_sem] theorem ZuO:ZpH prog 118=some ([.int,.int],.agg [.int .i64 0,.int .i64 0,.int .i64 0,.int .i64 0,.int .i64 0,.int .i64 0,.str [],.str [],.str [],.str [],.int .i64 0,.int .i64 0,.str [],.str [],.int .i64 0,.str [],.sl .nil [],.int .i64 0,.sl .nil [],.sl .nil [],.int .i64 0,.sl .nil [],.int .i64 0]):=by kernel_rfl
@[go_sem] theorem Zsi:WG prog 120 0=some (0,1,false):=by kernel_rfl
@[go_sem] theorem ZvC:tbd prog 120= .str [(0,1)] [.nilmap]:=by kernel_rfl
@[go_sem] theorem ZvS:tkn prog 127=true:=by kernel_rfl
@[go_sem] theorem Zwb:tsz prog 127=23:=by kernel_rfl
@[go_sem] theorem Zuu:Yo prog 127=true:=by kernel_rfl
@[go_sem] theorem ZtY:Wy prog 127=some [.int .i64 0,.int .i64 0,.int .i64 0,.int .i64 0,.int .i64 0,.int .i64 0,.str [],.str [],.str [],.str [],.int .i64 0,.int .i64 0,.str [],.str [],.int .i64 0,.str [],.sl .nil [],.int .i64 0,.sl .nil [],.sl .nil [],.int .i64 0,.sl .nil [],.int .i64 0]:=by kernel_rfl
@[go_sem] theorem Zsj:WG prog 127 0=some (0,20,true):=by kernel_rfl
@[go_sem] theorem Zsk:WG prog 127 1=some (20,1,false):=by kernel_rfl
@[go_sem] theorem Zsl:WG prog 127 2=some (21,1,false):=by kernel_rfl
@[go_sem] theorem Zsm:WG prog 127 3=some (22,1,false):=by kernel_rfl
@[go_sem] theorem ZvD:tbd prog 127= .str [(0,20),(20,1),(21,1),(22,1)] [.int .i64 0,.int .i64 0,.int .i64 0,.int .i64 0,.int .i64 0,.int .i64 0,.str [],.str [],.str [],.str [],.int .i64 0,.int .i64 0,.str [],.str [],.int .i64 0,.str [],.sl .nil [],.int .i64 0,.sl .nil [],.sl .nil [],.int .i64 0,.sl .nil [],.int .i64 0]:=by kernel_rfl
@[go_sem] theorem ZvT:tkn prog 131=true:=by kernel_rfl
@[go_sem] theorem Zwc:tsz prog 131=1:=by kernel_rfl
@[go_sem] theorem Zuv:Yo prog 131=false:=by kernel_rfl
@[go_sem] theorem ZtZ:Wy prog 131=some [.nilmap]:=by kernel_rfl
@[go_sem] theorem ZuP:ZpH prog 131=some ([.str,.int,.str,.str],.sl .nil []):=by kernel_rfl
@[go_sem] theorem ZvU:tkn prog 134=true:=by kernel_rfl
@[go_sem] theorem Zwd:tsz prog 134=4:=by kernel_rfl
@[go_sem] theorem Zuw:Yo prog 134=true:=by kernel_rfl
@[go_sem] theorem Zt0:Wy prog 134=some [.str [],.int .i64 0,.str [],.str []]:=by kernel_rfl
@[go_sem] theorem ZvE:tbd prog 134= .str [(0,1),(1,3)] [.str [],.int .i64 0,.str [],.str []]:=by kernel_rfl
@[go_sem] theorem ZvV:tkn prog 162=true:=by kernel_rfl
@[go_sem] theorem Zwe:tsz prog 162=2:=by kernel_rfl
@[go_sem] theorem ZpC:Yo prog 162=true:=by kernel_rfl
@[go_sem] theorem Zt1:Wy prog 162=some [.str [],.str []]:=by kernel_rfl
@[go_sem] theorem Zsn:WG prog 162 0=some (0,1,false):=by kernel_rfl
@[go_sem] theorem Zso:WG prog 162 1=some (1,1,false):=by kernel_rfl
@[go_sem] theorem Zrs:ZaT prog 162=some [.str,.str]:=by kernel_rfl
@[go_sem] theorem ZvL:tix prog 202= .slc 3 true:=by kernel_rfl
@[go_sem] theorem ZuK:ZcF prog 202= .slc:=by kernel_rfl
@[go_sem] theorem Ztb:We prog 202=some ⟨27,3,40⟩:=by kernel_rfl
@[go_sem] theorem ZvM:tix prog 223= .slc 16 true:=by kernel_rfl
@[go_sem] theorem ZuL:ZcF prog 223= .slc:=by kernel_rfl
@[go_sem] theorem Ztc:We prog 223=some ⟨76,16,232⟩:=by kernel_rfl
@[go_sem] theorem ZvN:tix prog 251= .slc 3 true:=by kernel_rfl
@[go_sem] theorem ZuM:ZcF prog 251= .slc:=by kernel_rfl
@[go_sem] theorem Ztd:We prog 251=some ⟨257,3,24⟩:=by kernel_rfl
@[go_sem] theorem ZvW:tkn prog 257=true:=by kernel_rfl
@[go_sem] theorem Zwf:tsz prog 257=3:=by kernel_rfl
@[go_sem] theorem Zux:Yo prog 257=true:=by kernel_rfl
@[go_sem] theorem Zt2:Wy prog 257=some [.int .i64 0,.int .i64 0,.bool false]:=by kernel_rfl
@[go_sem] theorem Zsp:WG prog 257 0=some (0,2,true):=by kernel_rfl
@[go_sem] theorem Zsq:WG prog 257 1=some (2,1,false):=by kernel_rfl
@[go_sem] theorem ZvF:tbd prog 257= .str [(0,2),(2,1)] [.int .i64 0,.int .i64 0,.bool false]:=by kernel_rfl
@[go_sem] theorem ZvX:tkn prog 281=true:=by kernel_rfl
@[go_sem] theorem Zwg:tsz prog 281=2:=by kernel_rfl
@[go_sem] theorem Zuy:Yo prog 281=true:=by kernel_rfl
@[go_sem] theorem Zt3:Wy prog 281=some [.flt .f64 0,.flt .f64 0]:=by kernel_rfl
@[go_sem] theorem ZvO:tix prog 281= .arr 2 1 false:=by kernel_rfl
@[go_sem] theorem ZvG:tbd prog 281= .arr 1 [.flt .f64 0,.flt .f64 0]:=by kernel_rfl
@[go_sem] theorem Zta:tcv prog 3 216= .int .u64:=by kernel_rfl
@[go_sem] theorem Zs9:tcv prog 216 3= .int .i64:=by kernel_rfl
open Go.PL
attribute [go_sem] reduceIte Nat.reduceEqDiff reduceCtorEq Nat.reduceLT Nat.reduceAdd Nat.reduceSub Nat.reduceMul Nat.reduceLeDiff Int.reduceLT Int.reduceLE Int.reduceToNat Int.reduceEq Int.reduceAdd Int.reduceSub Int.reduceNeg Int.reduceBNe Int.reduceBEq
attribute [go_sem] true_or or_true List.getElem?_cons_zero List.getElem?_cons_succ List.getElem?_nil decide_true decide_false Bool.not_true Bool.not_false imp_self false_implies true_implies List.all_cons List.all_nil Bool.and_true Bool.false_eq_true Nat.zero_add Nat.add_zero Option.some.injEq true_and and_true List.getD_cons_zero List.getD_cons_succ List.length_cons List.length_nil ne_eq not_false_eq_true implies_true and_self Jh List.drop List.map_cons List.map_nil List.reverse_cons List.reverse_nil List.nil_append PV.bool.injEq List.length_map Int.toNat_natCast Nat.mul_one beq_self_eq_true bne_self_eq_false Bool.or_self Bool.false_or Bool.true_or Bool.or_true Bool.or_false
theorem mxo:prog.follows .mixedOrders=true:=by kernel_rfl
theorem vDq {id:Nat} {l:List Oper} {Q:Exit->St->Prop} {s:St} (h:@vA prog false ⟨@vQ ⟨Q⟩ .normal⟩ ⟨l⟩ ⟨l⟩ s) (hB:Zlv l.toArray=true:=by kernel_rfl):awp prog (.region id l.toArray true) Q s:=Zuc mxo hB h
abbrev Pp:=PL.Pure prog
theorem ZH {f:FuncId} {fn:Func} {c:Code} {args:List PV} {r:PV} {n:Nat} {rs:List ResultVar} (hf:prog.funcs[f]? = some fn) (hb:fn.body=some c) (hn:fn.ntmps=n) (hrs:fn.results=rs.toArray) (h:@vC prog ⟨c⟩ ⟨Zf7 prog rs r⟩ (St.init args n)) (hi:r.dids= []:=by rfl) (hname:fn.name≠ "runtime.NumGoroutine" :=by decide) (hl:args.length<=n:=by simp):Pp f args r:=pov hf hname hb hn hrs hl hi h
theorem ZA {f:FuncId} {fn:Func} {c:Code} {args:List PV} {r:PV} {n:Nat} {rs:List ResultVar} (hf:prog.funcs[f]? = some fn) (hb:fn.body=some c) (hn:fn.ntmps=n) (hrs:fn.results=rs.toArray) (hi:r.dids= []) (h:@vC prog ⟨c⟩ ⟨Zf7 prog rs r⟩ (St.init args n)) (hname:fn.name≠ "runtime.NumGoroutine" :=by decide) (hl:args.length<=n:=by simp):Pp f args r:=pov hf hname hb hn hrs hl hi h
theorem w64 {x:Int} (h: -9223372036854775808<=x/\x<=9223372036854775807):IntKind.i64.wrap x=x:=IntWalk.i64_in _ (by omega)
theorem nx9 {n k:Nat} (h:k<n):n-(k+1)<n-k:=by omega
theorem wk9 {k:Nat} (h:(k:Int)<9223372036854775807):IntKind.i64.wrap ((k:Int)+1)=((k+1:Nat):Int):=by
 rw[w64 (by omega)];rfl
theorem Zb:maxLen=9223372036854775807:=by decide
theorem Xb {k n:Nat} (h:k<n) (hn:n<=maxLen):IntKind.i64.wrap ((k:Int)+1)=((k+1:Nat):Int):=by
 rw[Zb]at hn;rw[w64 (by omega)];rfl
abbrev Str:=List UInt8
structure Rf where
 sc:Int
 gr:Str
 nm:Str
 deriving DecidableEq,Inhabited
structure En where
 at':Rf
 n:Int
 l:List Str
 deriving DecidableEq,Inhabited
structure Rw where
 item:Str
 l:List En
 deriving DecidableEq,Inhabited
structure Dc where
 head:List En
 rows:List Rw
 deriving DecidableEq,Inhabited
def Yq (l:List Str):PV:= .sl .no (l.map .str)
def ref (r:Rf):PV:= .agg [.int .i64 r.sc,.str r.gr,.str r.nm]
def ent (e:En):PV:= .agg [.int .i64 e.at'.sc,.str e.at'.gr,.str e.at'.nm,.int .i64 e.n,.sl .no (e.l.map .str)]
def YG (l:List En):PV:= .sl .no (l.map ent)
def row (r:Rw):PV:= .agg [.str r.item,.sl .no (r.l.map ent)]
def doc (d:Dc):PV:= .agg [.sl .no (d.head.map ent),.sl .no (d.rows.map row)]
theorem vc1 {x:Bool} {M:KH} {g:FuncId} {args args':List PV} {K:KR} {r:PV} (h1:PL.Pure prog g args' r) (h2:K.k r M.m) (h0:PV.givableL M.m args:=by first|(simp only[go_sem,ref,ent,YG,doc,Yq,row];done)|exact rfl) (he:PV.giveL M.m args=args':=by first|(simp only[go_sem,ref,ent,YG,doc,Yq,row];done)|exact rfl):@UJ prog x M (some (g,args)) K:=Yh h1 h0 he h2
theorem Zr (a b:Rf):(a.sc==b.sc&&(a.gr==b.gr&&a.nm==b.nm))=decide (a=b):=by
 cases a;cases b;rw[Bool.eq_iff_iff];simp
theorem ZV {l:List Str} {i:Nat} (h:i<l.length):(l.map PV.str).getD i .any= .str (l.getD i []):=by
 simp[Ja,h]
theorem XX {l:List En} {i:Nat} (h:i<l.length):(l.map ent).getD i .any=ent (l.getD i Jd):=by
 simp[Ja,h]
theorem WX {l:List Rw} {i:Nat} (h:i<l.length):(l.map row).getD i .any=row (l.getD i Jd):=by
 simp[Ja,h]
theorem Zs {α:Type} {l:List α} {i:Nat} {d:α} (h:i<l.length):l.getD i d∈l:=by
 rw[Ja,List.getElem?_eq_getElem h];exact List.getElem_mem h
theorem X7 {α:Type} {a b:List α} {d:α} (hl:a.length=b.length) (h:∀j,j<a.length->a.getD j d=b.getD j d):a=b:=by
 apply List.ext_getElem hl;intro i h1 h2;have:=h i h1;simpa[Ja,h1,h2]using this
theorem Vv {α:Type} {a b:List α} {d:α} {j:Nat} (h:a.getD j d≠b.getD j d):a≠b:=λe=>h (by rw[e])
theorem G2 (a b:List Str) (ha:a.length<=maxLen) (hb:b.length<=maxLen):Pp 101 [Yq a,Yq b] (.bool (decide (a=b))):=by
 by_cases hl:a.length=b.length;have hl':((a.length:Int) !=(b.length:Int))=false:=by rw[hl];exact bne_self_eq_false _
 refine ZH func101 rfl ntmps101 results101 ?_;simp only[go_sem,Yq,hl'];refine Zt (ι:= { k:Nat // k<=a.length/\ ∀j,j<k->a.getD j []=b.getD j [] }) 26 (λx=> [(0,Yq a),(1,Yq b),(5,.int .i64 (x.1:Int))]) (λx=> []) (λx=> []) (λx=>a.length-x.1) ⟨0,by omega,λj hj=>by omega⟩
  ⟨rfl,(Fc3 rfl rfl rfl),fnl,fnl⟩ (λx=>⟨(Fc3 rfl rfl rfl),fnl⟩) (λx=> ?_)
 obtain⟨k,hk,hall⟩:=x;simp only;by_cases h:(k:Int)<(a.length:Int);have hka:k<a.length:=by omega
 have hkb:k<b.length:=by omega
 have w1:=Xb hka ha;have i1:=Jc k
 have i2:(k:Int)<(b.length:Int):=by omega
 by_cases he:a.getD k []=b.getD k [];have he':(a.getD k []==b.getD k [])=true:=beq_iff_eq.2 he;simp only[go_sem,Yq,h];refine vDq ?_;simp only[go_sem,ZV hka,ZV hkb,h,i1,i2,he',w1];exact⟨⟨k+1,by omega,λj hj=>by
  rcases Je j k with h1|h1;exact hall j h1;obtain rfl:j=k:=by omega
  exact he⟩,nx9 (by omega),⟨rfl,(Fc3 rfl rfl rfl),fnl,fnl⟩⟩
 have he':(a.getD k []==b.getD k [])=false:=beq_eq_false_iff_ne.2 he;have hab:¬a=b:=Vv he;simp only[go_sem,Yq,h];refine vDq ?_;simp only[go_sem,ZV hka,ZV hkb,h,i1,i2,he',hab];have hab:decide (a=b)=true:=decide_eq_true (X7 (d:= []) hl λj hj=>hall j (by omega));simp only[go_sem,Yq,h,hab];have hl':((a.length:Int) !=(b.length:Int))=true:=bne_iff_ne.2 (by omega);have hab:¬a=b:=λe=>hl (by rw[e])
 refine ZH func101 rfl ntmps101 results101 ?_;simp only[go_sem,Yq,hl',hab]
open Go.PL
def idx {α:Type} (p:α->Bool) (l:List α):Int:=match l.findIdx? p with|some i=>(i:Int)|none=> -1
theorem XN {α:Type} {p:α->Bool} {l:List α} {k:Nat} {d:α} (hk:k<l.length) (h:∀j,j<k->p (l.getD j d)=false) (hp:p (l.getD k d)=true):idx p l=k:=by
 have:l.findIdx? p=some k:=by
  rw[List.findIdx?_eq_some_iff_getElem];refine⟨hk,?_,λj hj=> ?_⟩;simpa[Ja,hk]using hp;have:=h j hj;simp[Ja,show j<l.length by omega]at this;simp[this]
 simp[idx,this]
theorem WY {α:Type} {p:α->Bool} {l:List α} {d:α} (h:∀j,j<l.length->p (l.getD j d)=false):idx p l= -1:=by
 have:l.findIdx? p=none:=by
  rw[List.findIdx?_eq_none_iff];intro x hx;obtain⟨j,hj,rfl⟩:=Jb hx;have:=h j hj;simpa[Ja,hj]using this
 simp[idx,this]
theorem Zm {p:Nat->Prop} {k:Nat} (h:∀j,j<k->p j) (hk:p k):∀j,j<k+1->p j:=λj hj=>by
 rcases Je j k with h1|h1;exact h j h1;obtain rfl:j=k:=by omega
 exact hk
theorem ZsF {a b:En} (h1:a.at'=b.at') (h2:a.n=b.n) (h3:a.l=b.l):a=b:=by
 cases a;cases b;simp_all
theorem Tc (a b:List En) (ha:a.length<=maxLen) (hb:b.length<=maxLen) (ha':∀e∈a,e.l.length<=maxLen) (hb':∀e∈b,e.l.length<=maxLen):Pp 57 [YG a,YG b] (.bool (decide (a=b))):=by
 by_cases hl:a.length=b.length;have hl':((a.length:Int) !=(b.length:Int))=false:=by rw[hl];exact bne_self_eq_false _
 refine ZH func57 rfl ntmps57 results57 ?_;simp only[go_sem,YG,hl'];refine Zt (ι:= { k:Nat // k<=a.length/\ ∀j,j<k->a.getD j Jd=b.getD j Jd }) 55 (λx=> [(0,YG a),(1,YG b),(5,.int .i64 (x.1:Int))]) (λx=> []) (λx=> []) (λx=>a.length-x.1) ⟨0,by omega,λj hj=>by omega⟩
  ⟨rfl,(Fc3 rfl rfl rfl),fnl,fnl⟩ (λx=>⟨(Fc3 rfl rfl rfl),fnl⟩) (λx=> ?_)
 obtain⟨k,hk,hall⟩:=x;simp only;by_cases h:(k:Int)<(a.length:Int);have hka:k<a.length:=by omega
 have hkb:k<b.length:=by omega
 have w1:=Xb hka ha;have i1:=Jc k
 have i2:(k:Int)<(b.length:Int):=by omega
 have hc:=G2 _ _ (ha' _ (Zs (d:=Jd) hka)) (hb' _ (Zs (d:=Jd) hkb));by_cases e1:(a.getD k Jd).at'=(b.getD k Jd).at';have e1':=decide_eq_true e1;by_cases e2:(a.getD k Jd).n=(b.getD k Jd).n;have e2':((a.getD k Jd).n !=(b.getD k Jd).n)=false:=by rw[e2];exact bne_self_eq_false _
 by_cases e3:(a.getD k Jd).l=(b.getD k Jd).l;rw[decide_eq_true e3]at hc;simp only[go_sem,YG,h];refine vDq ?_;simp only[go_sem,XX hka,XX hkb,ent,h,i1,i2,Zr,e1',e2'];refine vc1 hc ?_;simp only[go_sem,w1];exact⟨⟨k+1,by omega,Zm hall (ZsF e1 e2 e3)⟩,nx9 (by omega),⟨rfl,(Fc3 rfl rfl rfl),fnl,fnl⟩⟩;rw[decide_eq_false e3]at hc;have hab:¬a=b:=λe=>e3 (by rw[e])
 simp only[go_sem,YG,h];refine vDq ?_;simp only[go_sem,XX hka,XX hkb,ent,h,i1,i2,Zr,e1',e2'];refine vc1 hc ?_;simp only[go_sem,hab];have e2':((a.getD k Jd).n !=(b.getD k Jd).n)=true:=bne_iff_ne.2 e2;have hab:¬a=b:=λe=>e2 (by rw[e])
 simp only[go_sem,YG,h];refine vDq ?_;simp only[go_sem,XX hka,XX hkb,ent,h,i1,i2,Zr,e1',e2',hab];have e1':=decide_eq_false e1;have hab:¬a=b:=λe=>e1 (by rw[e])
 simp only[go_sem,YG,h];refine vDq ?_;simp only[go_sem,XX hka,XX hkb,ent,h,i1,i2,Zr,e1',hab];have hab:decide (a=b)=true:=decide_eq_true (X7 (d:=Jd) hl λj hj=>hall j (by omega));simp only[go_sem,YG,h,hab];have hl':((a.length:Int) !=(b.length:Int))=true:=bne_iff_ne.2 (by omega);have hab:¬a=b:=λe=>hl (by rw[e])
 refine ZH func57 rfl ntmps57 results57 ?_;simp only[go_sem,YG,hl',hab]
open Go.PL
theorem UR {α:Type} {p:α->Bool} {l:List α} {k:Nat} {d:α} (hk:k<l.length) (h:p (l.getD k d)=true):l.any p=true:=
 List.any_eq_true.2 ⟨_,Zs hk,h⟩
theorem Uo {α:Type} {p:α->Bool} {l:List α} {d:α} (h:∀j,j<l.length->p (l.getD j d)=false):l.any p=false:=by
 rw[List.any_eq_false];intro x hx;obtain⟨j,hj,rfl⟩:=Jb hx;have:=h j hj;simpa[Ja,hj]using this
def Wt (n:Nat) (s:Str):Bool:=decide ((n:Int)<(s.length:Int))
def ZnP (d:Dc):Prop:=d.head.length<=maxLen/\d.rows.length<=maxLen/\(∀e∈d.head,e.l.length<=maxLen)/\ ∀r∈d.rows,r.l.length<=maxLen/\ ∀e∈r.l,e.l.length<=maxLen
open Go.PL Go.PL.Srt
structure SortK {α:Type} (pv:α->PV) (g:FuncId) (lt:α->α->Bool) (cv:α->α->Int):Prop where
 len:∀a,(pv a).cells.length=15
 atom:∀a,(pv a).cells.all PV.atom=true
 ids:∀a,(pv a).ids= []
 known:∀a,(pv a).known=true
 give:∀a m,(pv a).give m=pv a
 givable:∀a m,(pv a).givable m
 part:∀a,W7 true 15 (pv a).cells 0=pv a
 cmp:∀a b,Pp g [pv a,pv b] (.int .i64 (cv a b))
 cv:∀a b,decide (cv a b<0)=lt a b
 good:Srt.Good lt
theorem Uf {x:Int} (h0:0<=x) (h1:x<=9223372036854775807):IntKind.i64.wrap x=x:=w64 (by omega)
section
variable {α:Type} [Inhabited α] {pv:α->PV} {g:FuncId} {lt:α->α->Bool} {cv:α->α->Int}
theorem Zdi (K:SortK pv g lt cv) (e:TypeId) (n:Nat) (X L Y:List α) (hU:Unl lt L) (hn:X.length+L.length+Y.length=n) (hm:n<=1000000000000) (r:List PV) (hr:r=(X++(srt lt L++Y)).map pv):
  Eff prog 118 [.vsl 1000 n 15,.int .i64 (X.length:Int),.int .i64 ((X.length+L.length:Nat):Int),.fn g []] (VY n 15 e ((X++(L++Y)).map pv)) (.tup []) (VY n 15 e r):=by
 subst hr;have hc:∀l:List α,∀p∈l.map pv,p.ids= []:=λl=>YM K.ids l
 refine Eff.vw [] func118 (by decide) rfl ntmps118 results118 (by simp) (hc _) (hc _) (by simp[Jg,Jf]) (by simp[Jg,Jf]) λq=> ?_
 have w1:IntKind.i64.wrap ((X.length:Int)+1)=((X.length+1:Nat):Int):=by rw[Uf (by omega) (by omega)];rfl
 have klen:=K.len;have kpart:=K.part;have katom:=K.atom;have kknown:=K.known;simp only[go_sem]at klen kpart katom kknown;have one:∀l:List α,srt lt (l.take 1)=l.take 1:=λl=>by cases l<;>rfl
 simp only[go_sem,w1];refine Xa (ι:= { k:Nat // 1<=k/\(k<=L.length\/k=1) }) 53 (λx=> [(0,.vsl 1000 n 15),(1,.int .i64 (X.length:Int)),(2,.int .i64 ((X.length+L.length:Nat):Int)),(3,.fn g []),(8,.int .i64 ((X.length+x.1:Nat):Int))]) (λ_=> []) (λ_=> [(1000,.vec n 15 e)]) (λ_=> []) (λ_=> []) (λx=> [(1000,(X++(srt lt (L.take x.1)++(L.drop x.1++Y))).map pv)]) (λ_=> []) [] [(1000,q)] [] (λx=>L.length-x.1) ⟨1,by omega,.inr rfl⟩
  (YC rfl (Fc5 rfl rfl rfl rfl rfl) rfl (by rw[one,<-List.append_assoc (Jh 1 L),List.take_append_drop];rfl) rfl) (λx=>XG (by simp[Jg,Jf,ZG]) (Yk K.ids _)) (λx=> ?_)
 obtain⟨k,hk1,hk2⟩:=x;simp only;by_cases hk:k<L.length
 ·have c1:((X.length+k:Nat):Int)<((X.length+L.length:Nat):Int):=by omega
  have eD:L.drop k=L.getD k Jd::L.drop (k+1):=by rw[List.drop_eq_getElem_cons hk,getD_lt hk]
  have eT:L.take (k+1)=L.take k++ [L.getD k Jd]:=by rw[List.take_succ_eq_append_getElem hk,getD_lt hk]
  have hUk:Unl lt (L.take k++ [L.getD k Jd]):=by rw[<-eT];exact List.Pairwise.sublist (List.take_sublist _ _) hU
  have hUt:=(Unl.append.1 hUk).1;have hinc:=VV K.good hUt;have hlenT:(L.take k).length=k:=by rw[List.length_take];omega
  generalize hx:L.getD k Jd=x at *;generalize hD:L.drop (k+1)=D at *;generalize hs:srt lt (L.take k)=sk at *;have hsl:sk.length=k:=by rw[<-hs,ZQ];omega
  rw[eD];simp only[go_sem,c1];refine Xa (ι:= { pq:List α×List α // pq.1++pq.2=sk/\ ∀y∈pq.2,lt x y=true }) 53 (λy=> [(0,.vsl 1000 n 15),(1,.int .i64 (X.length:Int)),(2,.int .i64 ((X.length+L.length:Nat):Int)),(3,.fn g []),(8,.int .i64 ((X.length+k:Nat):Int)),(9,.int .i64 ((X.length+y.1.1.length:Nat):Int))]) (λ_=> []) (λ_=> [(1000,.vec n 15 e)]) (λ_=> []) (λ_=> []) (λy=> [(1000,(X++(y.1.1++x::(y.1.2++(D++Y)))).map pv)]) (λ_=> []) [] [(1000,q)] [] (λy=>y.1.1.length) ⟨(sk,[]),by simp,by simp⟩
   (YC rfl (by rw[show(⟨(sk,[]),by simp,by simp⟩: { pq:List α×List α // pq.1++pq.2=sk/\ ∀y∈pq.2,lt x y=true }).1.1.length=k from hsl];exact(Fc6 rfl rfl rfl rfl rfl rfl)) rfl (by show some _=some _;simp) rfl) (λy=>XG (by simp[Jg,Jf,ZG]) (Yk K.ids _)) (λy=> ?_)
  obtain⟨⟨A,C⟩,hAC,hC⟩:=y;simp only;have w2:IntKind.i64.wrap (((X.length+k:Nat):Int)+1)=((X.length+(k+1):Nat):Int):=by rw[Uf (by omega) (by omega)];omega
  have hLD:L.length=k+1+D.length:=by rw[<-hD,List.length_drop];omega
  have hACl:A.length+C.length=k:=by rw[<-hsl,<-hAC];simp
  have next:∀M:List α,srt lt (L.take (k+1))=M->(X++(M++(D++Y)))=(X++(srt lt (L.take (k+1))++(L.drop (k+1)++Y))):=λM h=>by rw[h,hD]
  have hCx:∀c∈C,lt x c=true:=hC;have fin:(∀p∈A,lt p x=true)->srt lt (L.take (k+1))=A++x::C:=λhp=>by
   refine ZdH K.good (by rw[hAC];exact hinc) hp hCx ?_;rw[eT];have p1:(A++x::C).Perm (x::(A++C)):=List.perm_middle;refine p1.trans ?_;rw[hAC,<-hs];exact((YU (L.take k)).cons x).trans (List.perm_append_comm (l₁:= [x]))
  rcases List.eq_nil_or_concat A with hA|⟨A',y,hA⟩
  ·subst hA;have fin:=fin (by simp);have e9:X.length+([]:List α).length=X.length:=by simp
   rw[e9];have d1:¬((X.length:Int)<(X.length:Int)):=by omega
   simp only[go_sem,d1];refine vDq ?_;simp only[go_sem,d1,w2];refine⟨⟨k+1,by omega,by omega⟩,nx9 (by omega),YC rfl (Fc5 rfl rfl rfl rfl rfl) rfl ?_ rfl⟩;show some _=some _;rw[<-next _ fin];simp
  have hA:A=A'++ [y]:=by simpa using hA
  subst hA;obtain⟨j,hj⟩:∃j,j=X.length+A'.length:=⟨_,rfl⟩;have e9:X.length+(A'++ [y]).length=j+1:=by simp;omega
  simp only[List.length_append,List.length_singleton]at hACl;rw[e9];have el:X++((A'++ [y])++x::(C++(D++Y)))=(X++A')++y::([]++x::(C++(D++Y))):=by simp
  rw[el];generalize hl:(X++A')++y::([]++x::(C++(D++Y)))=l;have hln:l.length=n:=by rw[<-hl];simp;omega
  have g0:(l.map pv).getD j .any=pv y:=by rw[Yd (by omega),<-hl,Y1 _ _ _ (by simp;omega)]
  have g1:(l.map pv).getD (j+1) .any=pv x:=by
   rw[Yd (by omega),<-hl,show(X++A')++y::([]++x::(C++(D++Y)))=(X++A'++ [y])++x::(C++(D++Y))by simp,Y1 _ _ _ (by simp;omega)]
  have w3:IntKind.i64.wrap (((j+1:Nat):Int)-1)=(j:Int):=by rw[Uf (by omega) (by omega)];omega
  have d1:(X.length:Int)<((j+1:Nat):Int):=by omega
  have b1:0<=((j+1:Nat):Int)/\((j+1:Nat):Int)<(n:Int):=by omega
  have b0:0<=(j:Int)/\(j:Int)<(n:Int):=by omega
  have hv:=K.cv x y;simp only[go_sem,d1];refine vDq ?_;simp only[go_sem,d1,w3,b1.1,b1.2,b0.1,b0.2,g0,g1,klen,kpart,hln];refine Yh (K.cmp x y) ?_ ?_ ?_;simp only[go_sem,K.give,K.givable];simp only[go_sem,K.give,K.givable];by_cases hxy:lt x y=true
  ·rw[hxy]at hv;have g2:((l.set (j+1) y).map pv).getD j .any=pv y:=by
    rw[Yd (by simp;omega),<-Yd (pv:=pv) (by simp;omega),<-Ud,TA (by omega),g0]
   have es:(l.set (j+1) y).set j x=X++(A'++x::((y::C)++(D++Y))):=by
    have h:=ZdJ (X++A') [] (C++(D++Y)) y x (i:=j) (j:=j+1) (by simp;omega) (by simp;omega);rw[hl,ZfS _ _ _ (by omega) (by omega)]at h;have d0:l.getD j Jd=y:=by rw[<-hl];exact Y1 _ _ _ (by simp;omega)
    have d1:l.getD (j+1) Jd=x:=by
     rw[<-hl,show(X++A')++y::([]++x::(C++(D++Y)))=(X++A'++ [y])++x::(C++(D++Y))by simp,Y1 _ _ _ (by simp;omega)]
    unfold swap at h
    rw[d0,d1]at h;rw[h];simp
   simp only[go_sem,hv,of_decide_eq_true hv];refine vDq ?_;simp only[go_sem,w3,b1.1,b1.2,b0.1,b0.2,g0,g1,klen,kpart,katom,kknown,hln,Ud,g2,List.length_set,es];subst hj;exact⟨⟨(A',y::C),by simpa using hAC,λz hz=>by
    rcases List.mem_cons.1 hz with rfl|hz;exact hxy;exact hCx z hz⟩,by show A'.length<(A'++ [y]).length;simp,YC rfl (Fc6 rfl rfl rfl rfl rfl rfl) rfl rfl rfl⟩
  have hv':¬cv x y<0:=by
   have:lt x y=false:=by simpa using hxy
   rw[this]at hv;simpa using hv
  have hy:y∈L.take k:=by rw[<-ZdG (lt:=lt),hs,<-hAC];simp
  have hyx:lt y x=true:=((Unl.append.1 hUk).2.2 y hy x (by simp)).resolve_right hxy;have hA2:∀p∈A',lt p y=true:=λp hp=>by
   rw[<-hAC]at hinc;exact(Inc.append.1 (Inc.append.1 hinc).1).2.2 p hp y (by simp)
  have fin:=fin λp hp=>by
   rcases List.mem_append.1 hp with hp|hp;exact K.good.trans _ _ _ (hA2 p hp) hyx;simp only[List.mem_singleton]at hp;subst hp;exact hyx
  simp only[go_sem,hv',w2];refine⟨⟨k+1,by omega,by omega⟩,nx9 (by omega),YC rfl (Fc5 rfl rfl rfl rfl rfl) rfl ?_ rfl⟩;show some _=some _;rw[<-next _ fin,<-hl];simp
 have c1:¬((X.length+k:Nat):Int)<((X.length+L.length:Nat):Int):=by omega
 have e1:L.take k=L:=List.take_of_length_le (by omega);have e2:L.drop k= []:=List.drop_eq_nil_of_le (by omega);simp only[go_sem,c1];refine UV (r0:= .tup []) (hc _) rfl (.clean rfl) rfl ?_ rfl;show some _=some _;rw[e1,e2];simp
end
open Go.Shelf
def Zho:Go.Shelf.Ren:=⟨λ|190=>115|125=>168|258=>167|128=>217|129=>218|302=>208|303=>209|304=>210|305=>211|306=>212|307=>213|308=>214|309=>215|310=>216|333=>236|329=>237|330=>238|334=>239|335=>240|336=>241|344=>255|n=>n,λ|31=>63|9=>9|3=>3|46=>216|0=>0|51=>247|53=>249|4=>4|183=>239|182=>238|131=>244|5=>5|218=>263|222=>267|228=>284|229=>285|n=>n,λ|n=>n⟩
theorem ZmW:Go.Proofs.Lays.n190 prog Zho where
 mixed:=by kernel_rfl
 f125:=func168.trans (congrArg some (by kernel_rfl))
 f128:=func217.trans (congrArg some (by kernel_rfl))
 f129:=func218.trans (congrArg some (by kernel_rfl))
 f190:=func115.trans (congrArg some (by kernel_rfl))
 f258:=func167.trans (congrArg some (by kernel_rfl))
 f302:=func208.trans (congrArg some (by kernel_rfl))
 f303:=func209.trans (congrArg some (by kernel_rfl))
 f304:=func210.trans (congrArg some (by kernel_rfl))
 f305:=func211.trans (congrArg some (by kernel_rfl))
 f306:=func212.trans (congrArg some (by kernel_rfl))
 f307:=func213.trans (congrArg some (by kernel_rfl))
 f308:=func214.trans (congrArg some (by kernel_rfl))
 f309:=func215.trans (congrArg some (by kernel_rfl))
 f310:=func216.trans (congrArg some (by kernel_rfl))
 f329:=func237.trans (congrArg some (by kernel_rfl))
 f330:=func238.trans (congrArg some (by kernel_rfl))
 f333:=func236.trans (congrArg some (by kernel_rfl))
 f334:=func239.trans (congrArg some (by kernel_rfl))
 f335:=func240.trans (congrArg some (by kernel_rfl))
 f336:=func241.trans (congrArg some (by kernel_rfl))
 f344:=func255.trans (congrArg some (by kernel_rfl))
 t0:=underlying0
 a0:=isAgg0
 z0:=sizeOf0
 v0:=zeroValue0
 t3:=underlying3
 a3:=isAgg3
 z3:=sizeOf3
 v3:=zeroValue3
 t4:=underlying4
 a4:=isAgg4
 z4:=sizeOf4
 v4:=zeroValue4
 t5:=underlying5
 a5:=isAgg5
 z5:=sizeOf5
 v5:=zeroValue5
 t9:=underlying9
 a9:=isAgg9
 z9:=sizeOf9
 v9:=zeroValue9
 t31:=underlying63
 a31:=isAgg63
 z31:=sizeOf63
 v31:=zeroValue63
 t46:=underlying216
 a46:=isAgg216
 z46:=sizeOf216
 v46:=zeroValue216
 t51:=underlying247
 a51:=isAgg247
 z51:=sizeOf247
 v51:=zeroValue247
 t53:=underlying249
 a53:=isAgg249
 z53:=sizeOf249
 v53:=zeroValue249
 t131:=underlying244
 a131:=isAgg244
 z131:=sizeOf244
 v131:=zeroValue244
 t182:=underlying238
 a182:=isAgg238
 z182:=sizeOf238
 v182:=zeroValue238
 t183:=underlying239
 a183:=isAgg239
 z183:=sizeOf239
 v183:=zeroValue239
 t218:=underlying263
 a218:=isAgg263
 z218:=sizeOf263
 v218:=zeroValue263
 t222:=underlying267
 a222:=isAgg267
 z222:=sizeOf267
 v222:=zeroValue267
 t228:=underlying284
 a228:=isAgg284
 z228:=sizeOf284
 v228:=zeroValue284
 t229:=underlying285
 a229:=isAgg285
 z229:=sizeOf285
 v229:=zeroValue285
def ZgL:Go.Shelf.Ren:=⟨λ|194=>116|n=>n,λ|31=>63|9=>9|3=>3|4=>4|0=>0|n=>n,λ|n=>n⟩
theorem Zln:Go.Proofs.Lays.n194 prog ZgL where
 mixed:=by kernel_rfl
 f194:=func116.trans (congrArg some (by kernel_rfl))
 t0:=underlying0
 a0:=isAgg0
 z0:=sizeOf0
 v0:=zeroValue0
 t3:=underlying3
 a3:=isAgg3
 z3:=sizeOf3
 v3:=zeroValue3
 t4:=underlying4
 a4:=isAgg4
 z4:=sizeOf4
 v4:=zeroValue4
 t9:=underlying9
 a9:=isAgg9
 z9:=sizeOf9
 v9:=zeroValue9
 t31:=underlying63
 a31:=isAgg63
 z31:=sizeOf63
 v31:=zeroValue63
end Go.Proofs.YtadgngamdofhiaaGreat
