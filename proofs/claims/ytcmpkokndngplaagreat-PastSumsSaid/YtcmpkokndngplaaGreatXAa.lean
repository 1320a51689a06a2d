/- Lemmas. -/
import Derived.Test.YtcmpkokndngplaaGreatPlH
import Derived.Test.YtcmpkokndngplaaGreatProg
import Derived.KernelRfl
import Derived.Laws.LoneSync
import Derived.Shelf.Slices.CompactS
import Derived.Shelf.Sort.Plain
import Derived.Shelf.Slices.In.SortNone
import Derived.Deep.RegionLaw
import Derived.Shelf.RegionOpenPlain
import Derived.Lib.Walk
import Derived.Lib.SliceRun
import Derived.Lib.AppendZerosOnto
import Derived.Lib.Overlaps
import Derived.Laws.Externs
set_option maxHeartbeats 64000000
set_option maxRecDepth 20000
set_option linter.unusedVariables false
set_option linter.unusedSectionVars false
set_option linter.unusedSimpArgs false
set_option linter.defProp false
open Inhabited renaming default→Jd
open Option renaming some→Hs,none→Hn
open Bool renaming true→Ht,false→Hf
open Go.Proofs.Tryz
open Go Go.PL
open _root_.Array renaming getElem?_eq_some_iff→JX
open BelowF renaming refl→Kl
open Bool renaming false_and→Jf,true_and→Jj,eq_iff_iff→Jo,false_eq_true→JL,and_eq_false_iff→Kh,not_false→Kj,or_eq_false_iff→Kk,not_true→Kq,and_eq_true→KB,or_eq_true→KF,and_false→KG,and_self→KI
open Builtin renaming zeroCells→Jn,copy_→Ju,append_→JU,clear_→JY,firstCells→Kt
open Int renaming natCast_nonneg→Jb,lt_trichotomy→J4,compare_eq_lt→J5,compare_eq_eq→J6,compare_eq_gt→J7,toNat_natCast→Kw
open List renaming getD_eq_getElem?_getD→Ja,length_take→Jc,length_append→Je,length_drop→Jg,length_cons→Jh,length_nil→Ji,append_assoc→Jl,append_nil→Jp,getElem?_eq_getElem→Jq,take_left'→Jr,mem_filterMap→Js,findIdx?_eq_some_iff_getElem→Jt,filterMap_cons→Jv,getElem?_drop→Jz,getElem?_take→JA,zip_cons_cons→JB,length_map→JC,all_eq_false→JD,mem_map→JE,all_eq_true→JF,getElem_of_mem→JG,map_cons→JH,of_mem_zip→JK,zip_nil_right→JM,filterMap_nil→JN,take_succ_eq_append_getElem→JP,mem_range→JQ,take_length→JR,range→JS,mem_of_mem_drop→JT,take_take→JW,findIdx?_eq_none_iff→JZ,getElem?_eq_some_iff→J2,Pairwise→J9,getElem?_take_of_lt→Ka,getElem_mem→Kc,map_nil→Kd,nil_append→Kf,map_append→Kg,filterMap_append→Ki,mem_cons_of_mem→Km,getD_cons_zero→Kn,getD_cons_succ→Ko,filter_append→Kr,mem_singleton→Ks,map_filterMap→Ku,any_eq_false→Kx,any_eq_true→Kz,filter_cons→KA,cons_append→KC,filter_nil→KE,take→KK
open Nat renaming not_lt_zero→Jk,zero_le→Jm,min_def→JO,sub_zero→Ke,add_zero→Kv,min→Ky,lt_irrefl→KJ,zero_add→KL,lt_or_ge→KM,min_self→KN
open Op renaming negFloat→J8
open PV renaming ids→Jw,idsL→Jy,didsL→JI,dids→J3,givableL→KD,giveL→KO,atom→KP,str→KQ,agg→KT,sl→KU
open Region renaming wanted→JJ
open Result renaming andThen→JV
namespace Go.Proofs.YtcmpkokndngplaaGreat
@[go_sem] theorem ZBb:tkn prog 2=true:=by kernel_rfl
@[go_sem] theorem ZBf:tsz prog 2=1:=by kernel_rfl
@[go_sem] theorem ZzG:Yp prog 2=false:=by kernel_rfl
@[go_sem] theorem ZBc:tkn prog 3=true:=by kernel_rfl
@[go_sem] theorem ZBg:tsz prog 3=1:=by kernel_rfl
@[go_sem] theorem ZzH:Yp prog 3=false:=by kernel_rfl
@[go_sem] theorem ZBd:tkn prog 4=true:=by kernel_rfl
@[go_sem] theorem ZBh:tsz prog 4=1:=by kernel_rfl
@[go_sem] theorem ZzI:Yp prog 4=false:=by kernel_rfl
@[go_sem] theorem ZzZ:Ze8 prog 4= .bool:=by kernel_rfl
@[go_sem] theorem ZBe:tkn prog 9=true:=by kernel_rfl
@[go_sem] theorem ZBi:tsz prog 9=1:=by kernel_rfl
@[go_sem] theorem ZzJ:Yp prog 9=false:=by kernel_rfl
@[go_sem] theorem ZBa:tix prog 9= .str:=by kernel_rfl
@[go_sem] theorem ZAw:ZdR prog 9= .str:=by kernel_rfl
@[go_sem] theorem Zz0:tix prog 22= .slc 20 true:=by kernel_rfl
@[go_sem] theorem Zy7:ZdR prog 22= .slc:=by kernel_rfl
@[go_sem] theorem ZxB:XS prog 22=Hs ⟨74,20,264⟩:=by kernel_rfl
@[go_sem] theorem Zz1:tix prog 23= .slc 15 true:=by kernel_rfl
@[go_sem] theorem Zy8:ZdR prog 23= .slc:=by kernel_rfl
@[go_sem] theorem ZyT:Ze8 prog 23= .slc:=by kernel_rfl
@[go_sem] theorem ZxC:XS prog 23=Hs ⟨59,15,176⟩:=by kernel_rfl
@[go_sem] theorem ZAa:tkn prog 25=true:=by kernel_rfl
@[go_sem] theorem ZAx:tsz prog 25=2:=by kernel_rfl
@[go_sem] theorem Zug:Yp prog 25=true:=by kernel_rfl
@[go_sem] theorem ZxR:XT prog 25=Hs [.int .i64 0,.int .i64 0]:=by kernel_rfl
@[go_sem] theorem Zwa:Wy prog 25 0=Hs (0,1,Hf):=by kernel_rfl
@[go_sem] theorem Zwb:Wy prog 25 1=Hs (1,1,Hf):=by kernel_rfl
@[go_sem] theorem ZzK:tbd prog 25= .str [(0,1),(1,1)] [.int .i64 0,.int .i64 0]:=by kernel_rfl
@[go_sem] theorem Zvf:ZbU prog 25=Hs [.int,.int]:=by kernel_rfl
@[go_sem] theorem ZyU:Ze8 prog 30= .ptr:=by kernel_rfl
@[go_sem] theorem ZAb:tkn prog 33=true:=by kernel_rfl
@[go_sem] theorem ZAy:tsz prog 33=1:=by kernel_rfl
@[go_sem] theorem Zyx:Yp prog 33=false:=by kernel_rfl
@[go_sem] theorem Zz2:tix prog 33= .slc 5 true:=by kernel_rfl
@[go_sem] theorem Zy9:ZdR prog 33= .slc:=by kernel_rfl
@[go_sem] theorem ZyV:Ze8 prog 33= .slc:=by kernel_rfl
@[go_sem] theorem ZxD:XS prog 33=Hs ⟨64,5,72⟩:=by kernel_rfl
@[go_sem] theorem ZAc:tkn prog 34=true:=by kernel_rfl
@[go_sem] theorem ZAz:tsz prog 34=1:=by kernel_rfl
@[go_sem] theorem Zyy:Yp prog 34=false:=by kernel_rfl
@[go_sem] theorem Zz3:tix prog 34= .slc 2 true:=by kernel_rfl
@[go_sem] theorem Zza:ZdR prog 34= .slc:=by kernel_rfl
@[go_sem] theorem ZxE:XS prog 34=Hs ⟨90,2,40⟩:=by kernel_rfl
@[go_sem] theorem ZAd:tkn prog 36=true:=by kernel_rfl
@[go_sem] theorem ZAA:tsz prog 36=2:=by kernel_rfl
@[go_sem] theorem Zyz:Yp prog 36=true:=by kernel_rfl
@[go_sem] theorem ZxS:XT prog 36=Hs [.sl .nil [],.sl .nil []]:=by kernel_rfl
@[go_sem] theorem Zwc:Wy prog 36 0=Hs (0,1,Hf):=by kernel_rfl
@[go_sem] theorem Zwd:Wy prog 36 1=Hs (1,1,Hf):=by kernel_rfl
@[go_sem] theorem ZzL:tbd prog 36= .str [(0,1),(1,1)] [.sl .nil [],.sl .nil []]:=by kernel_rfl
@[go_sem] theorem ZAe:tkn prog 37=true:=by kernel_rfl
@[go_sem] theorem ZAB:tsz prog 37=1:=by kernel_rfl
@[go_sem] theorem ZyA:Yp prog 37=false:=by kernel_rfl
@[go_sem] theorem ZxT:XT prog 37=Hs [.int .i64 0]:=by kernel_rfl
@[go_sem] theorem Zz4:tix prog 40= .slc 3 true:=by kernel_rfl
@[go_sem] theorem Zzb:ZdR prog 40= .slc:=by kernel_rfl
@[go_sem] theorem ZxF:XS prog 40=Hs ⟨51,3,40⟩:=by kernel_rfl
@[go_sem] theorem ZAf:tkn prog 43=true:=by kernel_rfl
@[go_sem] theorem ZAC:tsz prog 43=1:=by kernel_rfl
@[go_sem] theorem ZyB:Yp prog 43=false:=by kernel_rfl
@[go_sem] theorem ZxU:XT prog 43=Hs [.sl .nil []]:=by kernel_rfl
@[go_sem] theorem Zz5:tix prog 43= .slc 7 true:=by kernel_rfl
@[go_sem] theorem Zzc:ZdR prog 43= .slc:=by kernel_rfl
@[go_sem] theorem ZxG:XS prog 43=Hs ⟨69,7,96⟩:=by kernel_rfl
@[go_sem] theorem ZAg:tkn prog 49=true:=by kernel_rfl
@[go_sem] theorem ZAD:tsz prog 49=1:=by kernel_rfl
@[go_sem] theorem ZyC:Yp prog 49=false:=by kernel_rfl
@[go_sem] theorem Zz6:tix prog 49= .slc 13 true:=by kernel_rfl
@[go_sem] theorem Zzd:ZdR prog 49= .slc:=by kernel_rfl
@[go_sem] theorem ZxH:XS prog 49=Hs ⟨66,13,192⟩:=by kernel_rfl
@[go_sem] theorem ZAh:tkn prog 51=true:=by kernel_rfl
@[go_sem] theorem ZAE:tsz prog 51=3:=by kernel_rfl
@[go_sem] theorem ZxV:XT prog 51=Hs [.int .i64 0,.int .i64 0,.sl .nil []]:=by kernel_rfl
@[go_sem] theorem Zwe:Wy prog 51 0=Hs (0,2,Ht):=by kernel_rfl
@[go_sem] theorem Zwf:Wy prog 51 1=Hs (2,1,Hf):=by kernel_rfl
@[go_sem] theorem ZzM:tbd prog 51= .str [(0,2),(2,1)] [.int .i64 0,.int .i64 0,.sl .nil []]:=by kernel_rfl
@[go_sem] theorem ZAi:tkn prog 56=true:=by kernel_rfl
@[go_sem] theorem ZAF:tsz prog 56=3:=by kernel_rfl
@[go_sem] theorem ZyD:Yp prog 56=true:=by kernel_rfl
@[go_sem] theorem ZxW:XT prog 56=Hs [.int .i64 0,.str [],.str []]:=by kernel_rfl
@[go_sem] theorem Zwg:Wy prog 56 0=Hs (0,1,Hf):=by kernel_rfl
@[go_sem] theorem Zwh:Wy prog 56 1=Hs (1,1,Hf):=by kernel_rfl
@[go_sem] theorem Zwi:Wy prog 56 2=Hs (2,1,Hf):=by kernel_rfl
@[go_sem] theorem ZzN:tbd prog 56= .str [(0,1),(1,1),(2,1)] [.int .i64 0,.str [],.str []]:=by kernel_rfl
@[go_sem] theorem Zvg:ZbU prog 56=Hs [.int,.str,.str]:=by kernel_rfl
@[go_sem] theorem ZAj:tkn prog 57=true:=by kernel_rfl
@[go_sem] theorem ZAG:tsz prog 57=1:=by kernel_rfl
@[go_sem] theorem ZyE:Yp prog 57=false:=by kernel_rfl
@[go_sem] theorem Zz7:tix prog 57= .slc 2 true:=by kernel_rfl
@[go_sem] theorem Zze:ZdR prog 57= .slc:=by kernel_rfl
@[go_sem] theorem ZxI:XS prog 57=Hs ⟨25,2,16⟩:=by kernel_rfl
@[go_sem] theorem ZAk:tkn prog 59=true:=by kernel_rfl
@[go_sem] theorem ZAH:tsz prog 59=15:=by kernel_rfl
@[go_sem] theorem Zuh:Yp prog 59=true:=by kernel_rfl
@[go_sem] theorem ZxX:XT prog 59=Hs [.int .i64 0,.int .i64 0,.int .i64 0,.int .i64 0,.int .i64 0,.str [],.int .i64 0,.str [],.int .i64 0,.str [],.str [],.int .i64 0,.bool Hf,.str [],.sl .nil []]:=by kernel_rfl
@[go_sem] theorem Zwj:Wy prog 59 0=Hs (0,2,Ht):=by kernel_rfl
@[go_sem] theorem Zwk:Wy prog 59 1=Hs (2,2,Ht):=by kernel_rfl
@[go_sem] theorem Zwl:Wy prog 59 2=Hs (4,1,Hf):=by kernel_rfl
@[go_sem] theorem Zwm:Wy prog 59 3=Hs (5,1,Hf):=by kernel_rfl
@[go_sem] theorem Zwn:Wy prog 59 4=Hs (6,1,Hf):=by kernel_rfl
@[go_sem] theorem Zwo:Wy prog 59 5=Hs (7,1,Hf):=by kernel_rfl
@[go_sem] theorem Zwp:Wy prog 59 6=Hs (8,3,Ht):=by kernel_rfl
@[go_sem] theorem Zwq:Wy prog 59 7=Hs (11,1,Hf):=by kernel_rfl
@[go_sem] theorem Zwr:Wy prog 59 8=Hs (12,1,Hf):=by kernel_rfl
@[go_sem] theorem Zws:Wy prog 59 9=Hs (13,1,Hf):=by kernel_rfl
@[go_sem] theorem Zve:Wy prog 59 10=Hs (14,1,Hf):=by kernel_rfl
@[go_sem] theorem ZzO:tbd prog 59= .str [(0,2),(2,2),(4,1),(5,1),(6,1),(7,1),(8,3),(11,1),(12,1),(13,1),(14,1)] [.int .i64 0,.int .i64 0,.int .i64 0,.int .i64 0,.int .i64 0,.str [],.int .i64 0,.str [],.int .i64 0,.str [],.str [],.int .i64 0,.bool Hf,.str [],.sl .nil []]:=by kernel_rfl
@[go_sem] theorem ZAl:tkn prog 62=true:=by kernel_rfl
@[go_sem] theorem ZAI:tsz prog 62=1:=by kernel_rfl
@[go_sem] theorem ZyF:Yp prog 62=false:=by kernel_rfl
@[go_sem] theorem Zz8:tix prog 62= .slc 1 false:=by kernel_rfl
@[go_sem] theorem Zzf:ZdR prog 62= .slc:=by kernel_rfl
@[go_sem] theorem ZyW:Ze8 prog 62= .slc:=by kernel_rfl
@[go_sem] theorem ZxJ:XS prog 62=Hs ⟨9,1,16⟩:=by kernel_rfl
@[go_sem] theorem ZAm:tkn prog 64=true:=by kernel_rfl
@[go_sem] theorem ZAJ:tsz prog 64=5:=by kernel_rfl
@[go_sem] theorem ZyG:Yp prog 64=true:=by kernel_rfl
@[go_sem] theorem ZxY:XT prog 64=Hs [.int .i64 0,.str [],.str [],.int .i64 0,.sl .nil []]:=by kernel_rfl
@[go_sem] theorem Zwt:Wy prog 64 0=Hs (0,3,Ht):=by kernel_rfl
@[go_sem] theorem Zwu:Wy prog 64 1=Hs (3,1,Hf):=by kernel_rfl
@[go_sem] theorem Zwv:Wy prog 64 2=Hs (4,1,Hf):=by kernel_rfl
@[go_sem] theorem ZzP:tbd prog 64= .str [(0,3),(3,1),(4,1)] [.int .i64 0,.str [],.str [],.int .i64 0,.sl .nil []]:=by kernel_rfl
@[go_sem] theorem ZAn:tkn prog 66=true:=by kernel_rfl
@[go_sem] theorem ZAK:tsz prog 66=13:=by kernel_rfl
@[go_sem] theorem ZyH:Yp prog 66=true:=by kernel_rfl
@[go_sem] theorem ZxZ:XT prog 66=Hs [.int .i64 0,.str [],.int .i64 0,.str [],.str [],.int .i64 0,.sl .nil [],.int .i64 0,.str [],.str [],.int .i64 0,.sl .nil [],.sl .nil []]:=by kernel_rfl
@[go_sem] theorem Zww:Wy prog 66 0=Hs (0,1,Hf):=by kernel_rfl
@[go_sem] theorem Zwx:Wy prog 66 1=Hs (1,1,Hf):=by kernel_rfl
@[go_sem] theorem Zwy:Wy prog 66 2=Hs (2,5,Ht):=by kernel_rfl
@[go_sem] theorem Zwz:Wy prog 66 3=Hs (7,5,Ht):=by kernel_rfl
@[go_sem] theorem ZwA:Wy prog 66 4=Hs (12,1,Hf):=by kernel_rfl
@[go_sem] theorem ZzQ:tbd prog 66= .str [(0,1),(1,1),(2,5),(7,5),(12,1)] [.int .i64 0,.str [],.int .i64 0,.str [],.str [],.int .i64 0,.sl .nil [],.int .i64 0,.str [],.str [],.int .i64 0,.sl .nil [],.sl .nil []]:=by kernel_rfl
@[go_sem] theorem ZAo:tkn prog 69=true:=by kernel_rfl
@[go_sem] theorem ZAL:tsz prog 69=7:=by kernel_rfl
@[go_sem] theorem ZyI:Yp prog 69=true:=by kernel_rfl
@[go_sem] theorem Zx0:XT prog 69=Hs [.int .i64 0,.str [],.str [],.int .i64 0,.str [],.sl .nil [],.int .i64 0]:=by kernel_rfl
@[go_sem] theorem ZwB:Wy prog 69 0=Hs (0,3,Ht):=by kernel_rfl
@[go_sem] theorem ZwC:Wy prog 69 1=Hs (3,1,Hf):=by kernel_rfl
@[go_sem] theorem ZwD:Wy prog 69 2=Hs (4,1,Hf):=by kernel_rfl
@[go_sem] theorem ZwE:Wy prog 69 3=Hs (5,1,Hf):=by kernel_rfl
@[go_sem] theorem ZwF:Wy prog 69 4=Hs (6,1,Hf):=by kernel_rfl
@[go_sem] theorem ZzR:tbd prog 69= .str [(0,3),(3,1),(4,1),(5,1),(6,1)] [.int .i64 0,.str [],.str [],.int .i64 0,.str [],.sl .nil [],.int .i64 0]:=by kernel_rfl
@[go_sem] theorem ZAp:tkn prog 70=true:=by kernel_rfl
@[go_sem] theorem ZAM:tsz prog 70=1:=by kernel_rfl
@[go_sem] theorem ZyJ:Yp prog 70=false:=by kernel_rfl
@[go_sem] theorem Zz9:tix prog 70= .slc 2 true:=by kernel_rfl
@[go_sem] theorem Zzg:ZdR prog 70= .slc:=by kernel_rfl
@[go_sem] theorem ZxK:XS prog 70=Hs ⟨162,2,32⟩:=by kernel_rfl
@[go_sem] theorem ZAq:tkn prog 72=true:=by kernel_rfl
@[go_sem] theorem ZAN:tsz prog 72=16:=by kernel_rfl
@[go_sem] theorem ZyK:Yp prog 72=true:=by kernel_rfl
@[go_sem] theorem Zx1:XT prog 72=Hs [.int .i64 0,.int .i64 0,.str [],.str [],.str [],.str [],.int .i64 0,.int .i64 0,.str [],.str [],.int .i64 0,.str [],.sl .nil [],.int .i64 0,.sl .nil [],.sl .nil []]:=by kernel_rfl
@[go_sem] theorem ZwG:Wy prog 72 0=Hs (0,1,Hf):=by kernel_rfl
@[go_sem] theorem ZwH:Wy prog 72 1=Hs (1,3,Ht):=by kernel_rfl
@[go_sem] theorem ZwI:Wy prog 72 2=Hs (4,1,Hf):=by kernel_rfl
@[go_sem] theorem ZwJ:Wy prog 72 3=Hs (5,1,Hf):=by kernel_rfl
@[go_sem] theorem ZwK:Wy prog 72 4=Hs (6,1,Hf):=by kernel_rfl
@[go_sem] theorem ZwL:Wy prog 72 5=Hs (7,7,Ht):=by kernel_rfl
@[go_sem] theorem ZwM:Wy prog 72 6=Hs (14,1,Hf):=by kernel_rfl
@[go_sem] theorem ZwN:Wy prog 72 7=Hs (15,1,Hf):=by kernel_rfl
@[go_sem] theorem ZzS:tbd prog 72= .str [(0,1),(1,3),(4,1),(5,1),(6,1),(7,7),(14,1),(15,1)] [.int .i64 0,.int .i64 0,.str [],.str [],.str [],.str [],.int .i64 0,.int .i64 0,.str [],.str [],.int .i64 0,.str [],.sl .nil [],.int .i64 0,.sl .nil [],.sl .nil []]:=by kernel_rfl
@[go_sem] theorem ZAr:tkn prog 74=true:=by kernel_rfl
@[go_sem] theorem ZAO:tsz prog 74=20:=by kernel_rfl
@[go_sem] theorem Zui:Yp prog 74=true:=by kernel_rfl
@[go_sem] theorem Zx2:XT prog 74=Hs [.int .i64 0,.int .i64 0,.int .i64 0,.int .i64 0,.int .i64 0,.int .i64 0,.str [],.str [],.str [],.str [],.int .i64 0,.int .i64 0,.str [],.str [],.int .i64 0,.str [],.sl .nil [],.int .i64 0,.sl .nil [],.sl .nil []]:=by kernel_rfl
@[go_sem] theorem ZwO:Wy prog 74 0=Hs (0,2,Ht):=by kernel_rfl
@[go_sem] theorem ZwP:Wy prog 74 1=Hs (2,2,Ht):=by kernel_rfl
@[go_sem] theorem ZwQ:Wy prog 74 2=Hs (4,16,Ht):=by kernel_rfl
@[go_sem] theorem ZzT:tbd prog 74= .str [(0,2),(2,2),(4,16)] [.int .i64 0,.int .i64 0,.int .i64 0,.int .i64 0,.int .i64 0,.int .i64 0,.str [],.str [],.str [],.str [],.int .i64 0,.int .i64 0,.str [],.str [],.int .i64 0,.str [],.sl .nil [],.int .i64 0,.sl .nil [],.sl .nil []]:=by kernel_rfl
@[go_sem] theorem ZAs:tkn prog 81=true:=by kernel_rfl
@[go_sem] theorem ZAP:tsz prog 81=1:=by kernel_rfl
@[go_sem] theorem ZyL:Yp prog 81=false:=by kernel_rfl
@[go_sem] theorem Zx3:XT prog 81=Hs [.nilmap]:=by kernel_rfl
@[go_sem] theorem Zzh:Zsj prog 81=Hs ([.str,.int,.str,.str],.sl .nil []):=by kernel_rfl
@[go_sem] theorem ZAt:tkn prog 84=true:=by kernel_rfl
@[go_sem] theorem ZAQ:tsz prog 84=4:=by kernel_rfl
@[go_sem] theorem ZyM:Yp prog 84=true:=by kernel_rfl
@[go_sem] theorem Zx4:XT prog 84=Hs [.str [],.int .i64 0,.str [],.str []]:=by kernel_rfl
@[go_sem] theorem ZzU:tbd prog 84= .str [(0,1),(1,3)] [.str [],.int .i64 0,.str [],.str []]:=by kernel_rfl
@[go_sem] theorem ZAu:tkn prog 90=true:=by kernel_rfl
@[go_sem] theorem ZAR:tsz prog 90=2:=by kernel_rfl
@[go_sem] theorem ZyN:Yp prog 90=true:=by kernel_rfl
@[go_sem] theorem Zx5:XT prog 90=Hs [.str [],.sl .nil []]:=by kernel_rfl
@[go_sem] theorem ZwR:Wy prog 90 0=Hs (0,1,Hf):=by kernel_rfl
@[go_sem] theorem ZwS:Wy prog 90 1=Hs (1,1,Hf):=by kernel_rfl
@[go_sem] theorem ZzV:tbd prog 90= .str [(0,1),(1,1)] [.str [],.sl .nil []]:=by kernel_rfl
@[go_sem] theorem ZAv:tkn prog 98=true:=by kernel_rfl
@[go_sem] theorem ZAS:tsz prog 98=23:=by kernel_rfl
@[go_sem] theorem ZyO:Yp prog 98=true:=by kernel_rfl
@[go_sem] theorem Zx6:XT prog 98=Hs [.int .i64 0,.int .i64 0,.int .i64 0,.int .i64 0,.int .i64 0,.int .i64 0,.str [],.str [],.str [],.str [],.int .i64 0,.int .i64 0,.str [],.str [],.int .i64 0,.str [],.sl .nil [],.int .i64 0,.sl .nil [],.sl .nil [],.int .i64 0,.sl .nil [],.int .i64 0]:=by kernel_rfl
@[go_sem] theorem ZwT:Wy prog 98 0=Hs (0,20,Ht):=by kernel_rfl
@[go_sem] theorem ZwU:Wy prog 98 1=Hs (20,1,Hf):=by kernel_rfl
@[go_sem] theorem ZwV:Wy prog 98 2=Hs (21,1,Hf):=by kernel_rfl
@[go_sem] theorem ZwW:Wy prog 98 3=Hs (22,1,Hf):=by kernel_rfl
@[go_sem] theorem ZzW:tbd prog 98= .str [(0,20),(20,1),(21,1),(22,1)] [.int .i64 0,.int .i64 0,.int .i64 0,.int .i64 0,.int .i64 0,.int .i64 0,.str [],.str [],.str [],.str [],.int .i64 0,.int .i64 0,.str [],.str [],.int .i64 0,.str [],.sl .nil [],.int .i64 0,.sl .nil [],.sl .nil [],.int .i64 0,.sl .nil [],.int .i64 0]:=by kernel_rfl
@[go_sem] theorem Zy2:tkn prog 108=true:=by kernel_rfl
@[go_sem] theorem Zzi:tsz prog 108=1:=by kernel_rfl
@[go_sem] theorem Zxy:Yp prog 108=false:=by kernel_rfl
@[go_sem] theorem ZxL:Ze8 prog 108= .map:=by kernel_rfl
@[go_sem] theorem ZwX:ZiX prog 108=true:=by kernel_rfl
@[go_sem] theorem ZxP:Zsj prog 108=Hs ([.int,.int],.agg [.int .i64 0,.int .i64 0,.int .i64 0,.int .i64 0,.int .i64 0,.int .i64 0,.str [],.str [],.str [],.str [],.int .i64 0,.int .i64 0,.str [],.str [],.int .i64 0,.str [],.sl .nil [],.int .i64 0,.sl .nil [],.sl .nil [],.int .i64 0,.sl .nil [],.int .i64 0]):=by kernel_rfl
@[go_sem] theorem Zu9:Wy prog 110 0=Hs (0,1,Hf):=by kernel_rfl
@[go_sem] theorem ZyP:tbd prog 110= .str [(0,1)] [.nilmap]:=by kernel_rfl
@[go_sem] theorem ZxQ:Zsj prog 124=Hs ([.int,.int],.agg []):=by kernel_rfl
@[go_sem] theorem Zy3:tkn prog 126=true:=by kernel_rfl
@[go_sem] theorem Zzj:tsz prog 126=0:=by kernel_rfl
@[go_sem] theorem Zw0:XT prog 126=Hs []:=by kernel_rfl
@[go_sem] theorem ZyQ:tbd prog 126= .str [] []:=by kernel_rfl
@[go_sem] theorem Zy4:tkn prog 162=true:=by kernel_rfl
@[go_sem] theorem Zzk:tsz prog 162=2:=by kernel_rfl
@[go_sem] theorem Zse:Yp prog 162=true:=by kernel_rfl
@[go_sem] theorem Zw1:XT prog 162=Hs [.str [],.str []]:=by kernel_rfl
@[go_sem] theorem Zva:Wy prog 162 0=Hs (0,1,Hf):=by kernel_rfl
@[go_sem] theorem Zvb:Wy prog 162 1=Hs (1,1,Hf):=by kernel_rfl
@[go_sem] theorem Zuk:ZbU prog 162=Hs [.str,.str]:=by kernel_rfl
@[go_sem] theorem ZyY:tix prog 200= .slc 3 true:=by kernel_rfl
@[go_sem] theorem ZxM:ZdR prog 200= .slc:=by kernel_rfl
@[go_sem] theorem Zv7:XS prog 200=Hs ⟨56,3,40⟩:=by kernel_rfl
@[go_sem] theorem ZyZ:tix prog 206= .slc 16 true:=by kernel_rfl
@[go_sem] theorem ZxN:ZdR prog 206= .slc:=by kernel_rfl
@[go_sem] theorem Zv8:XS prog 206=Hs ⟨72,16,232⟩:=by kernel_rfl
@[go_sem] theorem Zy0:tix prog 229= .slc 3 true:=by kernel_rfl
@[go_sem] theorem ZxO:ZdR prog 229= .slc:=by kernel_rfl
@[go_sem] theorem Zv9:XS prog 229=Hs ⟨233,3,24⟩:=by kernel_rfl
@[go_sem] theorem Zy5:tkn prog 233=true:=by kernel_rfl
@[go_sem] theorem Zzl:tsz prog 233=3:=by kernel_rfl
@[go_sem] theorem Zxz:Yp prog 233=true:=by kernel_rfl
@[go_sem] theorem Zw2:XT prog 233=Hs [.int .i64 0,.int .i64 0,.bool Hf]:=by kernel_rfl
@[go_sem] theorem Zvc:Wy prog 233 0=Hs (0,2,Ht):=by kernel_rfl
@[go_sem] theorem Zvd:Wy prog 233 1=Hs (2,1,Hf):=by kernel_rfl
@[go_sem] theorem ZyR:tbd prog 233= .str [(0,2),(2,1)] [.int .i64 0,.int .i64 0,.bool Hf]:=by kernel_rfl
@[go_sem] theorem Zy6:tkn prog 255=true:=by kernel_rfl
@[go_sem] theorem Zzm:tsz prog 255=2:=by kernel_rfl
@[go_sem] theorem ZxA:Yp prog 255=true:=by kernel_rfl
@[go_sem] theorem Zw3:XT prog 255=Hs [.flt .f64 0,.flt .f64 0]:=by kernel_rfl
@[go_sem] theorem Zy1:tix prog 255= .arr 2 1 false:=by kernel_rfl
@[go_sem] theorem ZyS:tbd prog 255= .arr 1 [.flt .f64 0,.flt .f64 0]:=by kernel_rfl
open Go.PL
attribute [go_sem] reduceIte Nat.reduceEqDiff reduceCtorEq Nat.reduceLT Nat.reduceAdd Nat.reduceSub Nat.reduceMul Nat.reduceLeDiff Int.reduceLT Int.reduceLE Int.reduceToNat Int.reduceEq Int.reduceAdd Int.reduceSub Int.reduceNeg Int.reduceBNe Int.reduceBEq
attribute [go_sem] true_or or_true List.getElem?_cons_zero List.getElem?_cons_succ List.getElem?_nil decide_true decide_false Kq Kj imp_self false_implies true_implies List.all_cons List.all_nil Bool.and_true JL KL Kv Option.some.injEq true_and and_true Kn Ko Jh Ji ne_eq not_false_eq_true implies_true and_self KK List.drop JH Kd List.reverse_cons List.reverse_nil Kf PV.bool.injEq JC Kw Nat.mul_one beq_self_eq_true bne_self_eq_false Bool.or_self Bool.false_or Bool.true_or Bool.or_true Bool.or_false
theorem mxo:prog.follows .mixedOrders=true:=by kernel_rfl
def vDq {id:Nat} {l:List Oper} {Q:Exit->St->Prop} {s:St} (h:@vA prog Hf ⟨@vQ ⟨Q⟩ .normal⟩ ⟨l⟩ ⟨l⟩ s) (a:Znv l.toArray=true:=by kernel_rfl):awp prog (.region id l.toArray Ht) Q s:=Zxa mxo a h
abbrev Pp:=PL.Pure prog
def ZM {f:FuncId} {fn:Func} {c:Code} {args:List PV} {r:PV} {n:Nat} {rs:List ResultVar} (e:prog.funcs[f]? = Hs fn) (d:fn.body=Hs c) (k:fn.ntmps=n) (b:fn.results=rs.toArray) (h:@vC prog ⟨c⟩ ⟨Zhq prog rs r⟩ (St.init args n)) (i:r.dids= []:=by rfl) (a:fn.name≠ "runtime.NumGoroutine" :=by decide) (j:args.length<=n:=by simp):Pp f args r:=pov e a d k b j i h
def ZS {f:FuncId} {fn:Func} {c:Code} {args:List PV} {r:PV} {n:Nat} {rs:List ResultVar} (e:prog.funcs[f]? = Hs fn) (d:fn.body=Hs c) (k:fn.ntmps=n) (b:fn.results=rs.toArray) (i:r.dids= []) (h:@vC prog ⟨c⟩ ⟨Zhq prog rs r⟩ (St.init args n)) (a:fn.name≠ "runtime.NumGoroutine" :=by decide) (j:args.length<=n:=by simp):Pp f args r:=pov e a d k b j i h
def w64 {x:Int} (h: -9223372036854775808<=x/\x<=9223372036854775807):IntKind.i64.wrap x=x:=IntWalk.i64_in _ (by omega)
def nx9 {n k:Nat} (h:k<n):n-(k+1)<n-k:=by omega
def wk9 {k:Nat} (h:(k:Int)<9223372036854775807):IntKind.i64.wrap ((k:Int)+1)=((k+1:Nat):Int):=by
 rw[w64 (by omega)];rfl
def Zd:maxLen=9223372036854775807:=by decide
def Wa {k n:Nat} (h:k<n) (a:n<=maxLen):IntKind.i64.wrap ((k:Int)+1)=((k+1:Nat):Int):=by
 rw[Zd]at a;rw[w64 (by omega)];rfl
abbrev Str:=List UInt8
structure Rf where
 sc:Int
 gr:Str
 nm:Str
 deriving DecidableEq,Inhabited
structure En where
 at':Rf
 n:Int
 l:List Str
 deriving DecidableEq,Inhabited
structure Rw where
 item:Str
 l:List En
 deriving DecidableEq,Inhabited
structure Dc where
 head:List En
 rows:List Rw
 deriving DecidableEq,Inhabited
def Y5 (l:List Str):PV:= .sl .no (l.map .str)
def ref (r:Rf):PV:= .agg [.int .i64 r.sc,.str r.gr,.str r.nm]
def ent (e:En):PV:= .agg [.int .i64 e.at'.sc,.str e.at'.gr,.str e.at'.nm,.int .i64 e.n,.sl .no (e.l.map .str)]
def ZX (l:List En):PV:= .sl .no (l.map ent)
def row (r:Rw):PV:= .agg [.str r.item,.sl .no (r.l.map ent)]
def doc (d:Dc):PV:= .agg [.sl .no (d.head.map ent),.sl .no (d.rows.map row)]
def vc1 {x:Bool} {M:KH} {g:FuncId} {args args':List PV} {K:KR} {r:PV} (b:PL.Pure prog g args' r) (c:K.k r M.m) (a:KD M.m args:=by first|(simp only[go_sem,ref,ent,ZX,doc,Y5,row];done)|exact rfl) (d:KO M.m args=args':=by first|(simp only[go_sem,ref,ent,ZX,doc,Y5,row];done)|exact rfl):@V8 prog x M (Hs (g,args)) K:=YN b a d c
def ZB (a b:Rf):(a.sc==b.sc&&(a.gr==b.gr&&a.nm==b.nm))=decide (a=b):=by
 cases a;cases b;rw[Jo];simp
def Z8 {l:List Str} {i:Nat} (h:i<l.length):(l.map KQ).getD i .any= .str (l.getD i []):=by
 simp[Ja,h]
def Xj {l:List En} {i:Nat} (h:i<l.length):(l.map ent).getD i .any=ent (l.getD i Jd):=by
 simp[Ja,h]
def Wj {l:List Rw} {i:Nat} (h:i<l.length):(l.map row).getD i .any=row (l.getD i Jd):=by
 simp[Ja,h]
def Zh {α:Type} {l:List α} {i:Nat} {d:α} (h:i<l.length):l.getD i d∈l:=by
 rw[Ja,Jq h];exact Kc h
def X3 {α:Type} {a b:List α} {d:α} (f:a.length=b.length) (h:∀j,j<a.length->a.getD j d=b.getD j d):a=b:=by
 apply List.ext_getElem f;intro i c e;have:=h i c;simpa[Ja,c,e]using this
def VD {α:Type} {a b:List α} {d:α} {j:Nat} (h:a.getD j d≠b.getD j d):a≠b:=λe=>h (by rw[e])
def ZcH (a b:List Str) (u:a.length<=maxLen) (w:b.length<=maxLen):Pp 84 [Y5 a,Y5 b] (.bool (decide (a=b))):=by
 by_cases p:a.length=b.length;have m:((a.length:Int) !=(b.length:Int))=false:=by rw[p];exact bne_self_eq_false _
 refine ZM func84 rfl ntmps84 results84 ?_;simp only[go_sem,Y5,m];refine ZA (ι:= { k:Nat // k<=a.length/\ ∀j,j<k->a.getD j []=b.getD j [] }) 26 (λx=> [(0,Y5 a),(1,Y5 b),(5,.int .i64 (x.1:Int))]) (λx=> []) (λx=> []) (λx=>a.length-x.1) ⟨0,by omega,λj r=>by omega⟩
  ⟨rfl,(Fc3 rfl rfl rfl),fnl,fnl⟩ (λx=>⟨(Fc3 rfl rfl rfl),fnl⟩) (λx=> ?_)
 obtain⟨k,y,f⟩:=x;simp only;by_cases h:(k:Int)<(a.length:Int);have l:k<a.length:=by omega
 have n:k<b.length:=by omega
 have v:=Wa l u;have s:=Jb k
 have t:(k:Int)<(b.length:Int):=by omega
 by_cases o:a.getD k []=b.getD k [];have i:(a.getD k []==b.getD k [])=true:=beq_iff_eq.2 o;simp only[go_sem,Y5,h];refine vDq ?_;simp only[go_sem,Z8 l,Z8 n,h,s,t,i,v];exact⟨⟨k+1,by omega,λj r=>by
  rcases KM j k with q|q;exact f j q;obtain rfl:j=k:=by omega
  exact o⟩,nx9 (by omega),⟨rfl,(Fc3 rfl rfl rfl),fnl,fnl⟩⟩
 have i:(a.getD k []==b.getD k [])=false:=beq_eq_false_iff_ne.2 o;have c:¬a=b:=VD o;simp only[go_sem,Y5,h];refine vDq ?_;simp only[go_sem,Z8 l,Z8 n,h,s,t,i,c];have c:decide (a=b)=true:=decide_eq_true (X3 (d:= []) p λj r=>f j (by omega));simp only[go_sem,Y5,h,c];have m:((a.length:Int) !=(b.length:Int))=true:=bne_iff_ne.2 (by omega);have c:¬a=b:=λe=>p (by rw[e])
 refine ZM func84 rfl ntmps84 results84 ?_;simp only[go_sem,Y5,m,c]
open Go.PL
def idx {α:Type} (p:α->Bool) (l:List α):Int:=match l.findIdx? p with|some i=>(i:Int)|none=> -1
def XL {α:Type} {p:α->Bool} {l:List α} {k:Nat} {d:α} (a:k<l.length) (h:∀j,j<k->p (l.getD j d)=Hf) (hp:p (l.getD k d)=Ht):idx p l=k:=by
 have:l.findIdx? p=Hs k:=by
  rw[Jt];refine⟨a,?_,λj b=> ?_⟩;simpa[Ja,a]using hp;have:=h j b;simp[Ja,show j<l.length by omega]at this;simp[this]
 simp[idx,this]
def SE {α:Type} {p:α->Bool} {l:List α} {d:α} (h:∀j,j<l.length->p (l.getD j d)=Hf):idx p l= -1:=by
 have:l.findIdx? p=none:=by
  rw[JZ];intro x b;obtain⟨j,a,rfl⟩:=JG b;have:=h j a;simpa[Ja,a]using this
 simp[idx,this]
def Zm {p:Nat->Prop} {k:Nat} (h:∀j,j<k->p j) (b:p k):∀j,j<k+1->p j:=λj c=>by
 rcases KM j k with a|a;exact h j a;obtain rfl:j=k:=by omega
 exact b
def Zvv {a b:En} (c:a.at'=b.at') (d:a.n=b.n) (e:a.l=b.l):a=b:=by
 cases a;cases b;simp_all
def Tx (a b:List En) (z:a.length<=maxLen) (C:b.length<=maxLen) (v:∀e∈a,e.l.length<=maxLen) (w:∀e∈b,e.l.length<=maxLen):Pp 41 [ZX a,ZX b] (.bool (decide (a=b))):=by
 by_cases y:a.length=b.length;have o:((a.length:Int) !=(b.length:Int))=false:=by rw[y];exact bne_self_eq_false _
 refine ZM func41 rfl ntmps41 results41 ?_;simp only[go_sem,ZX,o];refine ZA (ι:= { k:Nat // k<=a.length/\ ∀j,j<k->a.getD j Jd=b.getD j Jd }) 55 (λx=> [(0,ZX a),(1,ZX b),(5,.int .i64 (x.1:Int))]) (λx=> []) (λx=> []) (λx=>a.length-x.1) ⟨0,by omega,λj A=>by omega⟩
  ⟨rfl,(Fc3 rfl rfl rfl),fnl,fnl⟩ (λx=>⟨(Fc3 rfl rfl rfl),fnl⟩) (λx=> ?_)
 obtain⟨k,D,n⟩:=x;simp only;by_cases h:(k:Int)<(a.length:Int);have f:k<a.length:=by omega
 have l:k<b.length:=by omega
 have B:=Wa f z;have t:=Jb k
 have u:(k:Int)<(b.length:Int):=by omega
 have s:=ZcH _ _ (v _ (Zh (d:=Jd) f)) (w _ (Zh (d:=Jd) l));by_cases p:(a.getD k Jd).at'=(b.getD k Jd).at';have i:=decide_eq_true p;by_cases q:(a.getD k Jd).n=(b.getD k Jd).n;have m:((a.getD k Jd).n !=(b.getD k Jd).n)=false:=by rw[q];exact bne_self_eq_false _
 by_cases r:(a.getD k Jd).l=(b.getD k Jd).l;rw[decide_eq_true r]at s;simp only[go_sem,ZX,h];refine vDq ?_;simp only[go_sem,Xj f,Xj l,ent,h,t,u,ZB,i,m];refine vc1 s ?_;simp only[go_sem,B];exact⟨⟨k+1,by omega,Zm n (Zvv p q r)⟩,nx9 (by omega),⟨rfl,(Fc3 rfl rfl rfl),fnl,fnl⟩⟩;rw[decide_eq_false r]at s;have c:¬a=b:=λe=>r (by rw[e])
 simp only[go_sem,ZX,h];refine vDq ?_;simp only[go_sem,Xj f,Xj l,ent,h,t,u,ZB,i,m];refine vc1 s ?_;simp only[go_sem,c];have m:((a.getD k Jd).n !=(b.getD k Jd).n)=true:=bne_iff_ne.2 q;have c:¬a=b:=λe=>q (by rw[e])
 simp only[go_sem,ZX,h];refine vDq ?_;simp only[go_sem,Xj f,Xj l,ent,h,t,u,ZB,i,m,c];have i:=decide_eq_false p;have c:¬a=b:=λe=>p (by rw[e])
 simp only[go_sem,ZX,h];refine vDq ?_;simp only[go_sem,Xj f,Xj l,ent,h,t,u,ZB,i,c];have c:decide (a=b)=true:=decide_eq_true (X3 (d:=Jd) y λj A=>n j (by omega));simp only[go_sem,ZX,h,c];have o:((a.length:Int) !=(b.length:Int))=true:=bne_iff_ne.2 (by omega);have c:¬a=b:=λe=>y (by rw[e])
 refine ZM func41 rfl ntmps41 results41 ?_;simp only[go_sem,ZX,o,c]
open Go.PL
def U8 {α:Type} {p:α->Bool} {l:List α} {k:Nat} {d:α} (a:k<l.length) (h:p (l.getD k d)=Ht):l.any p=true:=
 Kz.2 ⟨_,Zh a,h⟩
def UC {α:Type} {p:α->Bool} {l:List α} {d:α} (h:∀j,j<l.length->p (l.getD j d)=Hf):l.any p=false:=by
 rw[Kx];intro x b;obtain⟨j,a,rfl⟩:=JG b;have:=h j a;simpa[Ja,a]using this
def Wm (n:Nat) (s:Str):Bool:=decide ((n:Int)<(s.length:Int))
def Zfd (d:Dc):Prop:=d.head.length<=maxLen/\d.rows.length<=maxLen/\(∀e∈d.head,e.l.length<=maxLen)/\ ∀r∈d.rows,r.l.length<=maxLen/\ ∀e∈r.l,e.l.length<=maxLen
open Go.PL
@[go_sem] theorem Zvn {α:Type}:(#[]:Array α).isEmpty=true:=rfl
theorem Yx {α:Type} (p:α->Bool) (l:List α):idx p l= -1\/ ∃k:Nat,k<l.length/\idx p l=k:=by
 unfold idx;cases h:l.findIdx? p with
 |none=>exact .inl rfl
 |some k=>
  rw[Jt]at h;exact .inr ⟨k,h.1,rfl⟩
def Yl {n b:Nat} (c:n<=100000000000) (a:b<=1000):ZkQ n b:=by
 refine⟨?_,by unfold maxLen;omega⟩
 calc n*b<=100000000000*1000:=Nat.mul_le_mul c a
  _<=140737488355328:=by decide
@[go_sem] theorem Zv6 (n:Nat):Sized n []=True:=by simp[Sized]
@[go_sem] theorem Zu8 (n:Nat) (e:PV) (l:List PV):Sized n (e::l)=(e.cells.length=n/\Sized n l):=by simp[Sized]
@[go_sem] theorem Zvo:XF []=True:=by simp[XF]
@[go_sem] theorem ZuY (e:PV) (l:List PV):XF (e::l)=(e.cells.all KP=Ht/\XF l):=by simp[XF]
def Yb (l:List Str):Sized 1 (l.map .str):=λe a=>by
 obtain⟨x,_,rfl⟩:=JE.1 a;rfl
def Xr (l:List Str):XF (l.map .str):=λe a=>by
 obtain⟨x,_,rfl⟩:=JE.1 a;rfl
def ZlX (r:Rw) (it:Str):Pp 119 [row r,.rptr [.str it]] (.bool (r.item==it)):=by
 refine ZM func119 rfl ntmps119 results119 ?_;simp only[go_sem,row]
def ZdC (e:En) (r:Rf):Pp 120 [ent e,.rptr [.int .i64 r.sc,.str r.gr,.str r.nm]] (.bool (decide (e.at'=r))):=by
 refine ZM func120 rfl ntmps120 results120 ?_;simp only[go_sem,ent,ZB]
def GO (l:List Rw) (g:FuncId) (cs:List PV) (p:Rw->Bool) (n:l.length<=maxLen) (hp:∀r∈l,Pp g [row r,.rptr cs] (.bool (p r))):
  Pp 115 [.sl .no (l.map row),.fn g [.rptr cs]] (.int .i64 (idx p l)):=by
 refine ZM func115 rfl ntmps115 results115 ?_;simp only[go_sem];refine ZA (ι:= { k:Nat // k<=l.length/\ ∀j,j<k->p (l.getD j Jd)=Hf }) 19 (λx=> [(0,.sl .no (l.map row)),(1,.fn g [.rptr cs]),(7,.int .i64 (l.length:Int)),(8,.int .i64 (x.1:Int))]) (λx=> []) (λx=> []) (λx=>l.length-x.1) ⟨0,by omega,λj m=>by omega⟩
  ⟨rfl,(Fc4 rfl rfl rfl rfl),fnl,fnl⟩ (λx=>⟨(Fc4 rfl rfl rfl rfl),fnl⟩) (λx=> ?_)
 obtain⟨k,q,a⟩:=x;simp only;by_cases h:(k:Int)<(l.length:Int);have b:k<l.length:=by omega
 have o:=Wa b n;have i:=Jb k
 have c:=hp _ (Zh (d:=Jd) b);cases e:p (l.getD k Jd);rw[e]at c;simp only[go_sem,h,Wj b,row,i];refine vc1 c ?_;simp only[go_sem,o];exact⟨⟨k+1,by omega,Zm a e⟩,nx9 (by omega),⟨rfl,(Fc4 rfl rfl rfl rfl),fnl,fnl⟩⟩;rw[e]at c;have f:=XL (p:=p) b a e;simp only[go_sem,h,Wj b,row,i];refine vc1 c ?_;simp only[go_sem,f];have f:=SE (p:=p) (d:=Jd) (l:=l) (λj m=>a j (by omega));simp only[go_sem,h,f]
def U5 (l:List En) (g:FuncId) (cs:List PV) (p:En->Bool) (n:l.length<=maxLen) (hp:∀r∈l,Pp g [ent r,.rptr cs] (.bool (p r))):
  Pp 76 [.sl .no (l.map ent),.fn g [.rptr cs]] (.int .i64 (idx p l)):=by
 refine ZM func76 rfl ntmps76 results76 ?_;simp only[go_sem];refine ZA (ι:= { k:Nat // k<=l.length/\ ∀j,j<k->p (l.getD j Jd)=Hf }) 19 (λx=> [(0,.sl .no (l.map ent)),(1,.fn g [.rptr cs]),(7,.int .i64 (l.length:Int)),(8,.int .i64 (x.1:Int))]) (λx=> []) (λx=> []) (λx=>l.length-x.1) ⟨0,by omega,λj m=>by omega⟩
  ⟨rfl,(Fc4 rfl rfl rfl rfl),fnl,fnl⟩ (λx=>⟨(Fc4 rfl rfl rfl rfl),fnl⟩) (λx=> ?_)
 obtain⟨k,q,a⟩:=x;simp only;by_cases h:(k:Int)<(l.length:Int);have b:k<l.length:=by omega
 have o:=Wa b n;have i:=Jb k
 have c:=hp _ (Zh (d:=Jd) b);cases e:p (l.getD k Jd);rw[e]at c;simp only[go_sem,h,Xj b,ent,i];refine vc1 c ?_;simp only[go_sem,o];exact⟨⟨k+1,by omega,Zm a e⟩,nx9 (by omega),⟨rfl,(Fc4 rfl rfl rfl rfl),fnl,fnl⟩⟩;rw[e]at c;have f:=XL (p:=p) b a e;simp only[go_sem,h,Xj b,ent,i];refine vc1 c ?_;simp only[go_sem,f];have f:=SE (p:=p) (d:=Jd) (l:=l) (λj m=>a j (by omega));simp only[go_sem,h,f]
theorem XI (l:List Str):JI (l.map .str)= []:=by
 induction l with
 |nil=>rfl
 |cons t l ih=>simp only[JH,JI,ih,J3,Jp]
def WV (e:En):(ent e).dids= []:=by simp only[ent,J3,JI,XI,Jp]
def Vp (e:En) (b:e.l.length<=1000000):Pp 86 [ent e] (ent e):=by
 have a:=Yl (show e.l.length<=100000000000 by omega) (show 16<=1000 by omega);refine ZS func86 rfl ntmps86 results86 (WV _) ?_;simp only[go_sem,ent,Yb,Xr,a]
open Go.PL
def atE (r:Rf):En->Bool:=λe=>decide (e.at'=r)
def atR (it:Str):Rw->Bool:=λr=>r.item==it
def Vg (d:Dc) (it:Str) (r:Rf):Int×Int×Int:=
 if it= []then(if idx (atE r) d.head<0 then(0,0,6)else(-1,idx (atE r) d.head,0))
 else if idx (atR it) d.rows<0 then(0,0,12)
 else if idx (atE r) (d.rows.getD (idx (atR it) d.rows).toNat Jd).l<0 then(0,0,6)
 else(idx (atR it) d.rows,idx (atE r) (d.rows.getD (idx (atR it) d.rows).toNat Jd).l,0)
def ZjP (x:Int×Int×Int):PV:= .tup [.int .i64 x.1,.int .i64 x.2.1,.int .i64 x.2.2]
attribute [go_sem] Bool.not_eq_true'
def ZhW {s:Str} (h:s= []):(s== [])=true:=by rw[h];rfl
def Zec {s:Str} (h:¬s= []):(s== [])=false:=beq_eq_false_iff_ne.2 h
def ZgT (d:Dc) (it:Str) (r:Rf) (q:Zfd d):Pp 85 [doc d,.str it,ref r] (ZjP (Vg d it r)):=by
 obtain⟨m,n,u,o⟩:=q;by_cases c:it= []
 ·have a:=ZhW c;have b:=U5 d.head 120 [.int .i64 r.sc,.str r.gr,.str r.nm] (atE r) m (λe _=>ZdC e r);by_cases f:idx (atE r) d.head<0
  all_goals
   refine ZM func85 rfl ntmps85 results85 ?_;simp only[go_sem,doc,ref,a];refine vc1 b ?_;simp only[go_sem,f,ZjP,Vg,c]
 have a:=Zec c;have b:=GO d.rows 119 [.str it] (atR it) n (λe _=>ZlX e it);by_cases f:idx (atR it) d.rows<0;refine ZM func85 rfl ntmps85 results85 ?_;simp only[go_sem,doc,ref,a];refine vc1 b ?_;simp only[go_sem,f,ZjP,Vg,c];rcases Yx (atR it) d.rows with h|⟨k,j,h⟩;omega;have i:=U5 (d.rows.getD k Jd).l 120 [.int .i64 r.sc,.str r.gr,.str r.nm] (atE r) (o _ (Zh j)).1 (λe _=>ZdC e r);have s:=Jb k
 have t:(k:Int)<(d.rows.length:Int):=by omega
 have l:¬(k:Int)<0:=by omega
 rw[h]at b;by_cases p:idx (atE r) (d.rows.getD k Jd).l<0
 all_goals
  refine ZM func85 rfl ntmps85 results85 ?_;simp only[go_sem,doc,ref,a];refine vc1 b ?_;simp only[go_sem,s,t,l,Wj j,row];refine vc1 i ?_;simp only[go_sem,p,ZjP,Vg,c,h,l]
def Xh (d:Dc) (it:Str) (r:Rf):En×Int:=
 if it= []then(if idx (atE r) d.head<0 then(Jd,6)else(d.head.getD (idx (atE r) d.head).toNat Jd,0))
 else if idx (atR it) d.rows<0 then(Jd,12)
 else if idx (atE r) (d.rows.getD (idx (atR it) d.rows).toNat Jd).l<0 then(Jd,6)
 else((d.rows.getD (idx (atR it) d.rows).toNat Jd).l.getD (idx (atE r) (d.rows.getD (idx (atR it) d.rows).toNat Jd).l).toNat Jd,0)
def ZpZ (x:En×Int):PV:= .tup [ent x.1,.int .i64 x.2]
def TN (x:En×Int):(ZpZ x).dids= []:=by simp only[ZpZ,J3,JI,WV,Jp]
theorem Gm:ent Jd= .agg [.int .i64 0,.str [],.str [],.int .i64 0,.sl .no []]:=rfl
def Zfq (d:Dc):Prop:=(∀e∈d.head,e.l.length<=1000000)/\ ∀r∈d.rows,∀e∈r.l,e.l.length<=1000000
def Zfc (d:Dc) (it:Str) (r:Rf) (l:Zfd d) (p:Zfq d):Pp 42 [doc d,.str it,ref r] (ZpZ (Xh d it r)):=by
 have a:=ZgT d it r l;obtain⟨u,v,w,x⟩:=l;unfold Vg at a;unfold Xh;by_cases m:it= [];rw[if_pos m]at a ⊢;rcases Yx (atE r) d.head with b|⟨k,e,b⟩;rw[b]at a ⊢;refine ZS func42 rfl ntmps42 results42 (TN _) ?_;simp only[go_sem,doc,ref];refine vc1 a ?_;simp only[go_sem,ZjP,ZpZ,Gm];have i:=Jb k
 have j:(k:Int)<(d.head.length:Int):=by omega
 have c:¬(k:Int)<0:=by omega
 have h:=Vp (d.head.getD k Jd) (p.1 _ (Zh e));rw[b,if_neg c]at a;rw[b,if_neg c];refine ZS func42 rfl ntmps42 results42 (TN _) ?_;simp only[go_sem,doc,ref];refine vc1 a ?_;simp only[go_sem,ZjP,i,j,Xj e,ent];refine vc1 h ?_;simp only[go_sem,ZpZ,ent];rw[if_neg m]at a ⊢;rcases Yx (atR it) d.rows with b|⟨k,e,b⟩;rw[b]at a ⊢;refine ZS func42 rfl ntmps42 results42 (TN _) ?_;simp only[go_sem,doc,ref];refine vc1 a ?_;simp only[go_sem,ZjP,ZpZ,Gm];have i:=Jb k
 have j:(k:Int)<(d.rows.length:Int):=by omega
 have c:¬(k:Int)<0:=by omega
 rw[b,if_neg c]at a;rw[b,if_neg c];simp only[Kw]at a ⊢;rcases Yx (atE r) (d.rows.getD k Jd).l with f|⟨n,o,f⟩;rw[f]at a ⊢;refine ZS func42 rfl ntmps42 results42 (TN _) ?_;simp only[go_sem,doc,ref];refine vc1 a ?_;simp only[go_sem,ZjP,ZpZ,Gm];have s:=Jb n
 have t:(n:Int)<((d.rows.getD k Jd).l.length:Int):=by omega
 have q:¬(n:Int)<0:=by omega
 have h:=Vp ((d.rows.getD k Jd).l.getD n Jd) (p.2 _ (Zh e) _ (Zh o));rw[f,if_neg q]at a;rw[f,if_neg q];refine ZS func42 rfl ntmps42 results42 (TN _) ?_;simp only[go_sem,doc,ref];refine vc1 a ?_;simp only[go_sem,ZjP,i,j,c,Wj e,row,s,t,Xj o,ent];refine vc1 h ?_;simp only[go_sem,ZpZ,ent]
open Go.PL
structure Fd where
 at':Rf
 kind:Int
 df:Str
 cases':List Str
 worth:Int
 deriving DecidableEq,Inhabited
def fld (f:Fd):PV:= .agg [.int .i64 f.at'.sc,.str f.at'.gr,.str f.at'.nm,.int .i64 f.kind,.str f.df,.sl .no (f.cases'.map .str),.int .i64 f.worth]
def Zt (l:List Fd):PV:= .sl .no (l.map fld)
def vc2 {x:Bool} {M:KH} {g:FuncId} {args args':List PV} {K:KR} {r:PV} (b:PL.Pure prog g args' r) (c:K.k r M.m) (a:KD M.m args:=by first|(simp only[go_sem,ref,ent,ZX,doc,Y5,row,Zt,fld];done)|exact rfl) (d:KO M.m args=args':=by first|(simp only[go_sem,ref,ent,ZX,doc,Y5,row,Zt,fld];done)|exact rfl):@V8 prog x M (Hs (g,args)) K:=YN b a d c
def ZY {l:List Fd} {i:Nat} (h:i<l.length):(l.map fld).getD i .any=fld (l.getD i Jd):=by
 simp[Ja,h]
def ZD (f:Fd):En:=⟨f.at',0,if f.kind=1\/f.kind=4 then []else [f.df]⟩
attribute [go_sem] Zbu
def ZcM (f:Fd):Pp 58 [fld f] (ent (ZD f)):=by
 by_cases c:f.kind=1;have a:(f.kind !=1)=false:=by rw[c];rfl
 refine ZS func58 rfl ntmps58 results58 (WV _) ?_;simp only[go_sem,fld,ent,ZD,a];simp[c];have a:(f.kind !=1)=true:=bne_iff_ne.2 c;by_cases d:f.kind=4;have b:(f.kind !=4)=false:=by rw[d];rfl
 refine ZS func58 rfl ntmps58 results58 (WV _) ?_;simp only[go_sem,fld,ent,ZD,a,b];simp[d];have b:(f.kind !=4)=true:=bne_iff_ne.2 d;refine ZS func58 rfl ntmps58 results58 (WV _) ?_;simp only[go_sem,fld,ent,ZD,a,b,c,d,or_self]
def ZZ (l:List Fd) (sc:Int):List En:=(l.filter λf=>f.at'.sc==sc).map ZD
def Sc (l:List En):Sized 5 (l.map ent):=λe a=>by
 obtain⟨x,_,rfl⟩:=JE.1 a;rfl
def Zfw (l:List En):XF (l.map ent):=λe a=>by
 obtain⟨x,_,rfl⟩:=JE.1 a;rfl
def Zl0 (e:En):Sized 5 [KT [.int .i64 e.at'.sc,.str e.at'.gr,.str e.at'.nm,.int .i64 e.n,.sl .no (e.l.map .str)]]:=Sc [e]
def Zk1 (e:En):XF [KT [.int .i64 e.at'.sc,.str e.at'.gr,.str e.at'.nm,.int .i64 e.n,.sl .no (e.l.map .str)]]:=Zfw [e]
def ZtN (l:List En) (e:En):l.map ent++ [KT [.int .i64 e.at'.sc,.str e.at'.gr,.str e.at'.nm,.int .i64 e.n,.sl .no (e.l.map .str)]]=(l++ [e]).map ent:=by simp[ent]
def ZQ {α:Type} {l:List α} {k:Nat} (h:k<l.length) {d:α}:l.take (k+1)=l.take k++ [l.getD k d]:=by
 rw[JP h,Ja,Jq h];rfl
def Zk4 (l:List Fd) (sc:Int):(ZZ l sc).length<=l.length:=by
 simp only[ZZ,JC];exact List.length_filter_le _ _
theorem TJ (l:List En):JI (l.map ent)= []:=by
 induction l with
 |nil=>rfl
 |cons e l ih=>rw[JH,JI,ih,WV];rfl
def VS (l:List En):(ZX l).dids= []:=by simp only[ZX,J3,TJ]
def ZaJ (l:List Fd) (sc:Int) (q:l.length<=1000000):Pp 35 [Zt l,.int .i64 sc] (ZX (ZZ l sc)):=by
 have n:l.length<=maxLen:=by rw[Zd];omega
 refine ZS func35 rfl ntmps35 results35 (VS _) ?_;simp only[go_sem,Zt];refine YJ 5 23 5 64 rfl rfl ?_;refine ZA (ι:= { k:Nat // k<=l.length }) 26 (λx=> [(1,.int .i64 sc),(5,.sl (.row 23) ((ZZ (l.take x.1) sc).map ent)),(8,Zt l),(9,.int .i64 (l.length:Int)),(10,.int .i64 (x.1:Int))]) (λx=> []) (λx=> [(23,.live (ZZ (l.take x.1) sc).length 5 64)]) (λx=>l.length-x.1) ⟨0,by omega⟩
  ⟨rfl,(Fc5 rfl rfl rfl rfl rfl),fnl,(fcs rfl fnl)⟩ (λx=>⟨Fc5 rfl (by simp[Jw,ZR]) rfl rfl rfl,fnl⟩) (λx=> ?_)
 obtain⟨k,p⟩:=x;simp only;by_cases h:(k:Int)<(l.length:Int);have a:k<l.length:=by omega
 have j:=Wa a n;have i:=Jb k
 have m:=ZcM (l.getD k Jd);have f:=Zk4 (l.take k) sc;have e:(l.take k).length<=k:=List.length_take_le _ _;have o:=Yl (show(ZZ (l.take k) sc).length+1<=100000000000 by omega) (show 72<=1000 by omega);cases c:((l.getD k Jd).at'.sc==sc);have b:ZZ (l.take (k+1)) sc=ZZ (l.take k) sc:=by
  rw[ZQ a (d:=Jd)];simp only[ZZ,Kr,KA,c,JL,if_false,KE,Jp]
 simp only[go_sem,Zt,h,ZY a,fld,i,c,j];exact⟨⟨k+1,by omega⟩,nx9 (by omega),⟨rfl,Fc5 rfl (by show KU _ _=KU _ _;rw[b]) rfl rfl rfl,fnl,fcs (by show Hs _=Hs _;rw[b]) fnl⟩⟩;have b:ZZ (l.take (k+1)) sc=ZZ (l.take k) sc++ [ZD (l.getD k Jd)]:=by
  rw[ZQ a (d:=Jd)];simp only[ZZ,Kr,KA,c,if_true,KE,Kg,JH,Kd]
 generalize hv:ZD (l.getD k Jd)=v at *;simp only[go_sem,Zt,h,ZY a,fld,i,c];refine vc2 m ?_;simp only[go_sem,ent,Sc,Zl0,Zk1,o,j];exact⟨⟨k+1,by omega⟩,nx9 (by omega),⟨rfl,Fc5 rfl (by show KU _ _=KU _ _;rw[b,<-ZtN]) rfl rfl rfl,fnl,fcs (by show Hs _=Hs _;rw[b,Je];rfl) fnl⟩⟩;obtain rfl:k=l.length:=by omega
 simp only[go_sem,h,ZX,JR]
def Zed (l:List En):(doc ⟨l,[]⟩).dids= []:=by simp only[doc,J3,JI,TJ,Kd,Jp]
def Zcz (l:List Fd) (b:l.length<=1000000):Pp 12 [Zt l] (doc ⟨ZZ l 0,[]⟩):=by
 have a:=ZaJ l 0 b;refine ZS func12 rfl ntmps12 results12 (Zed _) ?_;simp only[go_sem,Zt];refine vc2 a ?_;simp only[go_sem,ZX,doc]
def ZbG:List Fd:= [⟨⟨0,[],[99,111,117,112,111,110]⟩,2,[],[],0⟩,⟨⟨1,[],[110,111,116,101]⟩,2,[],[],0⟩,⟨⟨1,[],[113,116,121]⟩,1,[],[],1⟩,
 ⟨⟨1,[],[115,105,122,101]⟩,3,[109,101,100,105,117,109],[[115,109,97,108,108],[109,101,100,105,117,109],[108,97,114,103,101]],0⟩,⟨⟨1,[],[116,97,103,115]⟩,4,[],[],0⟩]
def V5 (l:List Fd):Sized 7 (l.map fld):=λe a=>by
 obtain⟨x,_,rfl⟩:=JE.1 a;rfl
theorem ZfH (l:List Fd):JI (l.map fld)= []:=by
 induction l with
 |nil=>rfl
 |cons e l ih=>rw[JH,JI,ih];simp only[fld,J3,JI,XI,Jp]
def TS (l:List Fd):(Zt l).dids= []:=by simp only[Zt,J3,ZfH]
open Go.PL
@[go_sem] theorem ZA1:((0:Nat):Int)=0:=rfl
@[go_sem] theorem ZA2:((1:Nat):Int)=1:=rfl
attribute [go_sem] Int.cast_ofNat_Int
def nm (s:Str) (i:Nat):Int:=((s.getD i 0).toNat:Int)
def ZlG (s:Str) (i:Nat):Bool:=decide (97<=nm s i/\nm s i<=122)||(decide (48<=nm s i/\nm s i<=57)&&decide (i≠0))
def Z0 (s:Str):Bool:=decide (1<=s.length/\s.length<=12)&&(JS s.length).all (ZlG s)
theorem Vj (s:Str) (i:Nat):((s.getD i 0).toNat:Int)=nm s i:=rfl
def Y0 (s:Str):Pp 21 [.str s] (.bool (Z0 s)):=by
 by_cases n:(s.length:Int)<1;have a:Z0 s=false:=by simp only[Z0,show ¬(1<=s.length/\s.length<=12)by omega,decide_false,Jf]
 refine ZM func21 rfl ntmps21 results21 ?_;simp only[go_sem,n,a];by_cases p:(12:Int)<(s.length:Int);have a:Z0 s=false:=by simp only[Z0,show ¬(1<=s.length/\s.length<=12)by omega,decide_false,Jf]
 refine ZM func21 rfl ntmps21 results21 ?_;simp only[go_sem,n,p,a];have r:Z0 s=(JS s.length).all (ZlG s):=by simp only[Z0,show(1<=s.length/\s.length<=12)by omega,and_self,decide_true,Jj]
 refine ZM func21 rfl ntmps21 results21 ?_;simp only[go_sem,n,p];refine ZA (ι:= { k:Nat // k<=s.length/\ ∀j,j<k->ZlG s j=Ht }) 50 (λx=> [(0,.str s),(15,.int .i64 (s.length:Int)),(16,.int .i64 (x.1:Int))]) (λx=> []) (λx=> []) (λx=>s.length-x.1) ⟨0,by omega,λj q=>by omega⟩
  ⟨rfl,(Fc3 rfl rfl rfl),fnl,fnl⟩ (λx=>⟨(Fc3 rfl rfl rfl),fnl⟩) (λx=> ?_)
 obtain⟨k,w,d⟩:=x;simp only;by_cases h:(k:Int)<(s.length:Int);have o:k<s.length:=by omega
 have u:=wk9 (k:=k) (by omega)
 have i:=Jb k
 cases l:ZlG s k;have a:Z0 s=false:=by
  rw[r,JD];exact⟨k,by simpa using o,by simp[l]⟩
 simp only[ZlG,Kk,decide_eq_false_iff_not,Kh]at l;by_cases e:97<=nm s k;have m:¬nm s k<=122:=by omega
 have b:48<=nm s k:=by omega
 have c:¬nm s k<=57:=by omega
 simp only[go_sem,h,i,Vj,e,m,b,c,a];by_cases b:48<=nm s k;by_cases c:nm s k<=57;have f:((k:Int)==0)=true:=by
  rw[beq_iff_eq];rcases l.2 with v|v<;>omega
 simp only[go_sem,h,i,Vj,e,b,c,f,a];simp only[go_sem,h,i,Vj,e,b,c,a];simp only[go_sem,h,i,Vj,e,b,a];have t:∀j,j<k+1->ZlG s j=true:=Zm d l;simp only[ZlG,KF,decide_eq_true_eq,KB]at l;by_cases e:97<=nm s k;have m:nm s k<=122:=by omega
 have b:48<=nm s k:=by omega
 have c:¬nm s k<=57:=by omega
 simp only[go_sem,h,i,Vj,e,m,b,c,u];exact⟨⟨k+1,by omega,t⟩,nx9 (by omega),⟨rfl,(Fc3 rfl rfl rfl),fnl,fnl⟩⟩;have b:48<=nm s k:=by omega
 have c:nm s k<=57:=by omega
 have f:((k:Int)==0)=false:=beq_eq_false_iff_ne.2 (by omega);simp only[go_sem,h,i,Vj,e,b,c,f,u];exact⟨⟨k+1,by omega,t⟩,nx9 (by omega),⟨rfl,(Fc3 rfl rfl rfl),fnl,fnl⟩⟩;have a:Z0 s=true:=by
  rw[r,JF];intro j q;exact d j (by have:=JQ.1 q;omega)
 simp only[go_sem,h,a]
def Vd (r:Rf):Bool:=(decide (r.sc=0)||decide (r.sc=1))&&(Z0 r.nm&&(decide (r.gr= [])||Z0 r.gr))
def DM (r:Rf):Pp 131 [ref r] (.bool (Vd r)):=by
 have c:=Y0 r.nm;have j:=Y0 r.gr;by_cases h:r.sc=0\/r.sc=1;have i:(decide (r.sc=0)||decide (r.sc=1))=true:=by simpa using h
 have key:Pp 131 [ref r] (.bool (Z0 r.nm&&(decide (r.gr= [])||Z0 r.gr))):=by
  cases k:Z0 r.nm;rw[k]at c;rcases h with f|b;have q:(r.sc !=0)=false:=by rw[f];rfl
  refine ZM func131 rfl ntmps131 results131 ?_;simp only[go_sem,ref,q];refine vc1 c ?_;simp only[go_sem,Jf];have q:(r.sc !=0)=true:=by rw[b];rfl
  have d:(r.sc !=1)=false:=by rw[b];rfl
  refine ZM func131 rfl ntmps131 results131 ?_;simp only[go_sem,ref,q,d];refine vc1 c ?_;simp only[go_sem,Jf];rw[k]at c;by_cases e:r.gr= [];have a:=ZhW e;rcases h with f|b;have q:(r.sc !=0)=false:=by rw[f];rfl
  refine ZM func131 rfl ntmps131 results131 ?_;simp only[go_sem,ref,q];refine vc1 c ?_;simp only[go_sem,Jj,a,decide_eq_true e];have q:(r.sc !=0)=true:=by rw[b];rfl
  have d:(r.sc !=1)=false:=by rw[b];rfl
  refine ZM func131 rfl ntmps131 results131 ?_;simp only[go_sem,ref,q,d];refine vc1 c ?_;simp only[go_sem,Jj,a,decide_eq_true e];have a:=Zec e;rcases h with f|b;have q:(r.sc !=0)=false:=by rw[f];rfl
  refine ZM func131 rfl ntmps131 results131 ?_;simp only[go_sem,ref,q];refine vc1 c ?_;simp only[go_sem,a];refine vc1 j ?_;simp only[go_sem,Jj,decide_eq_false e];have q:(r.sc !=0)=true:=by rw[b];rfl
  have d:(r.sc !=1)=false:=by rw[b];rfl
  refine ZM func131 rfl ntmps131 results131 ?_;simp only[go_sem,ref,q,d];refine vc1 c ?_;simp only[go_sem,a];refine vc1 j ?_;simp only[go_sem,Jj,decide_eq_false e]
 simp only[Vd,i,Jj];exact key;have q:(r.sc !=0)=true:=bne_iff_ne.2 (by omega);have d:(r.sc !=1)=true:=bne_iff_ne.2 (by omega);have l:Vd r=false:=by
  have:(decide (r.sc=0)||decide (r.sc=1))=false:=by simp;omega
  simp only[Vd,this,Jf]
 refine ZM func131 rfl ntmps131 results131 ?_;simp only[go_sem,ref,q,d,l]
def GR (s:Str):Pp 133 [.str s] (.bool (decide ((s.length:Int)<=40))):=by
 refine ZM func133 rfl ntmps133 results133 ?_;simp only[go_sem]
open Go.PL
def Dx (l:List Str):(Y5 l).dids= []:=by simp only[Y5,J3,XI]
open Go.PL
def Vw (s:Str):Pp 127 [.str s] (.bool (Z0 s)):=by
 by_cases n:(s.length:Int)<1;have a:Z0 s=false:=by simp only[Z0,show ¬(1<=s.length/\s.length<=12)by omega,decide_false,Jf]
 refine ZM func127 rfl ntmps127 results127 ?_;simp only[go_sem,n,a];by_cases p:(12:Int)<(s.length:Int);have a:Z0 s=false:=by simp only[Z0,show ¬(1<=s.length/\s.length<=12)by omega,decide_false,Jf]
 refine ZM func127 rfl ntmps127 results127 ?_;simp only[go_sem,n,p,a];have r:Z0 s=(JS s.length).all (ZlG s):=by simp only[Z0,show(1<=s.length/\s.length<=12)by omega,and_self,decide_true,Jj]
 refine ZM func127 rfl ntmps127 results127 ?_;simp only[go_sem,n,p];refine ZA (ι:= { k:Nat // k<=s.length/\ ∀j,j<k->ZlG s j=Ht }) 50 (λx=> [(0,.str s),(3,.int .i64 (x.1:Int))]) (λx=> []) (λx=> []) (λx=>s.length-x.1) ⟨0,by omega,λj q=>by omega⟩
  ⟨rfl,(Fc2 rfl rfl),fnl,fnl⟩ (λx=>⟨(Fc2 rfl rfl),fnl⟩) (λx=> ?_)
 obtain⟨k,w,d⟩:=x;simp only;by_cases h:(k:Int)<(s.length:Int);have o:k<s.length:=by omega
 have u:=wk9 (k:=k) (by omega)
 have i:=Jb k
 cases l:ZlG s k;have a:Z0 s=false:=by
  rw[r,JD];exact⟨k,by simpa using o,by simp[l]⟩
 simp only[ZlG,Kk,decide_eq_false_iff_not,Kh]at l;by_cases e:97<=nm s k;have m:¬nm s k<=122:=by omega
 have b:48<=nm s k:=by omega
 have c:¬nm s k<=57:=by omega
 simp only[go_sem,h,i,Vj,e,m,b,c,a];by_cases b:48<=nm s k;by_cases c:nm s k<=57;have f:((k:Int)==0)=true:=by
  rw[beq_iff_eq];rcases l.2 with v|v<;>omega
 simp only[go_sem,h,i,Vj,e,b,c,f,a];simp only[go_sem,h,i,Vj,e,b,c,a];simp only[go_sem,h,i,Vj,e,b,a];have t:∀j,j<k+1->ZlG s j=true:=Zm d l;simp only[ZlG,KF,decide_eq_true_eq,KB]at l;by_cases e:97<=nm s k;have m:nm s k<=122:=by omega
 have b:48<=nm s k:=by omega
 have c:¬nm s k<=57:=by omega
 simp only[go_sem,h,i,Vj,e,m,b,c,u];exact⟨⟨k+1,by omega,t⟩,nx9 (by omega),⟨rfl,(Fc2 rfl rfl),fnl,fnl⟩⟩;have b:48<=nm s k:=by omega
 have c:nm s k<=57:=by omega
 have f:((k:Int)==0)=false:=beq_eq_false_iff_ne.2 (by omega);simp only[go_sem,h,i,Vj,e,b,c,f,u];exact⟨⟨k+1,by omega,t⟩,nx9 (by omega),⟨rfl,(Fc2 rfl rfl),fnl,fnl⟩⟩;have a:Z0 s=true:=by
  rw[r,JF];intro j q;exact d j (by have:=JQ.1 q;omega)
 simp only[go_sem,h,a]
def ZoP (r:Rf):Vd r=(decide (0<=r.sc)&&(decide (r.sc<=1)&&(Z0 r.nm&&(decide (r.gr= [])||Z0 r.gr)))):=by
 have:(decide (r.sc=0)||decide (r.sc=1))=(decide (0<=r.sc)&&decide (r.sc<=1)):=by
  rw[Jo];simp;omega
 rw[Vd,this,Bool.and_assoc]
def Zaz (r:Rf):Pp 123 [ref r] (.bool (Vd r)):=by
 rw[ZoP];have b:=Vw r.nm;have a:=Vw r.gr;refine ZM func123 rfl ntmps123 results123 ?_;simp only[go_sem,ref];repeat' ((first|(first|apply Zw|apply Zv|apply ZK)<;>intro h|refine vc1 b ?_|refine vc1 a ?_|refine vDq ?_)<;>first|simp only[go_sem,h]|simp only[go_sem]|skip)
 all_goals (simp_all)
def GP (l:List Str) (s:Str) (m:l.length<=maxLen):Pp 165 [Y5 l,.str s] (.bool (l.any (· == s))):=by
 refine ZM func165 rfl ntmps165 results165 ?_;simp only[go_sem,Y5];refine ZA (ι:= { k:Nat // k<=l.length/\ ∀j,j<k->(l.getD j []==s)=Hf }) 18 (λx=> [(0,Y5 l),(1,.str s),(5,.int .i64 (x.1:Int))]) (λx=> []) (λx=> []) (λx=>l.length-x.1) ⟨0,by omega,λj i=>by omega⟩
  ⟨rfl,(Fc3 rfl rfl rfl),fnl,fnl⟩ (λx=>⟨(Fc3 rfl rfl rfl),fnl⟩) (λx=> ?_)
 obtain⟨k,o,b⟩:=x;simp only;by_cases h:(k:Int)<(l.length:Int);have a:k<l.length:=by omega
 have n:=Wa a m;have f:=Jb k
 cases c:(l.getD k []==s);simp only[go_sem,Y5,h,Z8 a,f,c,n];exact⟨⟨k+1,by omega,Zm b c⟩,nx9 (by omega),⟨rfl,(Fc3 rfl rfl rfl),fnl,fnl⟩⟩;have e:=U8 (p:=(· == s)) a c;simp only[go_sem,Y5,h,Z8 a,f,c,e];have e:=UC (p:=(· == s)) (d:= []) (l:=l) (λj i=>b j (by omega));simp only[go_sem,Y5,h,e]
def V0 (a b:Rf):Bool:=if a.sc≠b.sc then decide (a.sc<b.sc)else if a.gr≠b.gr then Zl a.gr b.gr else Zl a.nm b.nm
open Go.PL
attribute [go_sem] Option.map_some Option.map_none Option.isNone_none
def Zak (l:List Str) (k:Nat):KK k (l.map KQ)=(l.take k).map KQ:=by rw[List.map_take]
def UE (l:List Str) (i:Nat):Bool:=Z0 (l.getD i [])&& !((l.take i).any (· == l.getD i []))
def ZaM (l:List Str):Bool:=(JS l.length).all (UE l)
def Ue {l:List Str} {k:Nat} (a:k<l.length) (h:UE l k=Hf):ZaM l=false:=by
 rw[ZaM,JD];exact⟨k,by simpa using a,by simp[h]⟩
def ZaN {l:List Str} (h:∀j,j<l.length->UE l j=Ht):ZaM l=true:=by
 rw[ZaM,JF];intro j a;exact h j (JQ.1 a)
def ZbR (f:Fd):Bool:=ZaM f.cases'&&(decide ((f.cases'.length:Int)<7)&&f.cases'.any (· == f.df))
def Zha (f:Fd):Bool:= !decide (0<(f.cases'.length:Int))&&((decide (f.kind=2)&&decide ((f.df.length:Int)<41))||(decide (f.kind=4)&&decide (f.df= [])))
def ZT (f:Fd):Bool:=
 Vd f.at'&&(if f.kind=1 then decide (f.df= [])&&(decide ((f.cases'.length:Int)=0)&&(decide (0<f.worth)&&decide (f.worth<1048577)))
  else decide (f.worth=0)&&(if f.kind=3 then ZbR f else Zha f))
def ZhI (f:Fd) (w:f.cases'.length<=maxLen):Pp 122 [fld f] (.bool (ZT f)):=by
 have m:=Zaz f.at';by_cases e:f.kind=3;have z:(f.kind==1)=false:=by rw[e];rfl
 have q:(f.kind==3)=true:=by rw[e];rfl
 cases hp:Vd f.at';rw[hp]at m;refine ZM func122 rfl ntmps122 results122 ?_;simp only[go_sem,fld];refine vc1 m ?_;simp only[go_sem,ZT,hp,Jf];rw[hp]at m;by_cases s:f.worth=0;have d:(f.worth !=0)=false:=by rw[s];rfl
 have p:ZT f=ZbR f:=by
  simp only[ZT,hp,e,s,Jj,decide_true,if_true];rfl
 rw[p];refine ZM func122 rfl ntmps122 results122 ?_;simp only[go_sem,fld];refine vc1 m ?_;simp only[go_sem,z,q,d];refine ZA (ι:= { k:Nat // k<=f.cases'.length/\ ∀j,j<k->UE f.cases' j=Ht }) 96 (λx=> [(1,.ptr 1 0),(3,.int .i64 (x.1:Int))]) (λx=> [(1,[.int .i64 f.at'.sc,.str f.at'.gr,.str f.at'.nm,.int .i64 f.kind,.str f.df,.sl .no (f.cases'.map .str),.int .i64 f.worth],Hf)]) (λx=> []) (λx=>f.cases'.length-x.1) ⟨0,by omega,λj B=>by omega⟩
  ⟨rfl,(Fc2 rfl rfl),fcs ⟨rfl,rfl⟩ fnl,fnl⟩ (λx=>⟨(Fc2 rfl rfl),(fcs rfl fnl)⟩) (λx=> ?_)
 obtain⟨k,D,b⟩:=x;simp only;by_cases h:(k:Int)<(f.cases'.length:Int);have a:k<f.cases'.length:=by omega
 have C:=Wa a w;have c:=Jb k
 have y:(k:Int)<=(f.cases'.length:Int):=by omega
 have n:=Vw (f.cases'.getD k []);have A:(f.cases'.take k).length<=maxLen:=by rw[Jc];omega
 have i:=GP (f.cases'.take k) (f.cases'.getD k []) A;cases o:Z0 (f.cases'.getD k []);rw[o]at n;have u:ZbR f=false:=by simp only[ZbR,Ue a (by simp only[UE,o,Jf]),Jf]
 simp only[go_sem,h,c];refine vDq ?_;simp only[go_sem,Z8 a,h,c];refine vc1 n ?_;simp only[go_sem,u];rw[o]at n;cases r:(f.cases'.take k).any (· == f.cases'.getD k []);rw[r]at i;have ok:UE f.cases' k=true:=by simp only[UE,o,r,Kj,KI]
 simp only[go_sem,h,c];refine vDq ?_;simp only[go_sem,Z8 a,h,c];refine vc1 n ?_;simp only[go_sem,Z8 a,h,c,y,cut,Ke,Zak,Yb];refine vc1 i ?_;simp only[go_sem,C];exact⟨⟨k+1,by omega,Zm b ok⟩,nx9 (by omega),⟨rfl,(Fc2 rfl rfl),fcs ⟨rfl,rfl⟩ fnl,fnl⟩⟩;rw[r]at i;have u:ZbR f=false:=by simp only[ZbR,Ue a (by simp only[UE,o,r,Kq,KG]),Jf]
 simp only[go_sem,h,c];refine vDq ?_;simp only[go_sem,Z8 a,h,c];refine vc1 n ?_;simp only[go_sem,Z8 a,h,c,y,cut,Ke,Zak,Yb];refine vc1 i ?_;simp only[go_sem,u];have v:=ZaN (l:=f.cases') (λj B=>b j (by omega));have i:=GP f.cases' f.df w;by_cases t:(f.cases'.length:Int)<7;simp only[go_sem,h,t];refine vc1 i ?_;simp only[go_sem,ZbR,v,t,Jj];simp only[go_sem,h,t,ZbR,v,Jj,Jf];have d:(f.worth !=0)=true:=bne_iff_ne.2 s;have p:ZT f=false:=by
  simp only[ZT,hp,e,s,Jj,decide_false,Jf];rfl
 refine ZM func122 rfl ntmps122 results122 ?_;simp only[go_sem,fld];refine vc1 m ?_;simp only[go_sem,z,q,d,p];have q:(f.kind==3)=false:=beq_eq_false_iff_ne.2 e;have p:ZT f=(Vd f.at'&&(if f.kind=1 then decide (f.df= [])&&(decide ((f.cases'.length:Int)=0)&&(decide (0<f.worth)&&decide (f.worth<1048577)))else decide (f.worth=0)&&Zha f)):=by
  simp only[ZT,e,if_false]
 rw[p];refine ZM func122 rfl ntmps122 results122 ?_;simp only[go_sem,fld];refine vc1 m ?_;simp only[go_sem];repeat' ((first|(first|apply Zw|apply Zv|apply ZK)<;>intro h|refine vDq ?_)<;>first|simp only[go_sem,h,q]|simp only[go_sem,q]|skip)
 all_goals (simp_all[Zha])
 all_goals (cases f.df<;>simp)
def Xo (f:Fd) (s:Str):Bool:=(ZT f&& !decide (f.kind=1))&&(if f.kind=3 then f.cases'.any (· == s)else decide ((s.length:Int)<41))
open Go.PL
def Zqs {α:Type} {p:α->Bool} {l:List α} {d:α} (h:∀j,j<l.length->p (l.getD j d)=Ht):l.all p=true:=by
 rw[JF];intro x b;obtain⟨j,a,rfl⟩:=JG b;have:=h j a;simpa[Ja,a]using this
def ZmR {α:Type} {p:α->Bool} {l:List α} {k:Nat} {d:α} (a:k<l.length) (h:p (l.getD k d)=Hf):l.all p=false:=by
 rw[JD];exact⟨l.getD k d,Zh a,by rw[h];simp⟩
def Yf {p:Nat->Bool} {n k:Nat} (a:k<n) (h:p k=Hf):(JS n).all p=false:=by
 rw[JD];exact⟨k,by simpa using a,by simp[h]⟩
def UR {p:Nat->Bool} {n:Nat} (h:∀j,j<n->p j=Ht):(JS n).all p=true:=by
 rw[JF];intro j a;exact h j (JQ.1 a)
def Zlh (e:En):Bool:=decide (-4503599627370497<e.n)&&(decide (e.n<4503599627370497)&&((e.l.length:Int)==0))
def FO (f:Fd) (e:En):Bool:=if f.kind=4 then !decide (400<(e.l.length:Int))else decide ((e.l.length:Int)=1)
def FS0 (f:Fd) (e:En):Bool:=e.l.all (Xo f)&&decide (e.n=0)
def YF (f:Fd) (e:En):Bool:=(ZT f&&decide (e.at'=f.at'))&&(if f.kind=1 then Zlh e else FO f e&&FS0 f e)
open Go.PL
structure Pr where
 fr':Str
 to':Str
 deriving DecidableEq,Inhabited
structure Ln where
 kind:Int
 at':Rf
 nm:Str
 ot:Str
 fac:Int
 fd:Fd
 fo:List Pr
 ba:List Pr
 deriving DecidableEq,Inhabited
structure Tg where
 r:Int
 n:Int
 deriving DecidableEq,Inhabited
structure Eg where
 id:Tg
 par:Tg
 ln:Ln
 deriving DecidableEq,Inhabited
structure Lg where
 id:Tg
 down:Bool
 deriving DecidableEq,Inhabited
def pr (p:Pr):PV:= .agg [.str p.fr',.str p.to']
def prs (l:List Pr):PV:= .sl .no (l.map pr)
def refs (l:List Rf):PV:= .sl .no (l.map ref)
def lns (x:Ln):PV:= .agg [.int .i64 x.kind,.int .i64 x.at'.sc,.str x.at'.gr,.str x.at'.nm,.str x.nm,.str x.ot,.int .i64 x.fac,.int .i64 x.fd.at'.sc,.str x.fd.at'.gr,.str x.fd.at'.nm,.int .i64 x.fd.kind,.str x.fd.df,.sl .no (x.fd.cases'.map .str),.int .i64 x.fd.worth,.sl .no (x.fo.map pr),.sl .no (x.ba.map pr)]
def tg (t:Tg):PV:= .agg [.int .i64 t.r,.int .i64 t.n]
def tgs (l:List Tg):PV:= .sl .no (l.map tg)
def lg (t:Lg):PV:= .agg [.int .i64 t.id.r,.int .i64 t.id.n,.bool t.down]
def lgs (l:List Lg):PV:= .sl .no (l.map lg)
def eg (e:Eg):PV:= .agg [.int .i64 e.id.r,.int .i64 e.id.n,.int .i64 e.par.r,.int .i64 e.par.n,.int .i64 e.ln.kind,.int .i64 e.ln.at'.sc,.str e.ln.at'.gr,.str e.ln.at'.nm,.str e.ln.nm,.str e.ln.ot,.int .i64 e.ln.fac,.int .i64 e.ln.fd.at'.sc,.str e.ln.fd.at'.gr,.str e.ln.fd.at'.nm,.int .i64 e.ln.fd.kind,.str e.ln.fd.df,.sl .no (e.ln.fd.cases'.map .str),.int .i64 e.ln.fd.worth,.sl .no (e.ln.fo.map pr),.sl .no (e.ln.ba.map pr)]
def egs (l:List Eg):PV:= .sl .no (l.map eg)
def vc3 {x:Bool} {M:KH} {g:FuncId} {args args':List PV} {K:KR} {r:PV} (b:PL.Pure prog g args' r) (c:K.k r M.m) (a:KD M.m args:=by first|(simp only[go_sem,ref,ent,ZX,doc,Y5,row,Zt,fld,lns,tg,refs,prs,pr,eg,egs,tgs,lg,lgs];done)|exact rfl) (d:KO M.m args=args':=by first|(simp only[go_sem,ref,ent,ZX,doc,Y5,row,Zt,fld,lns,tg,refs,prs,pr,eg,egs,tgs,lg,lgs];done)|exact rfl):@V8 prog x M (Hs (g,args)) K:=YN b a d c
def Xk {α:Type} {enc:α->PV} {l:List α} {i:Nat} {d:α} (h:i<l.length):(l.map enc).getD i .any=enc (l.getD i d):=by
 simp[Ja,h]
def Yi {l:List Pr} {i:Nat} (h:i<l.length):(l.map pr).getD i .any=pr (l.getD i Jd):=Xk h
def XV {l:List Rf} {i:Nat} (h:i<l.length):(l.map ref).getD i .any=ref (l.getD i Jd):=Xk h
def YU {l:List Tg} {i:Nat} (h:i<l.length):(l.map tg).getD i .any=tg (l.getD i Jd):=Xk h
def ZtH {l:List Lg} {i:Nat} (h:i<l.length):(l.map lg).getD i .any=lg (l.getD i Jd):=Xk h
def TU {l:List Eg} {i:Nat} (h:i<l.length):(l.map eg).getD i .any=eg (l.getD i Jd):=Xk h
def ZeH (a b:Pr):(a.fr'==b.fr'&&a.to'==b.to')=decide (a=b):=by
 cases a;cases b;rw[Jo];simp
def Z6 (a b:Tg):(a.r==b.r&&a.n==b.n)=decide (a=b):=by
 cases a;cases b;rw[Jo];simp
def ZcB (a b:List Str) (t:a.length<=maxLen) (w:b.length<=maxLen):Pp 111 [Y5 a,Y5 b] (.bool (decide (a=b))):=by
 by_cases p:a.length=b.length;have l:((a.length:Int) !=(b.length:Int))=false:=by rw[p];exact bne_self_eq_false _
 refine ZM func111 rfl ntmps111 results111 ?_;simp only[go_sem,Y5,l];refine ZA (ι:= { x:Nat // x<=(a).length/\(∀j,j<x->a.getD j []=b.getD j []) }) 26 (λx=> [(0,Y5 a),(1,Y5 b),(12,.int .i64 (a.length:Int)),(13,.int .i64 (x.1:Int))]) (λx=> []) (λx=> []) (λx=>(a).length-x.1) ⟨0,Jm _,λj q=>absurd q (Jk j)⟩ ⟨rfl,(Fc4 rfl rfl rfl rfl),fnl,fnl⟩ (λx=>⟨(Fc4 rfl rfl rfl rfl),fnl⟩) (λx=> ?_);obtain⟨k,u,o⟩:=x;simp only at u o ⊢;by_cases h:(k:Int)<(a.length:Int)
 (have i:k<(a).length:=by omega);(have v:=Wa i (t));(have r:=Jb k)
 have m:k<b.length:=by omega
 have s:(k:Int)<(b.length:Int):=by omega
 by_cases n:a.getD k []=b.getD k []
 ·have f:(a.getD k []==b.getD k [])=true:=beq_iff_eq.2 n;simp only[go_sem,Y5,h];refine vDq ?_;simp only[go_sem,Z8 i,Z8 m,h,r,s,f,v];exact⟨⟨k+1,by(try simp only);omega,Zm o n⟩,by show(a).length-(k+1)<(a).length-k;omega,⟨rfl,(Fc4 rfl rfl rfl rfl),fnl,fnl⟩⟩
 have f:(a.getD k []==b.getD k [])=false:=beq_eq_false_iff_ne.2 n;have c:¬a=b:=VD n;simp only[go_sem,Y5,h];refine vDq ?_;simp only[go_sem,Z8 i,Z8 m,h,r,s,f,c];have c:decide (a=b)=true:=decide_eq_true (X3 (d:= []) p λj q=>o j (by omega));simp only[go_sem,Y5,h,c];have l:((a.length:Int) !=(b.length:Int))=true:=bne_iff_ne.2 (by omega);have c:¬a=b:=λe=>p (by rw[e])
 refine ZM func111 rfl ntmps111 results111 ?_;simp only[go_sem,Y5,l,c]
def ZmA (a b:List Tg) (t:a.length<=maxLen) (w:b.length<=maxLen):Pp 174 [tgs a,tgs b] (.bool (decide (a=b))):=by
 by_cases p:a.length=b.length;have l:((a.length:Int) !=(b.length:Int))=false:=by rw[p];exact bne_self_eq_false _
 refine ZM func174 rfl ntmps174 results174 ?_;simp only[go_sem,tgs,l];refine ZA (ι:= { x:Nat // x<=(a).length/\(∀j,j<x->a.getD j Jd=b.getD j Jd) }) 26 (λx=> [(0,tgs a),(1,tgs b),(12,.int .i64 (a.length:Int)),(13,.int .i64 (x.1:Int))]) (λx=> []) (λx=> []) (λx=>(a).length-x.1) ⟨0,Jm _,λj q=>absurd q (Jk j)⟩ ⟨rfl,(Fc4 rfl rfl rfl rfl),fnl,fnl⟩ (λx=>⟨(Fc4 rfl rfl rfl rfl),fnl⟩) (λx=> ?_);obtain⟨k,u,o⟩:=x;simp only at u o ⊢;by_cases h:(k:Int)<(a.length:Int)
 (have i:k<(a).length:=by omega);(have v:=Wa i (t));(have r:=Jb k)
 have m:k<b.length:=by omega
 have s:(k:Int)<(b.length:Int):=by omega
 by_cases n:a.getD k Jd=b.getD k Jd
 ·have f:decide (a.getD k Jd=b.getD k Jd)=true:=decide_eq_true n;simp only[go_sem,tgs,h];refine vDq ?_;simp only[go_sem,YU i,YU m,h,r,s,tg,Z6,f,v];exact⟨⟨k+1,by(try simp only);omega,Zm o n⟩,by show(a).length-(k+1)<(a).length-k;omega,⟨rfl,(Fc4 rfl rfl rfl rfl),fnl,fnl⟩⟩
 have f:decide (a.getD k Jd=b.getD k Jd)=false:=decide_eq_false n;have c:¬a=b:=VD n;simp only[go_sem,tgs,h];refine vDq ?_;simp only[go_sem,YU i,YU m,h,r,s,tg,Z6,f,c];have c:decide (a=b)=true:=decide_eq_true (X3 (d:=Jd) p λj q=>o j (by omega));simp only[go_sem,tgs,h,c];have l:((a.length:Int) !=(b.length:Int))=true:=bne_iff_ne.2 (by omega);have c:¬a=b:=λe=>p (by rw[e])
 refine ZM func174 rfl ntmps174 results174 ?_;simp only[go_sem,tgs,l,c]
def Zfb (a b:List Pr) (t:a.length<=maxLen) (w:b.length<=maxLen):Pp 136 [prs a,prs b] (.bool (decide (a=b))):=by
 by_cases p:a.length=b.length;have l:((a.length:Int) !=(b.length:Int))=false:=by rw[p];exact bne_self_eq_false _
 refine ZM func136 rfl ntmps136 results136 ?_;simp only[go_sem,prs,l];refine ZA (ι:= { x:Nat // x<=(a).length/\(∀j,j<x->a.getD j Jd=b.getD j Jd) }) 26 (λx=> [(0,prs a),(1,prs b),(12,.int .i64 (a.length:Int)),(13,.int .i64 (x.1:Int))]) (λx=> []) (λx=> []) (λx=>(a).length-x.1) ⟨0,Jm _,λj q=>absurd q (Jk j)⟩ ⟨rfl,(Fc4 rfl rfl rfl rfl),fnl,fnl⟩ (λx=>⟨(Fc4 rfl rfl rfl rfl),fnl⟩) (λx=> ?_);obtain⟨k,u,o⟩:=x;simp only at u o ⊢;by_cases h:(k:Int)<(a.length:Int)
 (have i:k<(a).length:=by omega);(have v:=Wa i (t));(have r:=Jb k)
 have m:k<b.length:=by omega
 have s:(k:Int)<(b.length:Int):=by omega
 by_cases n:a.getD k Jd=b.getD k Jd
 ·have f:decide (a.getD k Jd=b.getD k Jd)=true:=decide_eq_true n;simp only[go_sem,prs,h];refine vDq ?_;simp only[go_sem,Yi i,Yi m,h,r,s,pr,ZeH,f,v];exact⟨⟨k+1,by(try simp only);omega,Zm o n⟩,by show(a).length-(k+1)<(a).length-k;omega,⟨rfl,(Fc4 rfl rfl rfl rfl),fnl,fnl⟩⟩
 have f:decide (a.getD k Jd=b.getD k Jd)=false:=decide_eq_false n;have c:¬a=b:=VD n;simp only[go_sem,prs,h];refine vDq ?_;simp only[go_sem,Yi i,Yi m,h,r,s,pr,ZeH,f,c];have c:decide (a=b)=true:=decide_eq_true (X3 (d:=Jd) p λj q=>o j (by omega));simp only[go_sem,prs,h,c];have l:((a.length:Int) !=(b.length:Int))=true:=bne_iff_ne.2 (by omega);have c:¬a=b:=λe=>p (by rw[e])
 refine ZM func136 rfl ntmps136 results136 ?_;simp only[go_sem,prs,l,c]
def ZcG (a b:List Pr) (t:a.length<=maxLen) (w:b.length<=maxLen):Pp 129 [prs a,prs b] (.bool (decide (a=b))):=by
 by_cases p:a.length=b.length;have l:((a.length:Int) !=(b.length:Int))=false:=by rw[p];exact bne_self_eq_false _
 refine ZM func129 rfl ntmps129 results129 ?_;simp only[go_sem,prs,l];refine ZA (ι:= { x:Nat // x<=(a).length/\(∀j,j<x->a.getD j Jd=b.getD j Jd) }) 26 (λx=> [(0,prs a),(1,prs b),(5,.int .i64 (x.1:Int))]) (λx=> []) (λx=> []) (λx=>(a).length-x.1) ⟨0,Jm _,λj q=>absurd q (Jk j)⟩ ⟨rfl,(Fc3 rfl rfl rfl),fnl,fnl⟩ (λx=>⟨(Fc3 rfl rfl rfl),fnl⟩) (λx=> ?_);obtain⟨k,u,o⟩:=x;simp only at u o ⊢;by_cases h:(k:Int)<(a.length:Int)
 (have i:k<(a).length:=by omega);(have v:=Wa i (t));(have r:=Jb k)
 have m:k<b.length:=by omega
 have s:(k:Int)<(b.length:Int):=by omega
 by_cases n:a.getD k Jd=b.getD k Jd
 ·have f:decide (a.getD k Jd=b.getD k Jd)=true:=decide_eq_true n;simp only[go_sem,prs,h];refine vDq ?_;simp only[go_sem,Yi i,Yi m,h,r,s,pr,ZeH,f,v];exact⟨⟨k+1,by(try simp only);omega,Zm o n⟩,by show(a).length-(k+1)<(a).length-k;omega,⟨rfl,(Fc3 rfl rfl rfl),fnl,fnl⟩⟩
 have f:decide (a.getD k Jd=b.getD k Jd)=false:=decide_eq_false n;have c:¬a=b:=VD n;simp only[go_sem,prs,h];refine vDq ?_;simp only[go_sem,Yi i,Yi m,h,r,s,pr,ZeH,f,c];have c:decide (a=b)=true:=decide_eq_true (X3 (d:=Jd) p λj q=>o j (by omega));simp only[go_sem,prs,h,c];have l:((a.length:Int) !=(b.length:Int))=true:=bne_iff_ne.2 (by omega);have c:¬a=b:=λe=>p (by rw[e])
 refine ZM func129 rfl ntmps129 results129 ?_;simp only[go_sem,prs,l,c]
def ZhA (l:List Str) (s:Str) (o:l.length<=maxLen):Pp 187 [Y5 l,.str s] (.int .i64 (idx (λx=>s==x) l)):=by
 refine ZM func187 rfl ntmps187 results187 ?_;simp only[go_sem,Y5];refine ZA (ι:= { x:Nat // x<=(l).length/\(∀j,j<x->(λx=>s==x) (l.getD j [])=Hf) }) 19 (λx=> [(0,Y5 l),(1,.str s),(7,.int .i64 (l.length:Int)),(8,.int .i64 (x.1:Int))]) (λx=> []) (λx=> []) (λx=>(l).length-x.1) ⟨0,Jm _,λj i=>absurd i (Jk j)⟩ ⟨rfl,(Fc4 rfl rfl rfl rfl),fnl,fnl⟩ (λx=>⟨(Fc4 rfl rfl rfl rfl),fnl⟩) (λx=> ?_);obtain⟨k,n,c⟩:=x;simp only at n c ⊢;by_cases h:(k:Int)<(l.length:Int)
 (have a:k<(l).length:=by omega);(have q:=Wa a (o));(have m:=Jb k)
 cases b:(λx=>s==x) (l.getD k [])
 ·have e:=b;simp only at b;simp only[go_sem,Y5,h];simp only[go_sem,Z8 a,h,m,b,q];exact⟨⟨k+1,by(try simp only);omega,Zm c e⟩,by show(l).length-(k+1)<(l).length-k;omega,⟨rfl,(Fc4 rfl rfl rfl rfl),fnl,fnl⟩⟩
 have f:=XL (p:=λx=>s==x) a c b;simp only at b;simp only[go_sem,Y5,h];simp only[go_sem,Z8 a,h,m,b,f];have f:=SE (p:=λx=>s==x) (d:= []) (l:=l) (λj i=>c j (by omega));simp only[go_sem,Y5,h,f]
def Zhz (l:List Rf) (r:Rf) (o:l.length<=maxLen):Pp 192 [refs l,ref r] (.int .i64 (idx (λx=>decide (r=x)) l)):=by
 refine ZM func192 rfl ntmps192 results192 ?_;simp only[go_sem,refs,ref];refine ZA (ι:= { x:Nat // x<=(l).length/\(∀j,j<x->(λx=>decide (r=x)) (l.getD j Jd)=Hf) }) 19 (λx=> [(0,refs l),(3,.ptr 3 0),(7,.int .i64 (l.length:Int)),(8,.int .i64 (x.1:Int))]) (λx=> [(3,[.int .i64 r.sc,.str r.gr,.str r.nm],Hf)]) (λx=> []) (λx=>(l).length-x.1) ⟨0,Jm _,λj i=>absurd i (Jk j)⟩ ⟨rfl,(Fc4 rfl rfl rfl rfl),(fcs ⟨rfl,rfl⟩ fnl),fnl⟩ (λx=>⟨(Fc4 rfl rfl rfl rfl),(fcs rfl fnl)⟩) (λx=> ?_);obtain⟨k,n,c⟩:=x;simp only at n c ⊢;by_cases h:(k:Int)<(l.length:Int)
 (have a:k<(l).length:=by omega);(have q:=Wa a (o));(have m:=Jb k)
 cases b:(λx=>decide (r=x)) (l.getD k Jd)
 ·have e:=b;simp only at b;simp only[go_sem,refs,h];refine vDq ?_;simp only[go_sem,XV a,h,m,ref,ZB,b,q];exact⟨⟨k+1,by(try simp only);omega,Zm c e⟩,by show(l).length-(k+1)<(l).length-k;omega,⟨rfl,(Fc4 rfl rfl rfl rfl),(fcs ⟨rfl,rfl⟩ fnl),fnl⟩⟩
 have f:=XL (p:=λx=>decide (r=x)) a c b;simp only at b;simp only[go_sem,refs,h];refine vDq ?_;simp only[go_sem,XV a,h,m,ref,ZB,b,f];have f:=SE (p:=λx=>decide (r=x)) (d:=Jd) (l:=l) (λj i=>c j (by omega));simp only[go_sem,refs,h,f]
def DL (l:List Fd) (r:Rf) (o:l.length<=maxLen):Pp 112 [Zt l,ref r] (.int .i64 (idx (λx=>decide (x.at'=r)) l)):=by
 refine ZM func112 rfl ntmps112 results112 ?_;simp only[go_sem,Zt,ref];refine ZA (ι:= { x:Nat // x<=(l).length/\(∀j,j<x->(λx=>decide (x.at'=r)) (l.getD j Jd)=Hf) }) 20 (λx=> [(3,.ptr 3 0),(7,Zt l),(8,.int .i64 (l.length:Int)),(9,.int .i64 (x.1:Int))]) (λx=> [(3,[.int .i64 r.sc,.str r.gr,.str r.nm],Hf)]) (λx=> []) (λx=>(l).length-x.1) ⟨0,Jm _,λj i=>absurd i (Jk j)⟩ ⟨rfl,(Fc4 rfl rfl rfl rfl),(fcs ⟨rfl,rfl⟩ fnl),fnl⟩ (λx=>⟨(Fc4 rfl rfl rfl rfl),(fcs rfl fnl)⟩) (λx=> ?_);obtain⟨k,n,c⟩:=x;simp only at n c ⊢;by_cases h:(k:Int)<(l.length:Int)
 (have a:k<(l).length:=by omega);(have q:=Wa a (o));(have m:=Jb k)
 cases b:(λx=>decide (x.at'=r)) (l.getD k Jd)
 ·have e:=b;simp only at b;simp only[go_sem,Zt,h];simp only[go_sem,ZY a,h,m,fld,ZB,b,q];exact⟨⟨k+1,by(try simp only);omega,Zm c e⟩,by show(l).length-(k+1)<(l).length-k;omega,⟨rfl,(Fc4 rfl rfl rfl rfl),(fcs ⟨rfl,rfl⟩ fnl),fnl⟩⟩
 have f:=XL (p:=λx=>decide (x.at'=r)) a c b;simp only at b;simp only[go_sem,Zt,h];simp only[go_sem,ZY a,h,m,fld,ZB,b,f];have f:=SE (p:=λx=>decide (x.at'=r)) (d:=Jd) (l:=l) (λj i=>c j (by omega));simp only[go_sem,Zt,h,f]
def ZmI (l:List Eg) (t:Tg) (o:l.length<=maxLen):Pp 48 [egs l,tg t] (.int .i64 (idx (λx=>decide (x.id=t)) l)):=by
 refine ZM func48 rfl ntmps48 results48 ?_;simp only[go_sem,egs,tg];refine ZA (ι:= { x:Nat // x<=(l).length/\(∀j,j<x->(λx=>decide (x.id=t)) (l.getD j Jd)=Hf) }) 20 (λx=> [(0,egs l),(3,.ptr 3 0),(5,.int .i64 (x.1:Int))]) (λx=> [(3,[.int .i64 t.r,.int .i64 t.n],Hf)]) (λx=> []) (λx=>(l).length-x.1) ⟨0,Jm _,λj i=>absurd i (Jk j)⟩ ⟨rfl,(Fc3 rfl rfl rfl),(fcs ⟨rfl,rfl⟩ fnl),fnl⟩ (λx=>⟨(Fc3 rfl rfl rfl),(fcs rfl fnl)⟩) (λx=> ?_);obtain⟨k,n,c⟩:=x;simp only at n c ⊢;by_cases h:(k:Int)<(l.length:Int)
 (have a:k<(l).length:=by omega);(have q:=Wa a (o));(have m:=Jb k)
 cases b:(λx=>decide (x.id=t)) (l.getD k Jd)
 ·have e:=b;simp only at b;simp only[go_sem,egs,h];refine vDq ?_;simp only[go_sem,TU a,h,m,eg,Z6,b,q];exact⟨⟨k+1,by(try simp only);omega,Zm c e⟩,by show(l).length-(k+1)<(l).length-k;omega,⟨rfl,(Fc3 rfl rfl rfl),(fcs ⟨rfl,rfl⟩ fnl),fnl⟩⟩
 have f:=XL (p:=λx=>decide (x.id=t)) a c b;simp only at b;simp only[go_sem,egs,h];refine vDq ?_;simp only[go_sem,TU a,h,m,eg,Z6,b,f];have f:=SE (p:=λx=>decide (x.id=t)) (d:=Jd) (l:=l) (λj i=>c j (by omega));simp only[go_sem,egs,h,f]
open Go.PL
def ZjC (f:Fd):(fld f).dids= []:=by simp only[fld,J3,JI,XI,Jp]
theorem ZtI {α:Type} (p:α->Bool) (l:List α):decide ((0:Int)<=idx p l)=l.any p:=by
 unfold idx;cases h:l.findIdx? p with
 |none=>
  have:l.any p=false:=by
   rw[Kx];intro x b;have:=JZ.1 h x b;simp[this]
  rw[this];rfl
 |some i=>
  rw[Jt]at h;obtain⟨a,hp,_⟩:=h;have:l.any p=true:=Kz.2 ⟨_,Kc a,hp⟩;rw[this];exact decide_eq_true (show(0:Int)<=(i:Int)by omega)
def Zqu (l:List Str) (s:Str):l.any (λx=>s==x)=l.any (· == s):=by
 congr 1;funext x;rw[Jo];simp only[beq_iff_eq];exact eq_comm
def YP {n b:Nat} (c:n<=1000000) (a:b<=1000):ZkQ n b:=Yl (by omega) a
def Wb (f:Fd) (a:f.cases'.length<=1000000):Pp 57 [fld f] (fld f):=by
 have b:=YP a (show 16<=1000 by omega);refine ZS func57 rfl ntmps57 results57 (ZjC _) ?_;simp only[go_sem,fld,Yb,Xr,b]
def Zfi (a b:Rf):Pp 110 [ref a,ref b] (.bool (V0 a b)):=by
 refine ZM func110 rfl ntmps110 results110 ?_;simp only[go_sem,ref];repeat' ((first|(first|apply Zw|apply Zv|apply ZK)<;>intro h|refine vDq ?_)<;>first|simp only[go_sem,h]|simp only[go_sem]|skip)
 all_goals (simp_all[V0])
def Gi (l:List Str) (s:Str) (b:l.length<=maxLen):Pp 163 [Y5 l,.str s] (.bool (l.any (· == s))):=by
 have a:=ZhA l s b;refine ZM func163 rfl ntmps163 results163 ?_;simp only[go_sem,Y5];refine vc1 a ?_;simp only[go_sem,ZtI,Zqu]
def GY (l:List Str):Bool:=decide (1<=l.length/\l.length<=6)&&ZaM l
def ZkE (l:List Str):Pp 162 [Y5 l] (.bool (GY l)):=by
 by_cases n:(l.length:Int)<1;have d:GY l=false:=by simp only[GY,show ¬(1<=l.length/\l.length<=6)by omega,decide_false,Jf]
 refine ZM func162 rfl ntmps162 results162 ?_;simp only[go_sem,Y5,n,d];by_cases p:(6:Int)<(l.length:Int);have d:GY l=false:=by simp only[GY,show ¬(1<=l.length/\l.length<=6)by omega,decide_false,Jf]
 refine ZM func162 rfl ntmps162 results162 ?_;simp only[go_sem,Y5,n,p,d];have u:l.length<=maxLen:=by rw[Zd];omega
 have d:GY l=ZaM l:=by simp only[GY,show(1<=l.length/\l.length<=6)by omega,and_self,decide_true,Jj]
 rw[d];refine ZM func162 rfl ntmps162 results162 ?_;simp only[go_sem,Y5,n,p];refine ZA (ι:= { x:Nat // x<=(l).length/\(∀j,j<x->UE l j=Ht) }) 31 (λx=> [(0,Y5 l),(13,Y5 l),(14,.int .i64 (l.length:Int)),(15,.int .i64 (x.1:Int))]) (λx=> []) (λx=> []) (λx=>(l).length-x.1) ⟨0,Jm _,λj q=>absurd q (Jk j)⟩ ⟨rfl,(Fc4 rfl rfl rfl rfl),fnl,fnl⟩ (λx=>⟨(Fc4 rfl rfl rfl rfl),fnl⟩) (λx=> ?_);obtain⟨k,t,o⟩:=x;simp only at t o ⊢;by_cases h:(k:Int)<(l.length:Int)
 (have a:k<(l).length:=by omega);(have v:=Wa a (u));(have f:=Jb k)
 have r:(k:Int)<=(l.length:Int):=by omega
 have b:=Y0 (l.getD k []);have s:(l.take k).length<=maxLen:=by rw[Jc];omega
 have i:=Gi (l.take k) (l.getD k []) s;cases c:Z0 (l.getD k []);rw[c]at b;have e:=Ue a (by simp only[UE,c,Jf]);simp only[go_sem,Y5,h,f,Z8 a];refine vc1 b ?_;simp only[go_sem,e];rw[c]at b;cases m:(l.take k).any (· == l.getD k [])
 ·rw[m]at i;have ok:UE l k=true:=by simp only[UE,c,m,Kj,KI]
  simp only[go_sem,Y5,h,f,Z8 a];refine vc1 b ?_;simp only[go_sem,f,r,Yb,cut,Ke,Zak];refine vc1 i ?_;simp only[go_sem,v];exact⟨⟨k+1,by(try simp only);omega,Zm o ok⟩,by show(l).length-(k+1)<(l).length-k;omega,⟨rfl,(Fc4 rfl rfl rfl rfl),fnl,fnl⟩⟩
 rw[m]at i;have e:=Ue a (by simp only[UE,c,m,Kq,KG]);simp only[go_sem,Y5,h,f,Z8 a];refine vc1 b ?_;simp only[go_sem,f,r,Yb,cut,Ke,Zak];refine vc1 i ?_;simp only[go_sem,e];have e:=ZaN (l:=l) (λj q=>o j (by omega));simp only[go_sem,Y5,h,e]
theorem ZkY {l:List Str} {s:Str} (h:l.any (· == s)=Ht):1<=l.length:=by
 cases l with
 |nil=>simp at h
 |cons a l=>simp
def Uz (f:Fd) (u:f.cases'.length<=maxLen):Pp 109 [fld f] (.bool (ZT f)):=by
 have l:=DM f.at';have s:=GR f.df;have q:=ZkE f.cases';have r:=Gi f.cases' f.df u;have key:ZT f=(Vd f.at'&&(if f.kind=1 then(f.df== [])&&(((f.cases'.length:Int)==0)&&(decide (1<=f.worth)&&decide (f.worth<=1048576)))
   else if f.kind=2 then decide ((f.df.length:Int)<=40)&&(((f.cases'.length:Int)==0)&&(f.worth==0))
   else if f.kind=3 then GY f.cases'&&(f.cases'.any (· == f.df)&&(f.worth==0))
   else if f.kind=4 then(f.df== [])&&(((f.cases'.length:Int)==0)&&(f.worth==0))else Hf)):=by
  unfold ZT;congr 1
  by_cases e:f.kind=1
  ·rw[if_pos e,if_pos e,Jo];simp;omega
  ·rw[if_neg e,if_neg e]
   by_cases j:f.kind=3
   ·rw[if_pos j,if_neg (by omega),if_pos j];unfold ZbR GY;cases t:f.cases'.any (· == f.df)
    ·simp
    ·have:=ZkY t;rw[Jo];simp;constructor
     ·rintro ⟨a,b,c⟩;exact⟨⟨⟨this,by omega⟩,b⟩,a⟩
     ·rintro ⟨⟨⟨a,b⟩,c⟩,d⟩;exact⟨d,c,by omega⟩
   ·rw[if_neg j,if_neg j];unfold Zha
    by_cases i:f.kind=2
    ·rw[if_pos i,Jo];simp[i];constructor<;>rintro ⟨a,b,c⟩<;>refine⟨?_,?_,?_⟩<;>first|assumption|omega
    ·rw[if_neg i]
     by_cases k:f.kind=4
     ·rw[if_pos k,Jo];simp[k];constructor
      ·rintro ⟨a,b,c⟩;exact⟨c,b,a⟩
      ·rintro ⟨a,b,c⟩;exact⟨c,b,a⟩
     ·rw[if_neg k];simp[i,k]
 rw[key];cases hp:Vd f.at';rw[hp]at l;refine ZM func109 rfl ntmps109 results109 ?_;simp only[go_sem,fld];refine vc1 l ?_;simp only[go_sem,Jf];rw[hp]at l;rw[Jj];by_cases e:f.kind=1
 ·have m:(f.kind==1)=true:=by rw[e];rfl
  rw[if_pos e];refine ZM func109 rfl ntmps109 results109 ?_;simp only[go_sem,fld];refine vc1 l ?_;simp only[go_sem,m];repeat' ((first|(first|apply Zw|apply Zv|apply ZK)<;>intro h|refine vDq ?_)<;>first|simp only[go_sem,h]|simp only[go_sem]|skip)
  all_goals simp_all
 have m:(f.kind==1)=false:=beq_eq_false_iff_ne.2 e;rw[if_neg e];by_cases i:f.kind=2
 ·have n:(f.kind==2)=true:=by rw[i];rfl
  rw[if_pos i];refine ZM func109 rfl ntmps109 results109 ?_;simp only[go_sem,fld];refine vc1 l ?_;simp only[go_sem,m,n];refine vc1 s ?_;simp only[go_sem,m,n];repeat' ((first|(first|apply Zw|apply Zv|apply ZK)<;>intro h|refine vDq ?_)<;>first|simp only[go_sem,h]|simp only[go_sem]|skip)
  all_goals simp_all
 have n:(f.kind==2)=false:=beq_eq_false_iff_ne.2 i;rw[if_neg i];by_cases j:f.kind=3
 ·have o:(f.kind==3)=true:=by rw[j];rfl
  rw[if_pos j];refine ZM func109 rfl ntmps109 results109 ?_;simp only[go_sem,fld];refine vc1 l ?_;simp only[go_sem,m,n,o];refine vc1 q ?_;simp only[go_sem,m,n,o];repeat' ((first|(first|apply Zw|apply Zv|apply ZK)<;>intro h|refine vc1 r ?_|refine vDq ?_)<;>first|simp only[go_sem,h]|simp only[go_sem]|skip)
  all_goals simp_all
 have o:(f.kind==3)=false:=beq_eq_false_iff_ne.2 j;rw[if_neg j];by_cases k:f.kind=4
 ·have p:(f.kind==4)=true:=by rw[k];rfl
  rw[if_pos k];refine ZM func109 rfl ntmps109 results109 ?_;simp only[go_sem,fld];refine vc1 l ?_;simp only[go_sem,m,n,o,p];repeat' ((first|(first|apply Zw|apply Zv|apply ZK)<;>intro h|refine vDq ?_)<;>first|simp only[go_sem,h]|simp only[go_sem]|skip)
  all_goals simp_all
 have p:(f.kind==4)=false:=beq_eq_false_iff_ne.2 k;rw[if_neg k];refine ZM func109 rfl ntmps109 results109 ?_;simp only[go_sem,fld];refine vc1 l ?_;simp only[go_sem,m,n,o,p]
def DK (a b:Fd) (d:a.cases'.length<=maxLen) (e:b.cases'.length<=maxLen):Pp 135 [fld a,fld b] (.bool (decide (a=b))):=by
 have c:=ZcB a.cases' b.cases' d e;refine ZM func135 rfl ntmps135 results135 ?_;simp only[go_sem,fld,ZB];repeat' ((first|(first|apply Zw|apply Zv|apply ZK)<;>intro h|refine vc1 c ?_|refine vDq ?_)<;>first|simp only[go_sem,h,ZB]|simp only[go_sem,ZB]|skip)
 all_goals ((cases a;cases b;simp_all)<;>rfl)
def ZaA (a b:List Str) (d:a.length<=maxLen) (e:b.length<=maxLen):Pp 167 [Y5 a,Y5 b] (.bool (decide (a=b))):=by
 have c:=ZcH a b d e;refine ZM func167 rfl ntmps167 results167 ?_;simp only[go_sem,Y5];refine vc1 c ?_;simp only[go_sem]
def Zax (a b:Fd) (d:a.cases'.length<=maxLen) (e:b.cases'.length<=maxLen):Pp 128 [fld a,fld b] (.bool (decide (a=b))):=by
 have c:=ZaA a.cases' b.cases' d e;refine ZM func128 rfl ntmps128 results128 ?_;simp only[go_sem,fld,ZB];repeat' ((first|(first|apply Zw|apply Zv|apply ZK)<;>intro h|refine vc1 c ?_|refine vDq ?_)<;>first|simp only[go_sem,h,ZB]|simp only[go_sem,ZB]|skip)
 all_goals ((cases a;cases b;simp_all)<;>rfl)
open Go.PL
def Xc (l:List Pr) (s:Str):Str×Bool:=match l.find? (λp=>p.fr'==s)with|some p=>(p.to',Ht)|none=>([],Hf)
def ZdL (x:Str×Bool):PV:= .tup [.str x.1,.bool x.2]
def Zc2 {α:Type} {p:α->Bool} {l:List α} {k:Nat} {d:α} (a:k<l.length) (h:∀j,j<k->p (l.getD j d)=Hf) (hp:p (l.getD k d)=Ht):l.find? p=Hs (l.getD k d):=by
 have c:=XL a h hp;rw[List.find?_eq_some_iff_getElem];refine⟨hp,k,a,by rw[Ja,Jq a];rfl,λj b=> ?_⟩;have:=h j b;rw[Ja,Jq (by omega)]at this;simpa using this
def ZfX {α:Type} {p:α->Bool} {l:List α} {d:α} (h:∀j,j<l.length->p (l.getD j d)=Hf):l.find? p=none:=by
 rw[List.find?_eq_none];intro x b;obtain⟨j,a,rfl⟩:=JG b;have:=h j a;rw[Ja,Jq a]at this;simpa using this
def GM (l:List Pr) (s:Str) (n:l.length<=maxLen):Pp 169 [prs l,.str s] (ZdL (Xc l s)):=by
 refine ZM func169 rfl ntmps169 results169 ?_;simp only[go_sem,prs];refine ZA (ι:= { x:Nat // x<=(l).length/\(∀j,j<x->((l.getD j Jd).fr'==s)=Hf) }) 21 (λx=> [(1,.str s),(8,prs l),(9,.int .i64 (l.length:Int)),(10,.int .i64 (x.1:Int))]) (λx=> []) (λx=> []) (λx=>(l).length-x.1) ⟨0,Jm _,λj f=>absurd f (Jk j)⟩ ⟨rfl,(Fc4 rfl rfl rfl rfl),fnl,fnl⟩ (λx=>⟨(Fc4 rfl rfl rfl rfl),fnl⟩) (λx=> ?_);obtain⟨k,m,b⟩:=x;simp only at m b ⊢;by_cases h:(k:Int)<(l.length:Int)
 (have a:k<(l).length:=by omega);(have o:=Wa a (n));(have i:=Jb k)
 cases c:((l.getD k Jd).fr'==s)
 ·simp only[go_sem,prs,h,Yi a,pr,i,c,o];exact⟨⟨k+1,by(try simp only);omega,Zm b c⟩,by show(l).length-(k+1)<(l).length-k;omega,⟨rfl,(Fc4 rfl rfl rfl rfl),fnl,fnl⟩⟩
 have e:=Zc2 (p:=λp:Pr=>p.fr'==s) a b c;simp only[go_sem,prs,h,Yi a,pr,i,c,ZdL,Xc,e];have e:=ZfX (p:=λp:Pr=>p.fr'==s) (d:=Jd) (l:=l) (λj f=>b j (by omega));simp only[go_sem,prs,h,ZdL,Xc,e]
def ZcF (l:List Pr) (s:Str) (n:l.length<=maxLen):Pp 125 [prs l,.str s] (ZdL (Xc l s)):=by
 refine ZM func125 rfl ntmps125 results125 ?_;simp only[go_sem,prs];refine ZA (ι:= { x:Nat // x<=(l).length/\(∀j,j<x->((l.getD j Jd).fr'==s)=Hf) }) 25 (λx=> [(0,prs l),(1,.str s),(6,.int .i64 (x.1:Int))]) (λx=> []) (λx=> []) (λx=>(l).length-x.1) ⟨0,Jm _,λj f=>absurd f (Jk j)⟩ ⟨rfl,(Fc3 rfl rfl rfl),fnl,fnl⟩ (λx=>⟨(Fc3 rfl rfl rfl),fnl⟩) (λx=> ?_);obtain⟨k,m,b⟩:=x;simp only at m b ⊢;by_cases h:(k:Int)<(l.length:Int)
 (have a:k<(l).length:=by omega);(have o:=Wa a (n));(have i:=Jb k)
 cases c:((l.getD k Jd).fr'==s)
 ·simp only[go_sem,prs,h,Yi a,pr,i,c,o];exact⟨⟨k+1,by(try simp only);omega,Zm b c⟩,by show(l).length-(k+1)<(l).length-k;omega,⟨rfl,(Fc3 rfl rfl rfl),fnl,fnl⟩⟩
 have e:=Zc2 (p:=λp:Pr=>p.fr'==s) a b c;simp only[go_sem,prs,h,Yi a,pr,i,c,ZdL,Xc,e];have e:=ZfX (p:=λp:Pr=>p.fr'==s) (d:=Jd) (l:=l) (λj f=>b j (by omega));simp only[go_sem,prs,h,ZdL,Xc,e]
def ZjX {α β:Type} [Inhabited α] (f:α->β) {l:List α} {k:Nat} (h:k<l.length):(l.take (k+1)).map f=(l.take k).map f++ [f (l.getD k Jd)]:=by
 rw[ZQ h (d:=Jd),Kg];rfl
def WQ {α:Type} (l:List α) (k:Nat):(l.take k).length<=l.length:=by rw[Jc];omega
def X4 (l:List Pr):List Str:=l.map (·.fr')
def Zda (l:List Pr) (j:l.length<=1000000):Pp 172 [prs l] (Y5 (X4 l)):=by
 have f:l.length<=maxLen:=by rw[Zd];omega
 have d:=YP j (show 16<=1000 by omega);refine ZS func172 rfl ntmps172 results172 (Dx _) ?_;simp only[go_sem,prs,d,f];refine⟨by omega,?_⟩;refine YL 3 8 19 0 1 9 [] rfl rfl rfl ?_;refine ZA (ι:= { x:Nat×(List Str) // x.1<=(l).length/\(x.2=(l.take x.1).map (·.fr')) }) 22 (λx=> [(3,.sl (.row 19) (x.1.2.map .str)),(9,prs l),(10,.int .i64 (l.length:Int)),(11,.int .i64 (x.1.1:Int))]) (λx=> []) (λx=> [(19,.live (x.1.2.length) (1) (9))]) (λx=>(l).length-x.1.1) ⟨(0,[]),Jm _,rfl⟩ ⟨rfl,(Fc4 rfl rfl rfl rfl),fnl,(fcs rfl fnl)⟩ (λx=>⟨(Fc4 (by simp[Jw,ZR]) rfl rfl rfl),fnl⟩) (λx=> ?_);obtain⟨⟨k,a⟩,i,c⟩:=x;simp only at i c ⊢;have e:a.length<=l.length:=by rw[c,JC];exact WQ _ _
 by_cases h:(k:Int)<(l.length:Int)
 ·(have b:k<(l).length:=by omega);(have o:=Wa b (f));(have n:=Jb k)
  have m:=YP (show a.length+1<=1000000 by rw[c,JC,Jc];omega) (show 16<=1000 by omega);simp only[go_sem,prs,h,Yi b,pr,n,Yb,m,o];exact⟨⟨(k+1,a++ [(l.getD k Jd).fr']),by(try simp only);omega,by simp only;rw[ZjX _ b,c]⟩,by show(l).length-(k+1)<(l).length-k;omega,⟨rfl,(Fc4 (by simp[upd]) rfl rfl rfl),fnl,(fcs (by simp[upd]) fnl)⟩⟩
 obtain rfl:k=l.length:=by omega
 rw[JR]at c;subst c;simp only[go_sem,prs,h,Y5,X4]
def Zay (l:List Pr) (n:l.length<=1000000):Pp 166 [prs l] (Y5 (X4 l)):=by
 have f:l.length<=maxLen:=by rw[Zd];omega
 refine ZS func166 rfl ntmps166 results166 (Dx _) ?_;simp only[go_sem,prs];refine YL 3 5 19 0 1 9 [] rfl rfl rfl ?_;refine ZA (ι:= { x:Nat×(List Str) // x.1<=(l).length/\(x.2=(l.take x.1).map (·.fr')) }) 21 (λx=> [(0,prs l),(3,.sl (.row 19) (x.1.2.map .str)),(4,.int .i64 (x.1.1:Int))]) (λx=> []) (λx=> [(19,.live (x.1.2.length) (1) (9))]) (λx=>(l).length-x.1.1) ⟨(0,[]),Jm _,rfl⟩ ⟨rfl,(Fc3 rfl rfl rfl),fnl,(fcs rfl fnl)⟩ (λx=>⟨(Fc3 rfl (by simp[Jw,ZR]) rfl),fnl⟩) (λx=> ?_);obtain⟨⟨k,a⟩,e,c⟩:=x;simp only at e c ⊢;have d:a.length<=l.length:=by rw[c,JC];exact WQ _ _
 by_cases h:(k:Int)<(l.length:Int)
 ·(have b:k<(l).length:=by omega);(have m:=Wa b (f));(have j:=Jb k)
  have i:=YP (show a.length+1<=1000000 by rw[c,JC,Jc];omega) (show 16<=1000 by omega);simp only[go_sem,prs,h,Yi b,pr,j,Yb,i,m];exact⟨⟨(k+1,a++ [(l.getD k Jd).fr']),by(try simp only);omega,by simp only;rw[ZjX _ b,c]⟩,by show(l).length-(k+1)<(l).length-k;omega,⟨rfl,(Fc3 rfl (by simp[upd]) rfl),fnl,(fcs (by simp[upd]) fnl)⟩⟩
 obtain rfl:k=l.length:=by omega
 rw[JR]at c;subst c;simp only[go_sem,prs,h,Y5,X4]
def Zfp (l:List Fd) (s:l.length<=100000) (n:∀f∈l,f.cases'.length<=1000000):Pp 34 [Zt l] (Zt l):=by
 have j:l.length<=maxLen:=by rw[Zd];omega
 have e:=YP (show l.length<=1000000 by omega) (show 96<=1000 by omega);refine ZS func34 rfl ntmps34 results34 (TS _) ?_;simp only[go_sem,Zt,e,j];refine⟨by omega,?_⟩;refine YL 3 8 19 0 7 69 [] rfl rfl rfl ?_;refine ZA (ι:= { x:Nat×(List Fd) // x.1<=(l).length/\(x.2=l.take x.1) }) 22 (λx=> [(3,.sl (.row 19) (x.1.2.map fld)),(9,Zt l),(10,.int .i64 (l.length:Int)),(11,.int .i64 (x.1.1:Int))]) (λx=> []) (λx=> [(19,.live (x.1.2.length) (7) (69))]) (λx=>(l).length-x.1.1) ⟨(0,[]),Jm _,rfl⟩ ⟨rfl,(Fc4 rfl rfl rfl rfl),fnl,(fcs rfl fnl)⟩ (λx=>⟨(Fc4 (by simp[Jw,ZR]) rfl rfl rfl),fnl⟩) (λx=> ?_);obtain⟨⟨k,b⟩,o,c⟩:=x;simp only at o c ⊢;have i:b.length<=l.length:=by rw[c];exact WQ _ _
 by_cases h:(k:Int)<(l.length:Int)
 ·(have a:k<(l).length:=by omega);(have r:=Wa a (j));(have q:=Jb k)
  have p:=YP (show b.length+1<=1000000 by omega) (show 96<=1000 by omega);have m:=Wb (l.getD k Jd) (n _ (Zh a));simp only[go_sem,Zt,h,ZY a,fld,q];refine vc2 m ?_;simp only[go_sem,fld,V5,p,r];exact⟨⟨(k+1,b++ [l.getD k Jd]),by(try simp only);omega,by simp only;rw[ZQ a (d:=Jd),c]⟩,by show(l).length-(k+1)<(l).length-k;omega,⟨rfl,(Fc4 (by simp[upd,fld]) rfl rfl rfl),fnl,(fcs (by simp[upd]) fnl)⟩⟩
 obtain rfl:k=l.length:=by omega
 rw[JR]at c;subst c;simp only[go_sem,h,Zt]
open Go.PL
@[go_sem] theorem ZzY:tcv prog 2 210= .flt .f64:=by kernel_rfl
@[go_sem] theorem ZzX:tcv prog 210 2= .int .i64:=by kernel_rfl
def ZsN (a b:Int):((Hs (compare a b):Option Ordering)==Hs .gt||(Hs (compare a b):Option Ordering)==Hs .eq)=decide (b<=a):=by
 rcases J4 a b with h|h|h;rw[J5.2 h,decide_eq_false (by omega)];rfl;subst h;rw[J6.2 rfl,decide_eq_true (by omega)];rfl;rw[J7.2 h,decide_eq_true (by omega)];rfl
def ZsR (a b:Int):((Hs (compare a b):Option Ordering)==Hs .lt||(Hs (compare a b):Option Ordering)==Hs .eq)=decide (a<=b):=by
 rcases J4 a b with h|h|h;rw[J5.2 h,decide_eq_true (by omega)];rfl;subst h;rw[J6.2 rfl,decide_eq_true (by omega)];rfl;rw[J7.2 h,decide_eq_false (by omega)];rfl
def ZsW (a b:Int):((Hs (compare a b):Option Ordering) !=Hs .eq)=decide (a≠b):=by
 rcases J4 a b with h|h|h;rw[J5.2 h,decide_eq_true (by omega)];rfl;subst h;rw[J6.2 rfl,decide_eq_false (by omega)];rfl;rw[J7.2 h,decide_eq_true (by omega)];rfl
def Zoo:(4841369599423283200:Nat)=WD 4503599627370496:=by decide+kernel
def Zom:J8 .f64 4841369599423283200=WD (-4503599627370496):=by decide+kernel
theorem ZuV:Extern.findNext f200=none:=by kernel_rfl
theorem ZuU:Extern.find f200=Hs (Extern.MathFloor.toIntegral "math.archTrunc" .zero):=by kernel_rfl
def Zpr (n:Int) (h:n.natAbs<2 ^ 53) (P:Program) (w:World):(Extern.MathFloor.toIntegral "math.archTrunc" .zero #[.float .f64 (WD n)]).run P w= .ok (.float .f64 (WD n)) w:=by
 obtain⟨s,m,p,hp⟩:=ZoC n h;have a:=Zsm n h;rw[hp]at a;show(Extern.MathFloor.toIntegral.match_1 (λ_=>Sem Value) (FloatKind.f64.decode (WD n)) _ _:Sem Value).run P w=_;rw[hp];show Result.ok (Value.float .f64 (FloatKind.f64.encode ((Ieee.Datum.number s m p).integral .zero))) w=_;rw[a]
theorem Zfu (n:Int) (h:n.natAbs<2 ^ 53):PL.Xt prog 200 [.flt .f64 (WD n)] (.flt .f64 (WD n)):=by
 intro w S vs b c;match vs,b with
 | [v],_=>
  have a:=c 0 (by simp);simp only[Kn]at a;cases a;refine⟨.float .f64 (WD n),.flt _ _,?_⟩;rw[run_callFunc_extern func200 (by decide) rfl ZuV ZuU];show((Extern.MathFloor.toIntegral "math.archTrunc" .zero #[.float .f64 (WD n)]).run prog w).andThen _=_;rw[Zpr n h];rfl
def ZcL (n:Int) (h:n.natAbs<2 ^ 53):Pp 196 [.flt .f64 (WD n)] (.flt .f64 (WD n)):=by
 have a:=Zfu n h;refine ZM func196 rfl ntmps196 results196 ?_;simp only[go_sem];refine Zsw a ?_ ?_ ?_;simp only[go_sem];simp only[go_sem];simp only[go_sem]
def Zjg (a b:Nat):Pp 195 [.cpx .f64 a b] (.agg [.flt .f64 a,.flt .f64 b]):=by
 refine ZM func195 rfl ntmps195 results195 ?_;simp only[go_sem]
def Lim (n:Int):Prop:= -4503599627370496<=n/\n<=4503599627370496
def Lim.abs {n:Int} (h:Lim n):n.natAbs<2 ^ 53:=by have:=h.1;have:=h.2;omega
def Zje (a b:Int) (c:Lim a) (d:Lim b):Pp 179 [.cpx .f64 (WD a) (WD b),.flt .f64 4841369599423283200] (.bool Ht):=by
 have m:=Zjg (WD a) (WD b);have e:=ZcL a c.abs;have f:=ZcL b d.abs;have m1:(4503599627370496:Int).natAbs<2 ^ 53:=by decide
 have m2:(-4503599627370496:Int).natAbs<2 ^ 53:=by decide
 have j:(FloatKind.f64.format.order (WD a) (J8 .f64 4841369599423283200)==Hs .gt||FloatKind.f64.format.order (WD a) (J8 .f64 4841369599423283200)==Hs .eq)=true:=by
  rw[Zom,SO _ _ c.abs m2,ZsN];simpa using c.1
 have l:(FloatKind.f64.format.order (WD b) (J8 .f64 4841369599423283200)==Hs .gt||FloatKind.f64.format.order (WD b) (J8 .f64 4841369599423283200)==Hs .eq)=true:=by
  rw[Zom,SO _ _ d.abs m2,ZsN];simpa using d.1
 have n:(FloatKind.f64.format.order (WD a) 4841369599423283200==Hs .lt||FloatKind.f64.format.order (WD a) 4841369599423283200==Hs .eq)=true:=by
  rw[Zoo,SO _ _ c.abs m1,ZsR];simpa using c.2
 have o:(FloatKind.f64.format.order (WD b) 4841369599423283200==Hs .lt||FloatKind.f64.format.order (WD b) 4841369599423283200==Hs .eq)=true:=by
  rw[Zoo,SO _ _ d.abs m1,ZsR];simpa using d.2
 have p:(FloatKind.f64.format.order (WD a) (WD a) !=Hs .eq)=false:=by rw[SO _ _ c.abs c.abs,ZsW];simp
 have nb:(FloatKind.f64.format.order (WD b) (WD b) !=Hs .eq)=false:=by rw[SO _ _ d.abs d.abs,ZsW];simp
 have h:((0:Nat):Int)=0:=rfl;have c1:((1:Nat):Int)=1:=rfl;have i:((2:Nat):Int)=2:=rfl;have w0:IntKind.i64.wrap (0+1)=((1:Nat):Int):=by decide
 have q:IntKind.i64.wrap (1+1)=((2:Nat):Int):=by decide
 refine ZM func179 rfl ntmps179 results179 ?_;simp only[go_sem];refine vc1 m ?_;simp only[go_sem];refine ZA (ι:= { k:Nat // k<=2 }) 29 (λx=> [(1,.flt .f64 4841369599423283200),(8,.agg [.flt .f64 (WD a),.flt .f64 (WD b)]),(9,.int .i64 (x.1:Int))]) (λx=> []) (λx=> []) (λx=>2-x.1) ⟨0,by omega⟩
  ⟨rfl,(Fc3 rfl rfl rfl),fnl,fnl⟩ (λx=>⟨Fc3 rfl (by simp[Jw,Jy]) rfl,fnl⟩) (λx=> ?_)
 obtain⟨k,r⟩:=x;simp only;obtain rfl|rfl|rfl:k=0\/k=1\/k=2:=by omega
 simp only[go_sem,h,j,n];refine vc1 e ?_;simp only[go_sem,p,w0];exact⟨⟨1,by omega⟩,by show 2-1<2-0;omega,⟨rfl,(Fc3 rfl rfl rfl),fnl,fnl⟩⟩;simp only[go_sem,c1,l,o];refine vc1 f ?_;simp only[go_sem,nb,q];exact⟨⟨2,by omega⟩,by show 2-2<2-1;omega,⟨rfl,(Fc3 rfl rfl rfl),fnl,fnl⟩⟩;simp only[go_sem,i]
def DP (a b:Int) (d:Lim a) (e:Lim b):Pp 149 [.cpx .f64 (WD a) (WD b)] (.bool Ht):=by
 have c:=Zje a b d e;refine ZM func149 rfl ntmps149 results149 ?_;simp only[go_sem];refine vc1 c ?_;simp only[go_sem]
def Sn (a b:Int) (c:Lim a) (d:Lim b):Pp 101 [.cpx .f64 (WD a) (WD b)] (.tup [.int .i64 a,.int .i64 b,.int .i64 0]):=by
 have e:=DP a b c d;have k:=Zkl a c.abs;have tb:=Zkl b d.abs;have f:IntKind.i64.min<=a:=by rw[show IntKind.i64.min= -9223372036854775808 by decide];have:=c.1;omega
 have h:a<=IntKind.i64.max:=by rw[show IntKind.i64.max=9223372036854775807 by decide];have:=c.2;omega
 have i:IntKind.i64.min<=b:=by rw[show IntKind.i64.min= -9223372036854775808 by decide];have:=d.1;omega
 have j:b<=IntKind.i64.max:=by rw[show IntKind.i64.max=9223372036854775807 by decide];have:=d.2;omega
 refine ZS func101 rfl ntmps101 results101 (rfl) ?_;simp only[go_sem];refine vc1 e ?_;simp only[go_sem,k,tb,f,h,i,j]
def Xp (n:Int):Bool:=decide (-4503599627370496<=n)&&decide (n<=4503599627370496)
def Yw {n:Int}:Xp n=Ht↔Lim n:=by simp[Xp,Lim]
def Zf1 (n:Int):Pp 148 [.int .i64 n] (.bool (Xp n)):=by
 refine ZM func148 rfl ntmps148 results148 ?_;simp only[go_sem];repeat' ((first|(first|apply Zw|apply Zv|apply ZK)<;>intro h|refine vDq ?_)<;>first|simp only[go_sem,h]|simp only[go_sem]|skip)
 all_goals (simp_all[Xp];try omega)
def ZhD (a b:Int):Pp 99 [.int .i64 a,.int .i64 b] (if Xp a=Ht/\Xp b=Ht then .tup [.cpx .f64 (WD a) (WD b),.int .i64 0]else .tup [.cpx .f64 0 0,.int .i64 3]):=by
 have c:=Zf1 a;have d:=Zf1 b;have h:FloatKind.f64.nearest a=WD a:=rfl;have i:FloatKind.f64.nearest b=WD b:=rfl;cases e:Xp a;rw[e]at c;simp only[JL,false_and,if_false];refine ZS func99 rfl ntmps99 results99 (rfl) ?_;simp only[go_sem];refine vc1 c ?_;simp only[go_sem];rw[e]at c;cases f:Xp b;rw[f]at d;simp only[JL,and_false,if_false];refine ZS func99 rfl ntmps99 results99 (rfl) ?_;simp only[go_sem];refine vc1 c ?_;simp only[go_sem];refine vc1 d ?_;simp only[go_sem];rw[f]at d;simp only[and_self,if_true];refine ZS func99 rfl ntmps99 results99 (rfl) ?_;simp only[go_sem];refine vc1 c ?_;simp only[go_sem];refine vc1 d ?_;simp only[go_sem,h,i]
def ZmX (n:Int):Pp 202 [.int .i64 n] (.bool (!Xp n)):=by
 refine ZM func202 rfl ntmps202 results202 ?_;simp only[go_sem];repeat' ((first|(first|apply Zw|apply Zv|apply ZK)<;>intro h|refine vDq ?_)<;>first|simp only[go_sem,h]|simp only[go_sem]|skip)
 all_goals (simp_all[Xp];try omega)
 all_goals (rw[<-decide_not];congr 1;simp only[eq_iff_iff];omega)
open Go.PL Go.PL.Srt
structure SortK {α:Type} (pv:α->PV) (g:FuncId) (lt:α->α->Bool) (cv:α->α->Int):Prop where
 len:∀a,(pv a).cells.length=15
 atom:∀a,(pv a).cells.all KP=Ht
 ids:∀a,(pv a).ids= []
 known:∀a,(pv a).known=Ht
 give:∀a m,(pv a).give m=pv a
 givable:∀a m,(pv a).givable m
 part:∀a,Vb Ht 15 (pv a).cells 0=pv a
 cmp:∀a b,Pp g [pv a,pv b] (.int .i64 (cv a b))
 cv:∀a b,decide (cv a b<0)=lt a b
 good:Srt.Good lt
def Zx7 {x:Int} (a:0<=x) (b:x<=9223372036854775807):IntKind.i64.wrap x=x:=w64 (by omega)
section
variable {α:Type} [Inhabited α] {pv:α->PV} {g:FuncId} {lt:α->α->Bool} {cv:α->α->Int}
theorem Zew (K:SortK pv g lt cv) (e:TypeId) (n:Nat) (X L Y:List α) (hU:Unl lt L) (hn:X.length+L.length+Y.length=n) (hm:n<=1000000000000) (r:List PV) (hr:r=(X++(srt lt L++Y)).map pv):
  Eff prog 104 [.vsl 1000 n 15,.int .i64 (X.length:Int),.int .i64 ((X.length+L.length:Nat):Int),.fn g []] (T4 n 15 e ((X++(L++Y)).map pv)) (.tup []) (T4 n 15 e r):=by
 subst hr;have S:∀l:List α,∀p∈l.map pv,p.ids= []:=λl=>Yt K.ids l
 refine Eff.vw [] func104 (by decide) rfl ntmps104 results104 (by simp) (S _) (S _) (by simp[Jw,Jy]) (by simp[Jw,Jy]) λq=> ?_
 have w1:IntKind.i64.wrap ((X.length:Int)+1)=((X.length+1:Nat):Int):=by rw[Zx7 (by omega) (by omega)];rfl
 have klen:=K.len;have kpart:=K.part;have katom:=K.atom;have kknown:=K.known;simp only[go_sem]at klen kpart katom kknown;have one:∀l:List α,srt lt (l.take 1)=l.take 1:=λl=>by cases l<;>rfl
 simp only[go_sem,w1];refine Ul (ι:= { k:Nat // 1<=k/\(k<=L.length\/k=1) }) 53 (λx=> [(0,.vsl 1000 n 15),(1,.int .i64 (X.length:Int)),(2,.int .i64 ((X.length+L.length:Nat):Int)),(3,.fn g []),(8,.int .i64 ((X.length+x.1:Nat):Int))]) (λ_=> []) (λ_=> [(1000,.vec n 15 e)]) (λ_=> []) (λ_=> []) (λx=> [(1000,(X++(srt lt (L.take x.1)++(L.drop x.1++Y))).map pv)]) (λ_=> []) [] [(1000,q)] [] (λx=>L.length-x.1) ⟨1,by omega,.inr rfl⟩
  (Fz rfl (Fc5 rfl rfl rfl rfl rfl) rfl (by rw[one,<-Jl (KK 1 L),List.take_append_drop];rfl) rfl) (λx=>Zar (by simp[Jw,Jy,ZR]) (Xd K.ids _)) (λx=> ?_)
 obtain⟨k,xb,xc⟩:=x;simp only;by_cases J:k<L.length
 ·have c1:((X.length+k:Nat):Int)<((X.length+L.length:Nat):Int):=by omega
  have eD:L.drop k=L.getD k Jd::L.drop (k+1):=by rw[List.drop_eq_getElem_cons J,getD_lt J]
  have Z:L.take (k+1)=L.take k++ [L.getD k Jd]:=by rw[JP J,getD_lt J]
  have w:Unl lt (L.take k++ [L.getD k Jd]):=by rw[<-Z];exact J9.sublist (List.take_sublist _ _) hU
  have R:=(Unl.append.1 w).1;have f:=ZbQ K.good R;have T:(L.take k).length=k:=by rw[Jc];omega
  generalize hx:L.getD k Jd=x at *;generalize hD:L.drop (k+1)=D at *;generalize U:srt lt (L.take k)=sk at *;have E:sk.length=k:=by rw[<-U,VK];omega
  rw[eD];simp only[go_sem,c1];refine Ul (ι:= { pq:List α×List α // pq.1++pq.2=sk/\ ∀y∈pq.2,lt x y=Ht }) 53 (λy=> [(0,.vsl 1000 n 15),(1,.int .i64 (X.length:Int)),(2,.int .i64 ((X.length+L.length:Nat):Int)),(3,.fn g []),(8,.int .i64 ((X.length+k:Nat):Int)),(9,.int .i64 ((X.length+y.1.1.length:Nat):Int))]) (λ_=> []) (λ_=> [(1000,.vec n 15 e)]) (λ_=> []) (λ_=> []) (λy=> [(1000,(X++(y.1.1++x::(y.1.2++(D++Y)))).map pv)]) (λ_=> []) [] [(1000,q)] [] (λy=>y.1.1.length) ⟨(sk,[]),by simp,by simp⟩
   (Fz rfl (by rw[show(⟨(sk,[]),by simp,by simp⟩: { pq:List α×List α // pq.1++pq.2=sk/\ ∀y∈pq.2,lt x y=Ht }).1.1.length=k from E];exact(Fc6 rfl rfl rfl rfl rfl rfl)) rfl (by show Hs _=Hs _;simp) rfl) (λy=>Zar (by simp[Jw,Jy,ZR]) (Xd K.ids _)) (λy=> ?_)
  obtain⟨⟨A,C⟩,d,hC⟩:=y;simp only;have w2:IntKind.i64.wrap (((X.length+k:Nat):Int)+1)=((X.length+(k+1):Nat):Int):=by rw[Zx7 (by omega) (by omega)];omega
  have xa:L.length=k+1+D.length:=by rw[<-hD,Jg];omega
  have u:A.length+C.length=k:=by rw[<-E,<-d];simp
  have next:∀M:List α,srt lt (L.take (k+1))=M->(X++(M++(D++Y)))=(X++(srt lt (L.take (k+1))++(L.drop (k+1)++Y))):=λM h=>by rw[h,hD]
  have v:∀c∈C,lt x c=true:=hC;have b:(∀p∈A,lt p x=Ht)->srt lt (L.take (k+1))=A++x::C:=λhp=>by
   refine Zuc K.good (by rw[d];exact f) hp v ?_;rw[Z];have p1:(A++x::C).Perm (x::(A++C)):=List.perm_middle;refine p1.trans ?_;rw[d,<-U];exact((Wx (L.take k)).cons x).trans (List.perm_append_comm (l₁:= [x]))
  rcases List.eq_nil_or_concat A with t|⟨a,y,t⟩
  ·subst t;have b:=b (by simp);have N:X.length+([]:List α).length=X.length:=by simp
   rw[N];have o:¬((X.length:Int)<(X.length:Int)):=by omega
   simp only[go_sem,o];refine vDq ?_;simp only[go_sem,o,w2];refine⟨⟨k+1,by omega,by omega⟩,nx9 (by omega),Fz rfl (Fc5 rfl rfl rfl rfl rfl) rfl ?_ rfl⟩;show Hs _=Hs _;rw[<-next _ b];simp
  have t:A=a++ [y]:=by simpa using t
  subst t;obtain⟨j,hj⟩:∃j,j=X.length+a.length:=⟨_,rfl⟩;have N:X.length+(a++ [y]).length=j+1:=by simp;omega
  simp only[Je,List.length_singleton]at u;rw[N];have el:X++((a++ [y])++x::(C++(D++Y)))=(X++a)++y::([]++x::(C++(D++Y))):=by simp
  rw[el];generalize s:(X++a)++y::([]++x::(C++(D++Y)))=l;have B:l.length=n:=by rw[<-s];simp;omega
  have O:(l.map pv).getD j .any=pv y:=by rw[G4 (by omega),<-s,D7 _ _ _ (by simp;omega)]
  have g1:(l.map pv).getD (j+1) .any=pv x:=by
   rw[G4 (by omega),<-s,show(X++a)++y::([]++x::(C++(D++Y)))=(X++a++ [y])++x::(C++(D++Y))by simp,D7 _ _ _ (by simp;omega)]
  have w3:IntKind.i64.wrap (((j+1:Nat):Int)-1)=(j:Int):=by rw[Zx7 (by omega) (by omega)];omega
  have o:(X.length:Int)<((j+1:Nat):Int):=by omega
  have I:0<=((j+1:Nat):Int)/\((j+1:Nat):Int)<(n:Int):=by omega
  have G:0<=(j:Int)/\(j:Int)<(n:Int):=by omega
  have hv:=K.cv x y;simp only[go_sem,o];refine vDq ?_;simp only[go_sem,o,w3,I.1,I.2,G.1,G.2,O,g1,klen,kpart,B];refine YN (K.cmp x y) ?_ ?_ ?_;simp only[go_sem,K.give,K.givable];simp only[go_sem,K.give,K.givable];by_cases m:lt x y=Ht
  ·rw[m]at hv;have g2:((l.set (j+1) y).map pv).getD j .any=pv y:=by
    rw[G4 (by simp;omega),<-G4 (pv:=pv) (by simp;omega),<-To,Zf7 (by omega),O]
   have es:(l.set (j+1) y).set j x=X++(a++x::((y::C)++(D++Y))):=by
    have h:=Zue (X++a) [] (C++(D++Y)) y x (i:=j) (j:=j+1) (by simp;omega) (by simp;omega);rw[s,Zpj _ _ _ (by omega) (by omega)]at h;have d0:l.getD j Jd=y:=by rw[<-s];exact D7 _ _ _ (by simp;omega)
    have o:l.getD (j+1) Jd=x:=by
     rw[<-s,show(X++a)++y::([]++x::(C++(D++Y)))=(X++a++ [y])++x::(C++(D++Y))by simp,D7 _ _ _ (by simp;omega)]
    unfold swap at h
    rw[d0,o]at h;rw[h];simp
   simp only[go_sem,hv,of_decide_eq_true hv];refine vDq ?_;simp only[go_sem,w3,I.1,I.2,G.1,G.2,O,g1,klen,kpart,katom,kknown,B,To,g2,List.length_set,es];subst hj;exact⟨⟨(a,y::C),by simpa using d,λz W=>by
    rcases List.mem_cons.1 W with rfl|W;exact m;exact v z W⟩,by show a.length<(a++ [y]).length;simp,Fz rfl (Fc6 rfl rfl rfl rfl rfl rfl) rfl rfl rfl⟩
  have V:¬cv x y<0:=by
   have:lt x y=false:=by simpa using m
   rw[this]at hv;simpa using hv
  have hy:y∈L.take k:=by rw[<-Zpf (lt:=lt),U,<-d];simp
  have F:lt y x=true:=((Unl.append.1 w).2.2 y hy x (by simp)).resolve_right m;have Q:∀p∈a,lt p y=true:=λp hp=>by
   rw[<-d]at f;exact(Inc.append.1 (Inc.append.1 f).1).2.2 p hp y (by simp)
  have b:=b λp hp=>by
   rcases List.mem_append.1 hp with hp|hp;exact K.good.trans _ _ _ (Q p hp) F;simp only[Ks]at hp;subst hp;exact F
  simp only[go_sem,V,w2];refine⟨⟨k+1,by omega,by omega⟩,nx9 (by omega),Fz rfl (Fc5 rfl rfl rfl rfl rfl) rfl ?_ rfl⟩;show Hs _=Hs _;rw[<-next _ b,<-s];simp
 have c1:¬((X.length+k:Nat):Int)<((X.length+L.length:Nat):Int):=by omega
 have e1:L.take k=L:=List.take_of_length_le (by omega);have e2:L.drop k= []:=List.drop_eq_nil_of_le (by omega);simp only[go_sem,c1];refine Zh9 (r0:= .tup []) (S _) rfl (.clean rfl) rfl ?_ rfl;show Hs _=Hs _;rw[e1,e2];simp
end
open Go.PL Go.PL.Srt
section
variable {α:Type} [Inhabited α] {pv:α->PV} {g:FuncId} {lt:α->α->Bool} {cv:α->α->Int}
theorem Zps {A B:List α} (h:Unl lt B) (s:A.Sublist B):Unl lt A:=J9.sublist s h
theorem FB (K:SortK pv g lt cv) (e:TypeId) (n:Nat) (X L Y:List α) (f:Unl lt L) (k:X.length+L.length+Y.length=n) (j:n<=1000000000000) (d r:List PV) (a:d=(X++(L++Y)).map pv) (l:r=(X++(srt lt L++Y)).map pv) (b c:Int) (h:b=(X.length:Int)) (i:c=((X.length+L.length:Nat):Int)):
  Eff prog 104 [.vsl 1000 n 15,.int .i64 b,.int .i64 c,.fn g []] (T4 n 15 e d) (.tup []) (T4 n 15 e r):=by
 subst h i a;exact Zew K e n X L Y f k j r l
theorem Zl7 (K:SortK pv g lt cv) (e:TypeId) (n:Nat) (m:n<=20) (L:List α) (f:Unl lt L) (i:L.length=n) (r:List PV) (j:r=(srt lt L).map pv):
  Eff prog 62 [.vsl 1000 n 15,.int .i64 (n:Int),.fn g []] (T4 n 15 e (L.map pv)) (.tup []) (T4 n 15 e r):=by
 subst j;have a:∀l:List α,∀p∈l.map pv,p.ids= []:=λl=>Yt K.ids l
 refine Eff.vw [] func62 (by decide) rfl ntmps62 results62 (by simp) (a _) (a _) (by simp[Jw,Jy]) (by simp[Jw,Jy]) λq=> ?_
 simp only[go_sem];refine Ul (ι:= { s:List α×List α // s.1++srt lt s.2=srt lt L/\s.1.length+s.2.length=n/\s.2.Sublist L }) 63 (λy=> [(0,.vsl 1000 n 15),(1,.int .i64 (n:Int)),(2,.fn g []),(6,.int .i64 20),(7,.int .i64 (y.1.1.length:Int)),(8,.int .i64 ((y.1.1.length+20:Nat):Int))]) (λ_=> []) (λ_=> [(1000,.vec n 15 e)]) (λ_=> []) (λ_=> []) (λy=> [(1000,(y.1.1++y.1.2).map pv)]) (λ_=> []) [] [(1000,q)] [] (λy=>y.1.2.length) ⟨([],L),rfl,by simpa using i,List.Sublist.refl L⟩
  (Fz rfl (Fc6 rfl rfl rfl rfl rfl rfl) rfl rfl rfl) (λx=>Zar (by simp[Jw,Jy,ZR]) (Xd K.ids _)) (λy=> ?_)
 obtain⟨⟨D,R⟩,b,c,d⟩:=y;simp only at b c d ⊢;by_cases h:20<=R.length;have c1:((D.length+20:Nat):Int)<=(n:Int):=by omega
 have k:IntKind.i64.wrap (((D.length+20:Nat):Int)+20)=((D.length+20+20:Nat):Int):=by rw[Zx7 (by omega) (by omega)];omega
 simp only[go_sem,c1];refine DD 1000 (FB K e n D R [] (Zps f d) (by simpa using c) (by omega) _ ((D++srt lt R).map pv) (by simp) (by simp) _ _ rfl (by omega)) (by simp[Jw,Jy]) (a _) (a _) rfl rfl rfl ?_;simp only[go_sem,k];refine⟨⟨(D++srt lt R,[]),by rw[<-b];simp[srt],by simp[VK];omega,List.nil_sublist _⟩,by show 0<R.length;omega,Fz rfl ?_ rfl (by show Hs _=Hs _;simp) rfl⟩;show ∀x∈ [(0,PV.vsl 1000 n 15),(1,.int .i64 (n:Int)),(2,.fn g []),(6,.int .i64 20),(7,.int .i64 ((D++srt lt R).length:Int)),(8,.int .i64 (((D++srt lt R).length+20:Nat):Int))],_;rw[show(D++srt lt R).length=D.length+20 by simp[VK];omega];exact(Fc6 rfl rfl rfl rfl rfl rfl);have c1:¬((D.length+20:Nat):Int)<=(n:Int):=by omega
 simp only[go_sem,c1];refine DD 1000 (FB K e n D R [] (Zps f d) (by simpa using c) (by omega) _ ((srt lt L).map pv) (by simp) (by rw[Jp,b]) _ _ rfl (by omega)) (by simp[Jw,Jy]) (a _) (a _) rfl rfl rfl ?_;clear b c d h c1;simp only[go_sem];refine Ul (ι:=Unit) 63 (λ_=> [(0,.vsl 1000 n 15),(1,.int .i64 (n:Int)),(2,.fn g []),(6,.int .i64 20)]) (λ_=> []) (λ_=> [(1000,.vec n 15 e)]) (λ_=> []) (λ_=> []) (λ_=> [(1000,(srt lt L).map pv)]) (λ_=> []) [] [(1000,q)] [] (λ_=>0) ()
  (Fz rfl (Fc4 rfl rfl rfl rfl) rfl rfl rfl) (λx=>Zar (by simp[Jw,Jy,ZR]) (Xd K.ids _)) (λy=> ?_)
 have c1:¬(20:Int)<(n:Int):=by omega
 simp only[go_sem,c1];exact Zh9 (r0:= .tup []) (a _) rfl (.clean rfl) rfl rfl rfl
theorem S6 (K:SortK pv g lt cv) (e:TypeId) (n:Nat) (c:n<=20) (L:List α) (b:Unl lt L) (d:L.length=n) (r:List PV) (f:r=(srt lt L).map pv):
  Eff prog 29 [.vsl 1000 n 15,.fn g []] (T4 n 15 e (L.map pv)) (.tup []) (T4 n 15 e r):=by
 subst f;have a:∀l:List α,∀p∈l.map pv,p.ids= []:=λl=>Yt K.ids l
 refine Eff.vw [] func29 (by decide) rfl ntmps29 results29 (by simp) (a _) (a _) (by simp[Jw,Jy]) (by simp[Jw,Jy]) λq=> ?_
 simp only[go_sem];refine DD 1000 (Zl7 K e n c L b d _ rfl) (by simp[Jw,Jy]) (a _) (a _) rfl rfl rfl ?_;simp only[go_sem];exact Zh9 (r0:= .tup []) (a _) rfl (.clean rfl) rfl rfl rfl
end
open Go.Shelf
def ZiL:Go.Shelf.Ren:=⟨λ|190=>60|125=>103|258=>102|128=>159|129=>160|302=>150|303=>151|304=>152|305=>153|306=>154|307=>155|308=>156|309=>157|310=>158|333=>180|329=>181|330=>182|334=>183|335=>184|336=>185|344=>197|n=>n,λ|31=>62|9=>9|3=>3|46=>178|0=>0|51=>221|53=>223|4=>4|183=>214|182=>213|131=>147|5=>5|218=>238|222=>242|228=>258|229=>259|n=>n,λ|n=>n⟩
def Zo4:Go.Proofs.Lays.n190 prog ZiL where
 mixed:=by kernel_rfl
 f125:=func103.trans (congrArg Hs (by kernel_rfl))
 f128:=func159.trans (congrArg Hs (by kernel_rfl))
 f129:=func160.trans (congrArg Hs (by kernel_rfl))
 f190:=func60.trans (congrArg Hs (by kernel_rfl))
 f258:=func102.trans (congrArg Hs (by kernel_rfl))
 f302:=func150.trans (congrArg Hs (by kernel_rfl))
 f303:=func151.trans (congrArg Hs (by kernel_rfl))
 f304:=func152.trans (congrArg Hs (by kernel_rfl))
 f305:=func153.trans (congrArg Hs (by kernel_rfl))
 f306:=func154.trans (congrArg Hs (by kernel_rfl))
 f307:=func155.trans (congrArg Hs (by kernel_rfl))
 f308:=func156.trans (congrArg Hs (by kernel_rfl))
 f309:=func157.trans (congrArg Hs (by kernel_rfl))
 f310:=func158.trans (congrArg Hs (by kernel_rfl))
 f329:=func181.trans (congrArg Hs (by kernel_rfl))
 f330:=func182.trans (congrArg Hs (by kernel_rfl))
 f333:=func180.trans (congrArg Hs (by kernel_rfl))
 f334:=func183.trans (congrArg Hs (by kernel_rfl))
 f335:=func184.trans (congrArg Hs (by kernel_rfl))
 f336:=func185.trans (congrArg Hs (by kernel_rfl))
 f344:=func197.trans (congrArg Hs (by kernel_rfl))
 t0:=underlying0
 a0:=isAgg0
 z0:=sizeOf0
 v0:=zeroValue0
 t3:=underlying3
 a3:=isAgg3
 z3:=sizeOf3
 v3:=zeroValue3
 t4:=underlying4
 a4:=isAgg4
 z4:=sizeOf4
 v4:=zeroValue4
 t5:=underlying5
 a5:=isAgg5
 z5:=sizeOf5
 v5:=zeroValue5
 t9:=underlying9
 a9:=isAgg9
 z9:=sizeOf9
 v9:=zeroValue9
 t31:=underlying62
 a31:=isAgg62
 z31:=sizeOf62
 v31:=zeroValue62
 t46:=underlying178
 a46:=isAgg178
 z46:=sizeOf178
 v46:=zeroValue178
 t51:=underlying221
 a51:=isAgg221
 z51:=sizeOf221
 v51:=zeroValue221
 t53:=underlying223
 a53:=isAgg223
 z53:=sizeOf223
 v53:=zeroValue223
 t131:=underlying147
 a131:=isAgg147
 z131:=sizeOf147
 v131:=zeroValue147
 t182:=underlying213
 a182:=isAgg213
 z182:=sizeOf213
 v182:=zeroValue213
 t183:=underlying214
 a183:=isAgg214
 z183:=sizeOf214
 v183:=zeroValue214
 t218:=underlying238
 a218:=isAgg238
 z218:=sizeOf238
 v218:=zeroValue238
 t222:=underlying242
 a222:=isAgg242
 z222:=sizeOf242
 v222:=zeroValue242
 t228:=underlying258
 a228:=isAgg258
 z228:=sizeOf258
 v228:=zeroValue258
 t229:=underlying259
 a229:=isAgg259
 z229:=sizeOf259
 v229:=zeroValue259
def Zh0:Go.Shelf.Ren:=⟨λ|194=>61|n=>n,λ|31=>62|9=>9|3=>3|4=>4|0=>0|n=>n,λ|n=>n⟩
def Zng:Go.Proofs.Lays.n194 prog Zh0 where
 mixed:=by kernel_rfl
 f194:=func61.trans (congrArg Hs (by kernel_rfl))
 t0:=underlying0
 a0:=isAgg0
 z0:=sizeOf0
 v0:=zeroValue0
 t3:=underlying3
 a3:=isAgg3
 z3:=sizeOf3
 v3:=zeroValue3
 t4:=underlying4
 a4:=isAgg4
 z4:=sizeOf4
 v4:=zeroValue4
 t9:=underlying9
 a9:=isAgg9
 z9:=sizeOf9
 v9:=zeroValue9
 t31:=underlying62
 a31:=isAgg62
 z31:=sizeOf62
 v31:=zeroValue62
open Go.PL
open Go.PL
open Go.PL
end Go.Proofs.YtcmpkokndngplaaGreat
namespace Go.PL
open Go.RowKit Go.Lib
structure KeepP (p:Prop):Prop where
 out:p
section
variable {P:Program}
theorem Vt (w:World) (h s ty elem:TypeId) (sz g o dLen dCap:Nat) (a:Addr) (sLen sCap:Nat) (b:Array Value) (t:TypeId) (cs:List Value)
  (r:P.underlying h=Hs (.slice elem)) (l:(P.info? elem).map (·.size)=Hs sz)
  (n:w.heap[g]? = Hs (.cells b t (0,0))) (k:cs.length=Ky sLen dLen*sz)
  (d:∀j v,cs[j]? = Hs v->w.cell? (a.add j)=Hs v) (c:o+cs.length<=b.size) (m:∀v∈cs,v.oneCell'=Ht):
  (Ju #[h,s] ty #[.slice (Hs ⟨g,o,Hn⟩) dLen dCap,.slice (Hs a) sLen sCap]).run P w=
   .ok (goInt (Ky sLen dLen)) (w.setRow g (b.toList.take o++cs++b.toList.drop (o+cs.length)).toArray):=by
 have q:=run_loadCells_list (P:=P) w a cs d;have f:=run_storeCells_at P g o t cs 0 b w n (by simpa using c) m;cases e:P.info? elem with
 |none=>simp[e]at l
 |some i=>
  have p:i.size=sz:=by simpa[e]using l
  simp only[JO]at k;simp[Ju,run_underlying r,Builtin.lenOf,Kt,sizeOf,typeInfo,e,p,JO,<-k,q,f]
def F4 (w:World) {ops:Array Oper} {rest:List Oper} {o:Oper} {a:Act} {Q:Exit->Act->World->Prop} (c:o.guard=Hn) (d s:Operand) (t e:TypeId)
  (f:o.op= .call { callee:= .builtin .copy,args:= #[d,s],argTypes:= #[t,e] }) (v u:Value) (hd:a.eval d=v) (j:a.eval s=u) {v':Value} {w':World}
  (i:(Ju #[t,e] o.type #[v,u]).run P w= .ok v' w') (h:wpList P ops Q rest (a.put o.dst v') w'):wpList P ops Q (o::rest) a w:=
 wpList_plain c λ_ b=>by
  have b:=b _ _ h;unfold Oper.wp execOp;simp only[f,resolve,invoke,builtin,Sem.run_bind,Sem.run_pure,Result.andThen_ok,List.map_toArray,JH,Kd,hd,j,i];exact b
def Gf {ops:Array Oper} {o:Oper} {a:Act} {w:World} {K:Act->World->Prop} {Q:Exit->Act->World->Prop} {E:Prop}
  (h:o.guard=Hn) (d x:Operand) (c e:TypeId) (b:o.op=Op.call { callee:=Callee.builtin Builtin.copy,args:= #[d,x],argTypes:= #[c,e] })
  (v u:Value) (hd:a.eval d=v) (k:a.eval x=u) {v':Value} {w':World} (i:(Ju #[c,e] o.type #[v,u]).run P w= .ok v' w') (f:K (a.put o.dst v') w'):
  if JJ o (yielded ops a.tmps)=Ht then Oper.wp P o a w K Q else E:=by
 have j:JJ o (yielded ops a.tmps)=true:=by simp[JJ,h]
 rw[if_pos j];unfold Oper.wp;simp[execOp,b,resolve,invoke,builtin,hd,k,i,JV];exact f
end
end Go.PL
namespace Go.Proofs.YtcmpkokndngplaaGreat
open Go.PL Go.RowKit Go.Lib
theorem Zhg {w:World} {d:Nat} {e f:Value} (b:w.cell? ⟨d,0,Hn⟩=Hs e) (c:w.cell? ⟨d,1,Hn⟩=Hs f):∀j u,([e,f]:List Value)[j]? = Hs u->w.cell? ((⟨d,0,Hn⟩:Addr).add j)=Hs u:=λj u a=>by
 rw[Z7];match j,a with
 |0,a=>simp at a;subst a;exact b
 |1,a=>simp at a;subst a;exact c
set_option maxRecDepth 100000 in
def TE (A:Option Addr) (n c:Nat) (xs:List Value) (w:World) (f m:Nat) (d e:Value) (t:A=Hn->n=0/\c=0) (y:xs.length=n*2) (v:∀b,A=Hs b-> ∀j u,xs[j]? = Hs u->w.cell? (b.add j)=Hs u) (z:n<=c) (i:c<n+1) (B:n<=1000000)
  (k:w.cell? ⟨f,0,Hn⟩=Hs d) (l:w.cell? ⟨f,1,Hn⟩=Hs e) (r:d.oneCell'=Ht) (s:e.oneCell'=Ht):
  Calls prog 81 #[.slice A n c,.int .i64 n,.slice (Hs ⟨f,0,Hn⟩) 1 m] w λo w'=>∃v',o= .returned v'/\w'.ownsRow w.heap.size 90 2 v' (n+1) (xs++ [d,e])/\w.grownBy w' none:=by
 have a:=Zhg k l;have h:∀u∈([d,e]:List Value),u.oneCell'=true:=by simp[r,s]
 have x:c<=9223372036854775807:=by omega
 go_enter func81,ntmps81
 go_wp2_with (at_builtin;refine wpList_append_grows _ rfl _ _ 34 rfl 90 _ _ 2 40 underlying34 rfl rfl rfl rfl rfl (by decide) A _ _ xs rfl t y v ⟨f,0,Hn⟩ 1 m [d,e] rfl rfl a h (by omega) (by rw[Zd];omega) (by omega) ?_;intro v' w' p q)
 all_goals (go_ret;exact⟨v',rfl,p,q⟩)
set_option maxRecDepth 100000 in
def Zav (b n c:Nat) (a:List Value) (w:World) (o q:Nat) (j m:Value) (x:w.heap[b]? = Hs (.cells ⟨a⟩ 90 (0,0))) (C:a.length=c*2) (i:n+1<=c) (s:c<=maxLen)
  (t:w.cell? ⟨o,0,Hn⟩=Hs j) (v:w.cell? ⟨o,1,Hn⟩=Hs m) (z:j.oneCell'=Ht) (A:m.oneCell'=Ht):
  Calls prog 81 #[.slice (Hs ⟨b,0,Hn⟩) n c,.int .i64 n,.slice (Hs ⟨o,0,Hn⟩) 1 q] w λy w'=>y= .returned (.slice (Hs ⟨b,0,Hn⟩) (n+1) c)/\ ∃d:List Value,w'.heap[b]? = Hs (.cells ⟨d⟩ 90 (0,0))/\d.length=c*2/\
   d.take ((n+1)*2)=a.take (n*2)++ [j,m]/\w.grownBy w' (Hs b):=by
 have f:=Zhg t v;have r:∀u∈([j,m]:List Value),u.oneCell'=true:=by simp[z,A]
 rw[Zd]at s;have E:n<=c:=by omega
 have B:¬(c=n):=by omega
 obtain⟨W,p⟩:∃W,W=w.setRow b (a.take (n*2)++ [j,m]++a.drop (n*2+2)).toArray:=⟨_,rfl⟩;have F:∀ty,(JU #[34,34] ty #[.slice (Hs ⟨b,0,Hn⟩) n c,.slice (Hs ⟨o,0,Hn⟩) 1 q]).run prog w= .ok (.slice (Hs ⟨b,0,Hn⟩) (n+1) c) W:=λty=>by
  rw[p];exact run_append_room (P:=prog) w 34 ty 90 _ underlying34 rfl b n c ⟨a⟩ x ⟨o,0,Hn⟩ 1 q [j,m] rfl f r i (by show n*2+2<=a.length;omega)
 replace p:KeepP (W=_):=⟨p⟩
 go_enter func81,ntmps81
 go_wp2_with (at_builtin;refine Lib.wpList_append_run _ rfl _ _ _ _ rfl _ _ rfl rfl _ _ (F _) ?_)
 go_ret
 rw[p.out];refine⟨rfl,_,setRow_heap w b _ _ _ _ x,?_,?_,?_⟩;simp only[Je,Jc,Jg,Jh,Ji];omega;refine(Jr ?_);simp only[Je,Jc,Jh,Ji];omega;have h:∀l,BelowF (λk=>k≠b) w (w.setRow b l):=λl=>Ym (by simp)
 exact⟨(h _).os,(h _).tape,(h _).output,(h _).size,λk _ D=>(h _).block k λe=>D (by rw[e])⟩
set_option maxRecDepth 100000 in
theorem Zff (b n c i:Nat) (a:List Value) (w:World) (u G:Nat) (ys:List Value) (E F:Value) (L:w.heap[b]? = Hs (.cells ⟨a⟩ 90 (0,0))) (xg:a.length=c*2) (hi:i<n) (Q:n+1<=c) (N:c<=maxLen) (J:u≠b)
  (hv:w.heap[u]? = Hs (.cells ⟨ys⟩ 90 (0,0))) (T:ys[0]? = Hs E) (U:ys[1]? = Hs F) (h1:E.oneCell'=Ht) (h2:F.oneCell'=Ht) (S:∀x∈a.take (n*2),x.oneCell'=Ht):
  Calls prog 81 #[.slice (Hs ⟨b,0,Hn⟩) n c,.int .i64 i,.slice (Hs ⟨u,0,Hn⟩) 1 G] w λen w'=>en= .returned (.slice (Hs ⟨b,0,Hn⟩) (n+1) c)/\ ∃q:List Value,w'.heap[b]? = Hs (.cells ⟨q⟩ 90 (0,0))/\q.length=c*2/\
   q.take ((n+1)*2)=(a.take (n*2)).take (i*2)++ [E,F]++(a.take (n*2)).drop (i*2)/\w.grownBy w' (Hs b):=by
 have xn:¬((i:Int)=(n:Int)):=by omega
 have mixed:prog.follows .mixedOrders=true:=by kernel_rfl
 rw[Zd]at N;have xl:IntKind.i64.wrap ((i:Int)+1)=(i:Int)+1:=by rw[IntKind.wrap_i64];omega
 have xm:IntKind.i64.wrap ((n:Int)+1)=(n:Int)+1:=by rw[IntKind.wrap_i64];omega
 have xk:((i:Int)+1).toNat=i+1:=by omega
 have xj:((n:Int)+1).toNat=n+1:=by omega
 have xb:(0:Int)<=(i:Int)+1:=by omega
 have xa:(0:Int)<=(n:Int)+1:=by omega
 have xc:¬(c=i+1):=by omega
 have xd:(i:Int)<=(n:Int)+1:=by omega
 have xe:¬(c=i):=by omega
 have xf:¬((c:Int)<(n:Int)+1):=by omega
 have xh:i<=n:=by omega
 have K:(prog.info? 90).map (·.size)=Hs 2:=rfl;have t:∀ {k:Nat} {l:List Value},w.heap[k]? = Hs (.cells ⟨l⟩ 90 (0,0))->w.shape? k=Hs (90,l.length)/\ ∀o,w.frozen? ⟨k,o,Hn⟩=false:=λh=>⟨by simp[World.shape?,h],λo=>by simp[World.frozen?,h]⟩
 have O:∀V M,(callFunc 117 #[.slice (Hs ⟨u,0,Hn⟩) 1 G,.slice (Hs ⟨b,(i+1)*2,Hn⟩) V M]).run prog w= .ok (.value (.bool Hf)) w:=λV M=>by
  rw[run_callFunc_extern func117 (by kernel_rfl) (by kernel_rfl) (by kernel_rfl) (e:=Extern.SlicesOverlaps.overlaps #[34,34] #[4]) (by kernel_rfl),
   Lib.run_overlaps_apart w 34 4 90 underlying34 2 sizeOf90 ⟨u,0,Hn⟩ ⟨b,(i+1)*2,Hn⟩ 1 G V M J _ _ _ _ (t hv).1 (t L).1 (by omega) ((t hv).2 _) ((t hv).2 _)]
  rfl
 have y:Ky (n+1-i) (n-i)=n-i:=by simp only[JO];split<;>omega
 have D:((a.take (n*2)).drop (i*2)).length=(n-i)*2:=by rw[Jg,Jc];omega
 have r:∀ty z sc,(Ju #[34,34] ty #[.slice (Hs ⟨b,(i+1)*2,Hn⟩) (n-i) z,.slice (Hs ⟨b,i*2,Hn⟩) (n+1-i) sc]).run prog w.drew= .ok (goInt ((n-i:Nat):Int)) (w.drew.setRow b (a.take ((i+1)*2)++(a.take (n*2)).drop (i*2)++a.drop ((i+1)*2+((a.take (n*2)).drop (i*2)).length)).toArray):=λty z sc=>by
  have W:=Vt (P:=prog) w.drew 34 34 ty 90 2 b ((i+1)*2) (n-i) z ⟨b,i*2,Hn⟩ (n+1-i) sc ⟨a⟩ _ ((a.take (n*2)).drop (i*2)) underlying34 K L (by rw[y,D])
   (λj v m=>by
    rw[Z7];rw[Jz]at m;have:=J2.1 m;rw[JA]at m;split at m
    ·show w.cell? _=_;rw[Yu L];exact m
    ·cases m) (by rw[D];show _<=a.length;omega) (λv hv=>S v (JT hv))
  rw[y]at W;exact W
 obtain⟨d,f⟩:∃d,d=a.take ((i+1)*2)++(a.take (n*2)).drop (i*2)++a.drop ((i+1)*2+((a.take (n*2)).drop (i*2)).length):=⟨_,rfl⟩;rw[<-f]at r;have xi:d.length=c*2:=by
  rw[f,D];simp only[Je,Jc,Jg];omega
 obtain⟨W1,p⟩:∃W1,W1=w.drew.setRow b d.toArray:=⟨_,rfl⟩;rw[<-p]at r;have s:W1.heap[b]? = Hs (.cells ⟨d⟩ 90 (0,0)):=by rw[p];exact setRow_heap w.drew b _ _ _ _ L
 have R:W1.heap[u]? = Hs (.cells ⟨ys⟩ 90 (0,0)):=by rw[p];exact(setRow_other w.drew b u _ J).trans hv
 have I:∀ty z,(Ju #[34,34] ty #[.slice (Hs ⟨b,i*2,Hn⟩) (n+1-i) z,.slice (Hs ⟨u,0,Hn⟩) 1 G]).run prog W1= .ok (goInt 1) (W1.setRow b (d.take (i*2)++ [E,F]++d.drop (i*2+2)).toArray):=λty z=>by
  have X:Ky 1 (n+1-i)=1:=by simp only[JO];split<;>omega
  have:=Vt (P:=prog) W1 34 34 ty 90 2 b (i*2) (n+1-i) z ⟨u,0,Hn⟩ 1 G ⟨d⟩ _ [E,F] underlying34 K s (by rw[X];rfl)
   (λj v m=>by
    rw[Z7,Yu R]
    match j,m with
    |0,m=>simp at m;subst m;exact T
    |1,m=>simp at m;subst m;exact U) (by show i*2+2<=d.length;omega) (by simp[h1,h2])
  rw[X]at this;exact this
 go_enter func81,ntmps81
 replace f:KeepP (d=_):=⟨f⟩
 replace p:KeepP (W1=_):=⟨p⟩
 replace s:KeepP (W1.heap[b]? = _):=⟨s⟩
 go_wp2_with (simp only[O])
 go_region_law_o (refine Gf rfl _ _ 34 34 rfl _ _ (by simp[Act.eval,Act.put]) (by simp[Act.eval,Act.put]) (r _ _ _) ?_)
 go_wp2_with (at_builtin;refine F4 _ rfl _ _ 34 34 rfl _ _ rfl rfl (I _ _) ?_)
 go_ret
 refine⟨rfl,_,setRow_heap W1 b _ _ _ _ s.out,?_,?_,?_⟩;simp only[Je,Jc,Jg,Jh,Ji];omega;have e0:(a.take ((i+1)*2)).length=i*2+2:=by rw[Jc];omega
 have e1:d.take (i*2)=(a.take (n*2)).take (i*2):=by
  rw[f.out,Jl,List.take_append_of_le_length (by omega),JW,JW];congr 1;rw[JO,JO];split<;>split<;>omega
 have e2:d.drop (i*2+2)=(a.take (n*2)).drop (i*2)++a.drop ((i+1)*2+((a.take (n*2)).drop (i*2)).length):=by
  rw[f.out,Jl,List.drop_left' e0]
 have e3:∀A B C:List Value,A++E::F::(B++C)=(A++ [E,F]++B)++C:=by simp
 rw[e1,e2];simp only[Jl,KC,Kf];rw[e3];refine(Jr ?_).trans (by simp);simp only[Je,Jc,Jh,Ji,Jg];omega;rw[p.out];have h:∀Y Z,BelowF (λk=>k≠b) w ((w.drew.setRow b Y).setRow b Z):=λY Z=>((Kl _ w).drew.trans (Ym (by simp))).trans (Ym (by simp))
 exact⟨(h _ _).os,(h _ _).tape,(h _ _).output,(h _ _).size,λk _ hk=>(h _ _).block k λe=>hk (by rw[e])⟩
set_option maxRecDepth 100000 in
theorem ZhB (b n c i:Nat) (a:List Value) (w:World) (E Q:Nat) (ys:List Value) (q r:Value) (X:w.heap[b]? = Hs (.cells ⟨a⟩ 90 (0,0))) (xl:a.length=c*2) (hi:i<n) (xp:n<=c) (z:c<n+1) (hn:n<=1000000)
  (hv:w.heap[E]? = Hs (.cells ⟨ys⟩ 90 (0,0))) (xb:ys[0]? = Hs q) (xc:ys[1]? = Hs r) (h1:q.oneCell'=Ht) (h2:r.oneCell'=Ht) (xa:∀x∈a.take (n*2),x.oneCell'=Ht):
  Calls prog 81 #[.slice (Hs ⟨b,0,Hn⟩) n c,.int .i64 i,.slice (Hs ⟨E,0,Hn⟩) 1 Q] w λen w'=>∃G,en= .returned (.slice (Hs ⟨w.heap.size,0,Hn⟩) (n+1) G)/\n+1<=G/\G<=maxLen/\ ∃f:List Value,w'.heap[w.heap.size]? = Hs (.cells ⟨f⟩ 90 (0,0))/\f.length=G*2/\
   f.take ((n+1)*2)=(a.take (n*2)).take (i*2)++ [q,r]++(a.take (n*2)).drop (i*2)/\w.grownBy w' none:=by
 have xv:¬((i:Int)=(n:Int)):=by omega
 have mixed:prog.follows .mixedOrders=true:=by kernel_rfl
 have V:b<w.heap.size:=(JX.1 X).1;have Z:E<w.heap.size:=(JX.1 hv).1;have xs:IntKind.i64.wrap ((i:Int)+1)=(i:Int)+1:=by rw[IntKind.wrap_i64];omega
 have xt:IntKind.i64.wrap ((n:Int)+1)=(n:Int)+1:=by rw[IntKind.wrap_i64];omega
 have xu:IntKind.i64.wrap ((n:Int)+1-(i:Int))=(n:Int)+1-(i:Int):=by rw[IntKind.wrap_i64];omega
 have xq:((i:Int)+1).toNat=i+1:=by omega
 have xh:(0:Int)<=(i:Int)+1:=by omega
 have xi:(i:Int)<=(n:Int):=by omega
 have xj:¬(c=i):=by omega
 have xk:(c:Int)<(n:Int)+1:=by omega
 have xn:i<=n:=by omega
 have xm:i<=c:=by omega
 have N:(prog.info? 90).map (·.size)=Hs 2:=rfl;have L:(n:Int)+1-(i:Int)=((n+1-i:Nat):Int):=by omega
 have y:i+(n+1-i)=n+1:=by omega
 have I:(a.take (n*2)).length=n*2:=by rw[Jc];omega
 have u:((a.take (n*2)).drop (i*2)).length=(n-i)*2:=by rw[Jg,I];omega
 have o:((a.take (n*2)).take (i*2)).length=i*2:=by rw[Jc,I];omega
 have p:(Kt 2 i (.slice (Hs ⟨b,0,Hn⟩) i c)).run prog w.drew= .ok ((a.take (n*2)).take (i*2)).toArray w.drew:=
  run_firstCells_some w.drew 2 i ⟨b,0,Hn⟩ i c ((a.take (n*2)).take (i*2)) o (λj v d=>by
   rw[Z7,KL];rw[JA]at d;split at d
   ·rw[JA]at d;split at d
    ·show w.cell? _=_;rw[Yu X];exact d
    ·cases d
   ·cases d)
 have D:∀ty,(JU #[34,3] ty #[.slice (Hs ⟨b,0,Hn⟩) i c,.int .i64 ((n:Int)+1-(i:Int))]).run prog w=
   .ok (.slice (Hs ⟨w.heap.size,0,Hn⟩) (n+1) (grownCap w (n+1) c 90)) (w.drew.alloc (.cells (((a.take (n*2)).take (i*2)).toArray++Jn (Value.agg #[.string ⟨#[]⟩,.slice Hn 0 0]).cells (n+1-i)++Jn (Value.agg #[.string ⟨#[]⟩,.slice Hn 0 0]).cells (grownCap w (n+1) c 90-(n+1))) 90)):=λty=>by
  have h:=Lib.run_append_grow_zeros (P:=prog) w 34 3 ty 90 _ _ .i64 .i64 underlying34 underlying3 rfl rfl (Hs ⟨b,0,Hn⟩) i c ((a.take (n*2)).take (i*2)) p (n+1-i) (by omega) (by decide) (by omega) (by omega) (by show(n+1-i)*40<=_;omega) (by rw[y];exact growslice_fits z (by show(n+1)*40<=_;omega));rw[y]at h;rw[L];exact h
 obtain⟨G,F⟩:∃G,G=grownCap w (n+1) c 90:=⟨_,rfl⟩;have S:n+1<=G:=by rw[F];exact grownCap_ge w _ _ _
 have t:G<=maxLen:=by rw[F];exact grownCap_le_maxLen w (n+1) c _ (by rw[Zd];omega)
 rw[<-F]at D;obtain⟨ROW,e⟩:∃ROW:List Value,ROW=(a.take (n*2)).take (i*2)++(Jn (Value.agg #[.string ⟨#[]⟩,.slice Hn 0 0]).cells (n+1-i)).toList++(Jn (Value.agg #[.string ⟨#[]⟩,.slice Hn 0 0]).cells (G-(n+1))).toList:=⟨_,rfl⟩;have m:((a.take (n*2)).take (i*2)).toArray++Jn (Value.agg #[.string ⟨#[]⟩,.slice Hn 0 0]).cells (n+1-i)++Jn (Value.agg #[.string ⟨#[]⟩,.slice Hn 0 0]).cells (G-(n+1))=⟨ROW⟩:=by
  rw[e];apply Array.toList_inj.1;simp
 rw[m]at D;have xg:ROW.length=G*2:=by
  have z2:(Value.agg #[.string ⟨#[]⟩,.slice Hn 0 0]).cells.size=2:=rfl;rw[e];simp only[Je,o,Array.length_toList,size_zeroCells,z2];omega
 have hRt:ROW.take (i*2)=(a.take (n*2)).take (i*2):=by rw[e,Jl];exact Jr o
 have U:b≠w.heap.size:=by omega
 have xr:E≠w.heap.size:=by omega
 have hN0:(w.drew.alloc (.cells ⟨ROW⟩ 90)).heap[w.heap.size]? = Hs (.cells ⟨ROW⟩ 90 (0,0)):=heap_alloc_new w.drew _;have hO0:∀k,k<w.heap.size->(w.drew.alloc (.cells ⟨ROW⟩ 90)).heap[k]? = w.heap[k]? :=λk Y=>heap_alloc_old w.drew (.cells ⟨ROW⟩ 90) Y
 obtain⟨R1,l⟩:∃R1,R1=ROW.take (i*2)++ [q,r]++ROW.drop (i*2+2):=⟨_,rfl⟩;have xo:R1.length=G*2:=by
  rw[l];simp only[Je,Jc,Jg,Jh,Ji];omega
 have J:∀W,W=w.drew.alloc (.cells ⟨ROW⟩ 90)-> ∀ty s,(Ju #[34,34] ty #[.slice (Hs ⟨w.heap.size,i*2,Hn⟩) (n+1-i) s,.slice (Hs ⟨E,0,Hn⟩) 1 Q]).run prog W= .ok (goInt 1) (W.setRow w.heap.size ⟨R1⟩):=λW O ty s=>by
  subst O;have M:Ky 1 (n+1-i)=1:=by simp only[JO];split<;>omega
  have:=Vt (P:=prog) _ 34 34 ty 90 2 w.heap.size (i*2) (n+1-i) s ⟨E,0,Hn⟩ 1 Q ⟨ROW⟩ _ [q,r] underlying34 N hN0 (by rw[M];rfl)
   (λj v d=>by
    rw[Z7,Yu ((hO0 E Z).trans hv)]
    match j,d with
    |0,d=>simp at d;subst d;exact xb
    |1,d=>simp at d;subst d;exact xc) (by show i*2+2<=ROW.length;omega) (by simp[h1,h2])
  rw[M]at this;rw[l];exact this
 have K:∀W,W=((w.drew.alloc (.cells ⟨ROW⟩ 90)).setRow w.heap.size ⟨R1⟩).drew-> ∀ty s sc,(Ju #[34,34] ty #[.slice (Hs ⟨w.heap.size,(i+1)*2,Hn⟩) (n-i) s,.slice (Hs ⟨b,i*2,Hn⟩) (n-i) sc]).run prog W= .ok (goInt ((n-i:Nat):Int)) (W.setRow w.heap.size (R1.take ((i+1)*2)++(a.take (n*2)).drop (i*2)++R1.drop ((i+1)*2+((a.take (n*2)).drop (i*2)).length)).toArray):=λW O ty s sc=>by
  have T:W.heap[w.heap.size]? = Hs (.cells ⟨R1⟩ 90 (0,0)):=by rw[O];exact setRow_heap _ _ _ _ _ _ hN0
  have R:W.heap[b]? = Hs (.cells ⟨a⟩ 90 (0,0)):=by
   rw[O];exact(setRow_other _ w.heap.size b _ U).trans ((hO0 b V).trans X)
  have M:Ky (n-i) (n-i)=n-i:=KN _;have:=Vt (P:=prog) W 34 34 ty 90 2 w.heap.size ((i+1)*2) (n-i) s ⟨b,i*2,Hn⟩ (n-i) sc ⟨R1⟩ _ ((a.take (n*2)).drop (i*2)) underlying34 N T (by rw[M,u])
   (λj v d=>by
    rw[Z7,Yu R];rw[Jz]at d;rw[JA]at d;split at d
    ·exact d
    ·cases d) (by rw[u];show _<=R1.length;omega) (λv hv=>xa v (JT hv))
  rw[M]at this;exact this
 have xf:¬(G=i):=by omega
 have xe:¬(G=i+1):=by omega
 have xd:G<=9223372036854775807:=by rw[Zd]at t;exact t
 replace e:KeepP (ROW=_):=⟨e⟩
 replace l:KeepP (R1=_):=⟨l⟩
 replace hN0:=KeepP.mk hN0
 replace hO0:=KeepP.mk hO0
 replace hRt:=KeepP.mk hRt
 replace F:KeepP (G=_):=⟨F⟩
 clear m p L y
 go_enter func81,ntmps81
 go_wp2_with (at_builtin;refine Lib.wpList_append_run _ rfl _ _ _ _ rfl _ _ rfl rfl _ _ (D _) ?_)
 rw[J _ (by rfl)]
 go_wp2
 go_region_law_o (refine Gf rfl _ _ 34 34 rfl (.slice (Hs ⟨w.heap.size,(i+1)*2,Hn⟩) (n-i) (G-(i+1))) (.slice (Hs ⟨b,i*2,Hn⟩) (n-i) (c-i)) (by simp[Act.eval,Act.put]) (by simp[Act.eval,Act.put]) (K _ (by rfl) 3 (G-(i+1)) (c-i)) ?_)
 go_wp2
 go_ret
 refine⟨G,rfl,S,t,_,setRow_heap _ _ _ _ _ _ (setRow_heap _ _ _ _ _ _ hN0.out),?_,?_,?_⟩;simp only[Je,Jc,Jg];omega;have e1:R1.take ((i+1)*2)=(a.take (n*2)).take (i*2)++ [q,r]:=by
  rw[l.out,hRt.out];refine Jr ?_;simp only[Je,o,Jh,Ji];omega
 have e3:∀A B C:List Value,A++q::r::(B++C)=(A++ [q,r]++B)++C:=by simp
 rw[e1];simp only[Jl,KC,Kf];rw[e3];refine(Jr ?_).trans (by simp);simp only[Je,o,u,Jh,Ji];omega;have h:∀l1 l2,BelowF (λk=>k<w.heap.size) w (((w.alloc (.cells ⟨ROW⟩ 90)).drew.setRow w.heap.size l1).drew.setRow w.heap.size l2):=λl1 l2=>
  (((((Kl (λk=>k<w.heap.size) w).alloc (λ_ h=>h) _).drew).trans (Ym (KJ _))).drew).trans (Ym (KJ _))
 exact⟨(h _ _).os,(h _ _).tape,(h _ _).output,(h _ _).size,λk Y _=>(h _ _).block k Y⟩
end Go.Proofs.YtcmpkokndngplaaGreat
namespace Go.PL
open Go.RowKit
def Ztp (w w':World) (v v':Value):Prop:=(w.grownBy w' Hn/\ ∀k,v'.ownBlock=Hs k->w.heap.size<=k)\/(∃k,v.ownBlock=Hs k/\v'.ownBlock=Hs k/\w.grownBy w' (Hs k))
def ZlK {w:World} {base n sz:Nat} {e:TypeId} {v:Value} {xs:List Value} (h:w.ownsRow base e sz v n xs) {k:Nat} (b:v.ownBlock=Hs k):∃c a,v= .slice (Hs ⟨k,0,Hn⟩) n c/\w.heap[k]? = Hs (.cells ⟨a⟩ e (0,0))/\n<=c/\c<=maxLen/\a.length=c*sz/\a.take (n*sz)=xs:=by
 rcases h.2 with ⟨rfl,rfl⟩|⟨g,c,a,rfl,_,d,f,i,j,l⟩;cases b;cases b;exact⟨c,a.toList,rfl,d,f,i,j,l⟩
theorem Eff.rows {P:Program} {f:FuncId} {args:List PV} {t:MemL} {R:List (Nat×Row)} {d n' sz:Nat} {e:TypeId} {es':List PV} (C:WS P f) (T:t.Ok) (z:(⟨[],(d,.vec n' sz e)::R,[(d,es')]⟩:MemL).Ok) (Z:t.H= []) (hR:∀x∈R,x.2= .dead) (A:∀x∈t.R,∃y∈R,y.1=x.1)
  (ha:∀p∈args,∀i∈p.ids,t.has i) (hn:es'.length=n') (hc:∀p∈es',p.ids= []) (n:∀p∈es',p.cells.length=sz/\p.cells.all KP=Ht)
  (G:∀(B:Frm) (S:Stable) (M:Maps) (w:World) (vs:List Value),Sim B S M (Zsb t.hp) ZkX w->vs.length=args.length->(∀i,i<args.length->RepS S M t.hp.q (vs.getD i undef) (args.getD i .any))->
   Calls P f ⟨vs⟩ w λX w'=>∃v v' xs',X= .returned v'/\w'.ownsRow 0 e sz v' n' xs'/\Ztp w w' v v'/\(∀k,v.ownBlock=Hs k-> ¬B k/\(∀o,S k o=Hn)/\ ∃c,w.heap[k]? = Hs (.cells c e (0,0)))/\
    ∀i j,i<n'->j<sz->Rep S (xs'.getD (i*sz+j) undef) ((es'.getD i .any).cells.getD j .any)):
  Eff P f args t (.vsl d n' sz) ⟨[],(d,.vec n' sz e)::R,[(d,es')]⟩:=by
 refine⟨C,T,z,ha,λi D=> ?_,λi D=> ?_,λB S M w vs I E F=>(G B S M w vs I E F).mono λX w' ⟨v,v',xs',e1,hown,hgr,hv,m⟩=> ?_⟩;simp only[Jw,Ks]at D;subst D;exact⟨(d,.vec n' sz e),by simp,rfl⟩;cases i with
 |b i=>obtain⟨y,s,_⟩:=D;rw[Z]at s;cases s
 |r i=>
  obtain⟨x,m,rfl⟩:=D;obtain⟨y,s,e⟩:=A x m;exact⟨y,Km _ s,e⟩
 have K:∀k,B k->k<w.heap.size:=I.hB;obtain⟨row,q,l,L⟩:∃row,w.grownBy w' row/\(∀k,row=Hs k-> ¬B k/\(∀o,S k o=Hn)/\(∃vs e,w'.heap[k]? = Hs (.cells vs e (0,0)))/\ ∃c,w.heap[k]? = Hs (.cells c e (0,0)))/\(∀k,v'.ownBlock=Hs k-> ¬B k/\ ∀o,S k o=Hn):=by
  rcases hgr with ⟨q,a⟩|⟨k,h1,Y,q⟩;refine⟨Hn,q,λk h=>(by cases h),λk J=>⟨λh=> ?_,λo=> ?_⟩⟩;have:=a k J;have:=K k h;omega;cases h:S k o with
  |none=>rfl
  |some u=>have:=Uo (I.stable.s.c k o u h);have:=a k J;omega
  obtain⟨U,V,c,b3⟩:=hv k h1;obtain⟨c',W,_,h5,_⟩:=ZlK hown Y;refine⟨Hs k,q,λk' h=> ?_,λk' h=> ?_⟩;cases h;exact⟨U,V,⟨_,_,h5⟩,c,b3⟩;rw[Y]at h;cases h;exact⟨U,V⟩
 have Q:StabS S w':=I.stable.s.grown q λk h=>by
  obtain⟨_,a2,⟨vs,e',a3⟩,c,a4⟩:=l k h;exact⟨a2,vs,e',a3,c,e,a4⟩
 obtain⟨M',O,N⟩:=Zt9 R z hR (λk J=>Nat.lt_of_lt_of_le (K k J) q.size) Q (λb hb=>I.hz b hb) hown L hn hc n m;refine⟨v',S,M',e1,N,O,⟨SLe.refl S,λb _=>⟨λ_=>rfl,rfl⟩,BelowF.of_grown q K λk h=>(l k h).1⟩,λx m=>(by rw[Z]at m;cases m),λx m=> ?_⟩;obtain⟨y,s,ey⟩:=A x m;have hq:(⟨[],(d,.vec n' sz e)::R,[(d,es')]⟩:MemL).hp.q x.1=Hs .dead:=by
  rw[<-ey,z.q_at (x:=y) (Km _ s),hR y s]
 rw[hq];exact RowLe.dead
def Zri {α:Type} {d:α} {l:List α} {i k:Nat} {x:α} (e:i<=l.length):(l.take i++x::l.drop i).getD k d=if k<i then l.getD k d else if k=i then x else l.getD (k-1) d:=by
 have c:(l.take i).length=i:=by rw[Jc];omega
 by_cases a:k<i;rw[if_pos a,Zf (by omega),Ja,Ja,Ka a];rw[if_neg a,Zg (by omega),c];by_cases b:k=i;subst b;rw[if_pos rfl,Nat.sub_self];rfl;rw[if_neg b,show k-i=(k-1-i)+1 by omega,Ko,Ja,Jz,Ja];congr 2;omega
def Zn0 {α:Type} {d:α} {l:List α} {i k j:Nat} {c e:α} (h:i*2<=l.length) (m:j<2):(l.take (i*2)++ [c,e]++l.drop (i*2)).getD (k*2+j) d=if k<i then l.getD (k*2+j) d else if k=i then [c,e].getD j d else l.getD ((k-1)*2+j) d:=by
 have f:(l.take (i*2)).length=i*2:=by rw[Jc];omega
 rw[Jl];by_cases a:k<i;rw[if_pos a,Zf (by omega),Ja,Ja,Ka (by omega)];rw[if_neg a,Zg (by omega),f];by_cases b:k=i;subst b;rw[if_pos rfl,Zf (by simp;omega)];congr 1;omega;rw[if_neg b,Zg (by simp;omega),Ja,Jz,Ja];congr 2;simp only[Jh,Ji];omega
end Go.PL
namespace Go.Proofs.YtcmpkokndngplaaGreat
open Go.PL Go.RowKit
end Go.Proofs.YtcmpkokndngplaaGreat
namespace Go.PL
open Go.RowKit
end Go.PL
namespace Go.Proofs.YtcmpkokndngplaaGreat
open Go.PL Go.RowKit
open Go.PL
open Go.PL Go.RowKit
def rwN (x:Nat) (r:Rw):PV:= .agg [.str r.item,if r.l.length=0 then .sl .no []else .vsl x r.l.length 5]
def ZO (ns:List Nat) (rs:List Rw):List PV:=List.zipWith rwN ns rs
def SW (ns:List Nat) (rs:List Rw):List (Nat×Row):=(ns.zip rs).filterMap λx=>if x.2.l.length=0 then Hn else Hs (x.1,.vec x.2.l.length 5 64)
def D0 (ns:List Nat) (rs:List Rw):List (Nat×List PV):=(ns.zip rs).filterMap λx=>if x.2.l.length=0 then Hn else Hs (x.1,x.2.l.map ent)
def TY (ns:List Nat) (rs:List Rw):List Nat:=(ns.zip rs).filterMap λx=>if x.2.l.length=0 then Hn else Hs x.1
def ZeM {x:Nat} {r:Rw} (h:r.l.length=0):rwN x r=row r:=by
 unfold rwN row;rw[if_pos h,List.eq_nil_of_length_eq_zero h];rfl
def ZrY {x:Nat} {r:Rw} {i:Ref} (h:i∈(rwN x r).ids):r.l.length≠0/\i= .r x:=by
 unfold rwN at h;by_cases a:r.l.length=0;rw[if_pos a]at h;simp[Jw,Jy]at h;rw[if_neg a]at h;simp[Jw,Jy]at h;exact⟨a,h⟩
def Xf (ns:List Nat) (rs:List Rw):(SW ns rs).map (·.1)=TY ns rs:=by
 unfold SW TY;rw[Ku];congr 1;funext x;split<;>rfl
def VB (ns:List Nat) (rs:List Rw):(D0 ns rs).map (·.1)=TY ns rs:=by
 unfold D0 TY;rw[Ku];congr 1;funext x;split<;>rfl
def WW {ns:List Nat} {rs:List Rw} {x:Nat} (h:x∈TY ns rs):x∈ns:=by
 obtain⟨y,a,e⟩:=Js.1 h;split at e;cases e;cases e;exact(JK a).1
theorem ZeA:∀(ns:List Nat) (rs:List Rw),(TY ns rs).Sublist ns
 | [],rs=>by simp[TY]
 |n::ns,[]=>by simp[TY]
 |n::ns,r::rs=>by
  unfold TY;rw[JB,Jv];split;exact(ZeA ns rs).cons _;rename_i e;split at e;cases e;cases e;exact(ZeA ns rs).cons_cons _
def VC {ns:List Nat} (rs:List Rw) (h:ns.Nodup):(TY ns rs).Nodup:=J9.sublist (ZeA ns rs) h
def Ztm {ns:List Nat} {rs:List Rw} (b:ns.length=rs.length) {k:Nat} (a:k<rs.length):(ns.getD k 0,rs.getD k Jd)∈ns.zip rs:=by
 have:(ns.zip rs)[k]'(by rw[List.length_zip];omega)=(ns.getD k 0,rs.getD k Jd):=by
  rw[List.getElem_zip,getD_lt (by omega),getD_lt a]
 rw[<-this];exact Kc _
def Zq7 {ns:List Nat} {rs:List Rw} (b:ns.length=rs.length) {k:Nat} (a:k<rs.length) (h:(rs.getD k Jd).l.length≠0):(ns.getD k 0,Row.vec (rs.getD k Jd).l.length 5 64)∈SW ns rs:=
 Js.2 ⟨_,Ztm b a,by rw[if_neg h]⟩
def F9 {ns:List Nat} {rs:List Rw} (b:ns.length=rs.length) {k:Nat} (a:k<rs.length) (h:(rs.getD k Jd).l.length≠0):(ns.getD k 0,(rs.getD k Jd).l.map ent)∈D0 ns rs:=
 Js.2 ⟨_,Ztm b a,by rw[if_neg h]⟩
def Y9 {ns:List Nat} {rs:List Rw} {x:Nat×Row} (h:x∈SW ns rs):x.1∈ns/\ ∃r∈rs,x.2= .vec r.l.length 5 64:=by
 obtain⟨y,a,e⟩:=Js.1 h;split at e;cases e;cases e;exact⟨(JK a).1,y.2,(JK a).2,rfl⟩
def Yg {ns:List Nat} {rs:List Rw} {x:Nat×List PV} (h:x∈D0 ns rs):x.1∈ns/\ ∃r∈rs,x.2=r.l.map ent:=by
 obtain⟨y,a,e⟩:=Js.1 h;split at e;cases e;cases e;exact⟨(JK a).1,y.2,(JK a).2,rfl⟩
def Zgk {ns:List Nat} {rs:List Rw} {p:PV} (h:p∈ZO ns rs):∃x r,(x,r)∈ns.zip rs/\p=rwN x r:=by
 unfold ZO at h;rw[<-List.map_uncurry_zip_eq_zipWith]at h;obtain⟨y,a,rfl⟩:=JE.1 h;exact⟨y.1,y.2,a,rfl⟩
def Wt {ns:List Nat} {rs:List Rw} {p:PV} (h:p∈ZO ns rs) {i:Ref} (b:i∈p.ids):∃x∈TY ns rs,i= .r x:=by
 obtain⟨x,r,c,rfl⟩:=Zgk h;obtain⟨a,rfl⟩:=ZrY b;exact⟨x,Js.2 ⟨_,c,by rw[if_neg a]⟩,rfl⟩
def UW {ns:List Nat} {rs:List Rw} (h:ns.length=rs.length):(ZO ns rs).length=rs.length:=by unfold ZO;rw[List.length_zipWith,h,KN]
def Zel {ns:List Nat} {rs:List Rw} {x:Nat} {r:Rw} (h:ns.length=rs.length):SW (ns++ [x]) (rs++ [r])=SW ns rs++(if r.l.length=0 then []else [(x,.vec r.l.length 5 64)])/\D0 (ns++ [x]) (rs++ [r])=D0 ns rs++(if r.l.length=0 then []else [(x,r.l.map ent)])/\ZO (ns++ [x]) (rs++ [r])=ZO ns rs++ [rwN x r]:=by
 unfold SW D0 ZO;rw[List.zipWith_append h,List.zip_append h,Ki,Ki];refine⟨?_,?_,rfl⟩;congr 1;by_cases a:r.l.length=0;simp only[JB,JM,Jv,JN,if_pos a];simp only[JB,JM,Jv,JN,if_neg a];congr 1;by_cases a:r.l.length=0;simp only[JB,JM,Jv,JN,if_pos a];simp only[JB,JM,Jv,JN,if_neg a]
def nsU (n:Nat):List Nat:=(JS n).map (10000 + ·)
def ZeE (n:Nat):(nsU n).length=n:=by simp[nsU]
def Zag (n:Nat):nsU (n+1)=nsU n++ [10000+n]:=by unfold nsU;rw[List.range_succ,Kg];rfl
def Xi {n x:Nat} (h:x∈nsU n):10000<=x/\x<10000+n:=by
 obtain⟨i,a,rfl⟩:=JE.1 h;have:=JQ.1 a;exact⟨by omega,by omega⟩
def Wn (n:Nat):(nsU n).Nodup:=J9.map _ (λa b h=>by omega) List.nodup_range
def Up (R:Nat) (ns:List Nat) (d:Dc):List (Nat×Row):=(R,.vec d.rows.length 2 90)::(3000,.vec d.head.length 5 64)::SW ns d.rows
def Uq (R:Nat) (ns:List Nat) (d:Dc):List (Nat×List PV):=(R,ZO ns d.rows)::(3000,d.head.map ent)::D0 ns d.rows
end Go.Proofs.YtcmpkokndngplaaGreat
namespace Go.PL
open Go.RowKit Go.Lib
section
variable {P:Program}
def F3 {ops:Array Oper} {o:Oper} {a:Act} {w:World} {K:Act->World->Prop} {Q:Exit->Act->World->Prop} {E:Prop}
  (h:o.guard=Hn) (d x:Operand) (c e:TypeId) (b:o.op=Op.call { callee:=Callee.builtin Builtin.append,args:= #[d,x],argTypes:= #[c,e] })
  (v u:Value) (hd:a.eval d=v) (k:a.eval x=u) {v':Value} {w':World} (i:(JU #[c,e] o.type #[v,u]).run P w= .ok v' w') (f:K (a.put o.dst v') w'):
  if JJ o (yielded ops a.tmps)=Ht then Oper.wp P o a w K Q else E:=by
 have j:JJ o (yielded ops a.tmps)=true:=by simp[JJ,h]
 rw[if_pos j];unfold Oper.wp;simp[execOp,b,resolve,invoke,builtin,hd,k,i,JV];exact f
end
end Go.PL
namespace Go.Proofs.YtcmpkokndngplaaGreat
open Go.PL Go.RowKit Go.Lib
set_option maxRecDepth 100000 in
def ZkI (b k c i:Nat) (d:List Value) (w:World) (B:w.heap[b]? = Hs (.cells ⟨d⟩ 90 (0,0))) (V:d.length=c*2) (hi:i<=k) (X:k+1<=c) (F:c<=maxLen) (K:∀x∈d.take ((k+1)*2),x.oneCell'=Ht):
  Calls prog 83 #[.slice (Hs ⟨b,0,Hn⟩) (k+1) c,.int .i64 i,.int .i64 ((i+1:Nat):Int)] w λU w'=>U= .returned (.slice (Hs ⟨b,0,Hn⟩) k c)/\ ∃o:List Value,w'.heap[b]? = Hs (.cells ⟨o⟩ 90 (0,0))/\o.length=c*2/\
   o.take (k*2)=(d.take ((k+1)*2)).take (i*2)++(d.take ((k+1)*2)).drop ((i+1)*2)/\w.grownBy w' (Hs b):=by
 have mixed:prog.follows .mixedOrders=true:=by kernel_rfl
 rw[Zd]at F;have e1:¬((i:Int)=((i+1:Nat):Int)):=by omega
 have Y:((i+1:Nat):Int)<=((k+1:Nat):Int):=by omega
 have Z:(i:Int)<=((i+1:Nat):Int):=by omega
 have b3:(0:Int)<=((i+1:Nat):Int):=by omega
 have b4:i<=c:=by omega
 have b7:(0:Int)<=(i:Int)+1:=by omega
 have b8:(0:Int)<=(k:Int)+1:=by omega
 have b5:i+1<=k+1:=by omega
 have b6:i+1<=c:=by omega
 have J:i+(k-i)=k:=by omega
 obtain⟨news,f⟩:∃news,news=(d.take ((k+1)*2)).drop ((i+1)*2):=⟨_,rfl⟩;have r:news.length=(k-i)*2:=by rw[f,Jg,Jc];omega
 obtain⟨a,m⟩:∃a,a=d.take (i*2)++news++d.drop (i*2+news.length):=⟨_,rfl⟩;have I:a.length=c*2:=by
  rw[m,r];simp only[Je,Jc,Jg,r];omega
 obtain⟨W1,n⟩:∃W1,W1=w.drew.setRow b a.toArray:=⟨_,rfl⟩;have z:∀ty A,(A=(⟨b,(i+1)*2,Hn⟩:Addr)\/c=i+1)->(JU #[34,34] ty #[.slice (Hs ⟨b,0,Hn⟩) i c,.slice (Hs A) (k-i) (c-(i+1))]).run prog w.drew= .ok (.slice (Hs ⟨b,0,Hn⟩) k c) W1:=λty A M=>by
  have L:=run_append_room (P:=prog) w.drew 34 ty 90 _ underlying34 rfl b i c ⟨d⟩ B A (k-i) (c-(i+1)) news r (λj u C=>by
   have W:=(J2.1 C).1;rcases M with rfl|M;rw[Z7];show w.cell? _=_;rw[Yu B];rw[f,Jz,JA]at C;split at C;exact C;cases C;omega) (λu O=>K u (by rw[f]at O;exact JT O)) (by omega) (by show i*2+news.length<=d.length;omega)
  rw[J]at L;rw[L,n,m];rfl
 have q:W1.heap[b]? = Hs (.cells ⟨a⟩ 90 (0,0)):=by rw[n];exact setRow_heap w.drew b _ _ _ _ B
 obtain⟨W2,p⟩:∃W2,W2=W1.setRow b (a.take (k*2)++([Value.string ⟨#[]⟩,Value.slice Hn 0 0]:List Value)++a.drop (k*2+2)).toArray:=⟨_,rfl⟩;have Q:∀w:World,(zeroValue 90).run prog w= .ok (.agg ⟨[.string ⟨#[]⟩,.slice Hn 0 0]⟩) w:=λw=>by
  kernel_rfl
 have E:∀ty y,(JY #[34] ty #[.slice (Hs ⟨b,k*2,Hn⟩) 1 y]).run prog W1= .ok (.tuple #[]) W2:=λty y=>by
  have s:=run_storeCells_at prog b (k*2) 90 [.string ⟨#[]⟩,.slice Hn 0 0] 0 ⟨a⟩ W1 q (by show k*2+0+2<=a.length;omega) (by simp[Value.oneCell']);simp only[Kv]at s;have v:(Jn (Value.agg ⟨[.string ⟨#[]⟩,.slice Hn 0 0]⟩).cells 1).toList= [.string ⟨#[]⟩,.slice Hn 0 0]:=by kernel_rfl
  simp[JY,run_underlying underlying34,Q,v,s,JV,p]
 by_cases D:c=i+1
 ·subst D;obtain rfl:k=i:=by omega
  have b9:(k:Int)<=(k:Int)+1:=by omega
  clear z E n p q m I f r;obtain⟨W3,t⟩:∃W3,W3=w.drew.setRow b (d.take (k*2)++([Value.string ⟨#[]⟩,Value.slice Hn 0 0]:List Value)++d.drop (k*2+2)).toArray:=⟨_,rfl⟩;have N:∀ty y,(JY #[34] ty #[.slice (Hs ⟨b,k*2,Hn⟩) 1 y]).run prog w.drew= .ok (.tuple #[]) W3:=λty y=>by
   have s:=run_storeCells_at prog b (k*2) 90 [.string ⟨#[]⟩,.slice Hn 0 0] 0 ⟨d⟩ w.drew B (by show k*2+0+2<=d.length;omega) (by simp[Value.oneCell']);simp only[Kv]at s;have v:(Jn (Value.agg ⟨[.string ⟨#[]⟩,.slice Hn 0 0]⟩).cells 1).toList= [.string ⟨#[]⟩,.slice Hn 0 0]:=by kernel_rfl
   simp[JY,run_underlying underlying34,Q,v,s,JV,t]
  replace t:KeepP (W3=_):=⟨t⟩
  go_enter func83,ntmps83
  go_wp2_with fail
  go_region_law_o fail
  go_wp2_with fail
  go_ret
  rw[t.out];refine⟨rfl,_,setRow_heap w.drew b _ _ _ _ B,?_,?_,?_⟩;simp only[Je,Jc,Jg,Jh,Ji];omega;rw[Jl,Jr (by rw[Jc];omega),JW,show min (k*2) ((k+1)*2)=k*2 by omega,List.drop_of_length_le (by rw[Jc];omega),Jp];have h:∀l,BelowF (λk=>k≠b) w (w.drew.setRow b l):=λl=>(Kl _ w).drew.trans (Ym (by simp))
  exact⟨(h _).os,(h _).tape,(h _).output,(h _).size,λk _ G=>(h _).block k λe=>G (by rw[e])⟩
 go_enter func83,ntmps83
 replace m:KeepP (a=_):=⟨m⟩
 replace n:KeepP (W1=_):=⟨n⟩
 replace p:KeepP (W2=_):=⟨p⟩
 replace q:KeepP (W1.heap[b]? = _):=⟨q⟩
 replace f:KeepP (news=_):=⟨f⟩
 go_wp2_with fail
 go_region_law_o (refine F3 rfl _ _ 34 34 rfl _ _ (by simp[Act.eval,Act.put]) (by simp[Act.eval,Act.put]) (z _ _ (.inl rfl)) ?_)
 go_wp2_with fail
 go_ret
 rw[p.out];have T:a.take (k*2)=d.take (i*2)++news:=by
  rw[m.out];refine Jr ?_;rw[Je,Jc,r];omega
 refine⟨rfl,_,setRow_heap W1 b _ _ _ _ q.out,?_,?_,?_⟩;simp only[Je,Jc,Jg,Jh,Ji];omega;rw[Jl,Jr (by rw[Jc];omega),T,f.out,JW,show min (i*2) ((k+1)*2)=i*2 by omega];rw[n.out];have h:∀R S,BelowF (λk=>k≠b) w ((w.drew.setRow b R).setRow b S):=λR S=>((Kl _ w).drew.trans (Ym (by simp))).trans (Ym (by simp))
 exact⟨(h _ _).os,(h _ _).tape,(h _ _).output,(h _ _).size,λk _ G=>(h _ _).block k λe=>G (by rw[e])⟩
end Go.Proofs.YtcmpkokndngplaaGreat
