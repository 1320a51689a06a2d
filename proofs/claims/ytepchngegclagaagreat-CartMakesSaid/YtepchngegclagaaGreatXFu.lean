/- Lemmas of the proof. -/
import Derived.Test.YtepchngegclagaaGreatPlH
import Derived.Test.YtepchngegclagaaGreatXAa
import Derived.Test.YtepchngegclagaaGreatXAi
import Derived.Test.YtepchngegclagaaGreatXAo
import Derived.Test.YtepchngegclagaaGreatXBr
import Derived.Test.YtepchngegclagaaGreatXDo
import Derived.Test.YtepchngegclagaaGreatXEp
import Derived.Test.YtepchngegclagaaGreatXFq
import Derived.Test.YtepchngegclagaaGreatXFs
open Go.Proofs.Tryz
open Go Go.PL
open Nat renaming zero_le→Ja
open PV renaming ids→Jb
namespace Go.Proofs.YtepchngegclagaaGreat
set_option maxHeartbeats 64000000
set_option maxRecDepth 20000
set_option linter.unusedVariables false
set_option linter.unusedSimpArgs false
open Go.PL Go.PL.Srt
theorem Zkp {g:List Eg} {m:List Opn} {me:Int} {own:Tg} {d:De} (h:DI me d=true):YJ g m me own d=(default,2):=by
 unfold YJ;rw[if_pos h]
theorem ZhV (g:List Eg) (m:List Opn) (me:Int) (own:Tg) (d:De) (hm:OkM g) (hr:RightM g) (hk:PoolOk m) (ho:∀o∈m,OkOp o) (hnd:(m.map Opn.id).Nodup):Pp 13 [egs g,Zr m,.int .i64 me,tg own,ded d] (opc (YJ g m me own d)):=by
 cases hb:DI me d;have hb0:=hb;simp only[DI,Bool.or_eq_false_iff,decide_eq_false_iff_not]at hb;have hk':d.kind=1\/d.kind=2\/d.kind=3\/d.kind=4\/d.kind=5\/d.kind=6\/d.kind=7:=by omega
 rcases hk' with h|h|h|h|h|h|h;exact Zoy g m me own d hm hr hk ho hnd (by omega) (by omega) h;exact Zoz g m me own d hm hr hk ho hnd (by omega) (by omega) h;exact ZoA g m me own d hm hr hk ho hnd (by omega) (by omega) h;exact ZoB g m me own d hm hr hk ho hnd (by omega) (by omega) h;exact ZoC g m me own d hm hr hk ho hnd (by omega) (by omega) h;exact ZoD g m me own d hm hr hk ho hnd (by omega) (by omega) h;exact ZoE g m me own d hm hr hk ho hnd (by omega) (by omega) h;rw[Zkp hb];exact Zjn g m me own d hb
open Go.PL Go.PL.Srt
theorem ZkT {m:List Opn} {o:Opn} (h:(m.map Opn.id).Nodup):((WQ m o).1.map Opn.id).Nodup:=by
 unfold WQ;split;exact h;split;exact h;split;exact h;rename_i hn;split;exact h;split;exact h;rw[List.map_append,List.nodup_append];refine⟨h,by simp,λa ha b hb e=> ?_⟩;simp only[List.map_cons,List.map_nil,List.mem_singleton]at hb;obtain⟨x,hx,rfl⟩:=List.mem_map.1 ha;apply hn;rw[TK,List.find?_isSome];exact⟨x,hx,by simpa using e.trans hb⟩
theorem ZfK (l:List Opn):((V8 l).map Opn.id).Nodup:=by
 unfold V8
 suffices g:∀(l acc:List Opn),(acc.map Opn.id).Nodup->((l.foldl (λm o=>(WQ m o).1) acc).map Opn.id).Nodup from g l [] (by simp)
 intro l;induction l with
 |nil=>exact λacc h=>h
 |cons o l ih=>exact λacc h=>ih _ (ZkT h)
theorem Zm4 {g:List Eg} {m:List Opn} {me:Int} {own:Tg} {d:De} (hr:RightM g) (hk:PoolOk m) (h:(YJ g m me own d).2=0):(WQ m (YJ g m me own d).1).2=0:=by
 obtain⟨r1,r2,r3,r4⟩:=ZbT hr hk h;obtain⟨⟨a1,a2⟩,_,_,_,_,a7,_⟩:=Do h;generalize (YJ g m me own d).1=o at *;rw[Zc6 hk,if_neg (by rw[r1];simp)];have hv:Za0 (Y2 m) o.id=false:=by
  rw[r3];unfold Za0;simp only;rw[Z0 m (by omega)];simp;intro _;omega
 rw[if_neg (by rw[hv];simp),if_neg (by rw[r3];simp),if_neg (by omega)]
theorem Zm3 {g:List Eg} {m:List Opn} {me:Int} {own:Tg} {d:De}:(YJ g m me own d).1.drops.length<=60:=by
 unfold YJ;repeat' split
 all_goals first|exact Ja _|(simp only;omega)
theorem ZaV (l:List Eg) (ops:List Opn) (me:Int) (own:Tg) (d:De) (hl:l.length<=maxLen) (hx:∀e∈l,LenLn e.ln) (hol:ops.length<=maxLen):Pp 3 [egs l,Zr ops,.int .i64 me,tg own,ded d] (.bool true):=by
 have hH:=ZdG l 50 hl hx;have hJ:=ZaW ops 80 hol;have hD:=FD d;cases hh:F6 l 50;rw[hh]at hH;cases hj:U3 ops 80;rw[hj]at hJ;cases hd:ZfR d
 ·rw[hd]at hD;obtain⟨o1,o2⟩:=okL hh;obtain⟨p1,p2⟩:=Zs2 (most:=80) hj;have hG:=ZhN l (by omega) o2;have hm:OkM (VV l):=Zf7 _ Dt o2;have hr:RightM (VV l):=Zb4 _ GL;generalize VV l=g at *;have hF:=ZhM ops (by omega) p2;have hk:=Sc ops;have hnd:=ZfK ops;have hfo:∀o∈V8 ops,OkOp o:=λo h=>p2 o (Zd8 h)
  generalize V8 ops=m at *;have hM:=Fb g m me own d hm hr hk hfo;have hR:=ZhV g m me own d hm hr hk hfo hnd;have hL:=Zjf m hk;have hN2:=Zjh g me own d;have hN1:=Eff.lendP (sz:=15) (e:=48) [.nilp] (Zjg (.rptr ((six m).map (.sl .no))) me own d (λ_=>trivial)) (ZcF _) (YD m) (by simp[Jb]) (λp hp=>by
   simp only[List.mem_cons,List.not_mem_nil,or_false]at hp;rcases hp with rfl|rfl|rfl;rfl;simp[tg,Jb,PV.idsL];show PV.idsL (Yq d)= [];exact Vs d)
  have hS:=WH g own hm;have hO:=SE (a:=own) hm;have hP:=@Zm4 g m me own d hr hk;have hQ:=@ZbT g m me own d hr hk;have hE0:=SJ default default (by rw[Zc];exact Ja _) (by rw[Zc];exact Ja _);rw[decide_eq_true rfl]at hE0;have hlen:=@Zm3 g m me own d;have hU:(YJ g m me own d).2=0->(Yk (Zd g) own).2=0:=λh=>(Do h).2.2.1
  generalize YJ g m me own d=y at *;obtain⟨o,c⟩:=y;simp only at hP hQ hlen hU;have hE:=SJ o o (by rw[Zc];omega) (by rw[Zc];omega);rw[decide_eq_true rfl]at hE;refine ZM func3 rfl ntmps3 results3 ?_;simp only[go_sem,egs,Zr,tg,ded,Yq];refine vc1 Ue ?_;simp only[go_sem];refine vc3 hH ?_;simp only[go_sem];refine vc7 hJ ?_;simp only[go_sem];refine Zl hD ?_ ?_ ?_;iterate 2 simp only[go_sem,ded,Yq]
  simp only[go_sem];refine vc3 hG ?_;simp only[go_sem,grv];refine ZnI hF (by simp[Zr,Jb]) rfl (by rw[Zq];exact(Fc6 rfl rfl rfl rfl rfl rfl)) (by simp only[go_sem,Zr]) ?_;rw[U5];simp only[go_sem,ZqF,ZX,Zq];refine YP hM rfl rfl (by rw[Zq];exact(Fc6 ⟨rfl,rfl⟩ ⟨rfl,rfl⟩ ⟨rfl,rfl⟩ ⟨rfl,rfl⟩ ⟨rfl,rfl⟩ ⟨rfl,rfl⟩)) (by simp only[go_sem,tr,tg,ded,Yq]) ?_;simp only[go_sem,opc,opv];refine Zl hR ?_ ?_ ?_;iterate 2 simp only[go_sem,egs,Zr,tg,ded,Yq]
  simp only[go_sem,opc,opv];refine vc6 hE ?_;simp only[go_sem];refine YP hL rfl rfl (by rw[Zq];exact(Fc6 ⟨rfl,rfl⟩ ⟨rfl,rfl⟩ ⟨rfl,rfl⟩ ⟨rfl,rfl⟩ ⟨rfl,rfl⟩ ⟨rfl,rfl⟩)) (by simp only[go_sem]) ?_;simp only[go_sem,Zr];refine YP hN1 rfl rfl (by rw[Zq];exact(Fc6 ⟨rfl,rfl⟩ ⟨rfl,rfl⟩ ⟨rfl,rfl⟩ ⟨rfl,rfl⟩ ⟨rfl,rfl⟩ ⟨rfl,rfl⟩)) (by simp only[go_sem,tr,tg,ded,Yq,List.cons_append]) ?_;simp only[go_sem,opc,Za];refine Zl hN2 ?_ ?_ ?_;iterate 2 simp only[go_sem,tr,tg,ded,Yq]
  simp only[go_sem,opc,Za];refine Zl hE0 ?_ ?_ ?_;iterate 2 simp only[go_sem,Za]
  simp only[go_sem,Za];refine Zl hE0 ?_ ?_ ?_;iterate 2 simp only[go_sem,Za]
  simp only[go_sem];refine vc5 hS ?_;by_cases hc:c=0;subst hc;obtain⟨q1,q2,q3,q4⟩:=hQ rfl;have hOF:=G2 (Yk (Zd g) own).1 o (hO (hU rfl)) (by rw[Zc];omega);rw[q2]at hOF;have hPu:=Fy m o hk hfo ⟨by omega⟩;rw[hP rfl]at hPu;generalize (WQ m o).1=m' at hPu;generalize Yk (Zd g) own=sy at *;obtain⟨S,e⟩:=sy;simp only[go_sem,ZC,Zh];refine vc6 hOF ?_;simp only[go_sem];refine Su hPu rfl rfl rfl (by rw[Zq];exact(Fc6 rfl rfl rfl rfl rfl rfl)) (by simp only[go_sem,opv]) ?_;rw[U5];simp only[go_sem];have hne:(c !=0)=true:=by simpa using hc
  generalize Yk (Zd g) own=sy at *;obtain⟨S,e⟩:=sy;simp only[go_sem,ZC,Zh,hne]
 ·rw[hd]at hD;refine ZM func3 rfl ntmps3 results3 ?_;simp only[go_sem,egs,Zr,tg,ded,Yq];refine vc1 Ue ?_;simp only[go_sem];refine vc3 hH ?_;simp only[go_sem];refine vc7 hJ ?_;simp only[go_sem];refine Zl hD ?_ ?_ ?_;iterate 2 simp only[go_sem,ded,Yq]
  simp only[go_sem]
 rw[hj]at hJ;refine ZM func3 rfl ntmps3 results3 ?_;simp only[go_sem,egs,Zr,tg,ded,Yq];refine vc1 Ue ?_;simp only[go_sem];refine vc3 hH ?_;simp only[go_sem];refine vc7 hJ ?_;simp only[go_sem];rw[hh]at hH;refine ZM func3 rfl ntmps3 results3 ?_;simp only[go_sem,egs,Zr,tg,ded,Yq];refine vc1 Ue ?_;simp only[go_sem];refine vc3 hH ?_;simp only[go_sem]
end Go.Proofs.YtepchngegclagaaGreat
