/- Contracts of functions and laws of this seat, each for every input that it names: lemmas of the proof. -/
import Derived.Test.YthingdchjkhfbaaGreatXEn
import Derived.Test.YthingdchjkhfbaaGreatXAn
namespace Go.Proofs.YthingdchjkhfbaaGreat
set_option maxHeartbeats 64000000
set_option maxRecDepth 20000
set_option linter.unusedVariables false
set_option linter.unusedSimpArgs false
open Go.PL Go.PL.Srt
def one0:List Str:= [[]]
theorem ZqX:one0.length=1:=rfl
theorem StateSure_pure (l:List Eg) (ops:List Opn) (cart:Str) (a b:Tg) (hl:l.length≤maxLen) (hx:∀e∈l,LenLn e.ln) (hol:ops.length≤maxLen):PL.Pure Tryz.prog 7 [egs l,Zad ops,.str cart,tg a,tg b] (.bool true):=by
 have hH:=Zm3 l 50 hl hx;have hJ:=Zka ops 40 hol;have hA:=ZoT ops hol;cases hh:Zjr l 50
 ·rw[hh]at hH;cases hj:ZeI ops 40
  ·rw[hj]at hJ;cases ha:apartB ops
   ·rw[ha]at hA;refine pov Tryz.func7 (by decide) rfl Tryz.ntmps7 Tryz.results7 (by simp) rfl ?_;simp only[go_sem,egs,Zad,tg];refine Za (ZbU) ?_ ?_ ?_;iterate 2 simp only[go_sem]
    simp only[go_sem];refine Za (hH) ?_ ?_ ?_;iterate 2 simp only[go_sem,egs]
    simp only[go_sem];refine Za (hJ) ?_ ?_ ?_;iterate 2 simp only[go_sem,Zad]
    simp only[go_sem];refine Za (hA) ?_ ?_ ?_;iterate 2 simp only[go_sem,Zad]
    simp only[go_sem]
   ·rw[ha]at hA;have hU:(ops.map Opn.id).Nodup:=of_decide_eq_true ha;obtain⟨o1,o2⟩:=okL hh;obtain⟨p1,p2⟩:=ZBQ (most:=40) hj;have hG:=ZrA l (by omega) o2;have hm:OkM (Zdm l):=ZpG _ Zmt o2;have hr:RightM (Zdm l):=Zls _ Zog;generalize Zdm l=m at *;have hV:=ZiV m ops cart a hm hr p2 hU;have hW:=ZiV m ops cart b hm hr p2 hU;have fd:ZsW (default:Dc):=⟨Nat.zero_le _,Nat.zero_le _,(fun e h=>by cases h),(fun e h=>by cases h)⟩
    by_cases ca:(ZdZ m ops cart a).2=0
    ·by_cases cb:(ZdZ m ops cart b).2=0
     ·obtain⟨hu,ea⟩:=ZoO ca;obtain⟨hv,eb⟩:=ZoO cb;have hrd:=Zh2 hm hr hu (ops:=ops) (cart:=cart) (by omega);have okA:=Zgn hrd;have hrb:=Zh2 hm hr hv (ops:=ops) (cart:=cart) (by omega);have okB:=Zgn hrb;obtain⟨H,E,hx1,hx2⟩:=ZuS hm hr hu hv (ops:=ops) (cart:=cart) (by omega);have hTo:=ZxS m a b _ hm hr okA;have okX:OkDc (toM m a b ⟨Za6 (Zaz (Zf m) a).1 (ZaI m (Z0 (ZaV m ops) cart) a) 0 [],(Za7 (ZaV m ops) cart).map fun i=>⟨i,Za6 (Zaz (Zf m) a).1 (ZaI m (Z0 (ZaV m ops) cart) a) 1 i⟩⟩).1:=by
       unfold toM;split
       ·exact(show OkDc default from⟨by decide,by decide,(fun e he=>by cases he),(fun r hr=>by cases hr)⟩)
       ·split
        ·exact(show OkDc default from⟨by decide,by decide,(fun e he=>by cases he),(fun r hr=>by cases hr)⟩)
        ·exact ZzU _ okA
      rw[hx1]at hTo okX;have hS:=Zbo m b hm;have okF:=ZzT hm hv;have hSu:=fun r=>Zo0 m a b r hm hr
      rw[Zbe.2 ⟨hu,hv⟩]at hSu;have hIt:=ZoY m ops cart hm (by omega) p2 hU;have hname:∀i∈Za7 (ZaV m ops) cart,i≠ []:=fun i hi=>Zyb (ZnJ hi)
      have hil:(Za7 (ZaV m ops) cart).length≤maxLen:=by
       have:=Zjt (ZaV m ops) cart;have:=ZdH m ops;rw[Zd];omega
      have hb0:(Zaz (Zf m) b).2=0:=hv;have hrF:=(ZP.1 (Zep hr hv)).2.2;rw[ea]at hV;rw[eb]at hW;generalize Za7 (ZaV m ops) cart=I at *;have fX:ZsW (⟨H,I.map fun i=>⟨i,E i⟩⟩:Dc):=okX.fine;have fB:=okB.fine;have findX:∀it g,g∈(Zaz (Zf m) b).1→ZpZ m a b g.at'=true→(g.at'.sc=0∧it= []∨g.at'.sc=1∧it∈I)→ ∃e,Zl8 ⟨H,I.map fun i=>⟨i,E i⟩⟩ it g.at'=(e,0)∧Zl8 ⟨Za6 (Zaz (Zf m) b).1 (ZaI m (Z0 (ZaV m ops) cart) b) 0 [],I.map fun i=>⟨i,Za6 (Zaz (Zf m) b).1 (ZaI m (Z0 (ZaV m ops) cart) b) 1 i⟩⟩ it g.at'=(e,0)∧e.l.length≤1000000:=fun it g hg hs hc=>by
       have hlb:=Zep hr hv;refine⟨Zdx g (Zo (ZaI m (Z0 (ZaV m ops) cart) b) ⟨it,g.at'⟩),?_,?_,?_⟩
       ·rcases hc with ⟨h0,rfl⟩|⟨h1,h2⟩
        ·exact Znx ((hx2 g hg hs).1 h0)
        ·exact Zny h2 (hname it h2) ((hx2 g hg hs).2 h1 it)
       ·rcases hc with ⟨h0,rfl⟩|⟨h1,h2⟩
        ·exact Znx (Zph hlb (Ziz hg h0))
        ·exact Zny (E:=fun i=>Za6 (Zaz (Zf m) b).1 (ZaI m (Z0 (ZaV m ops) cart) b) 1 i) h2 (hname it h2) (Zph hlb (Ziz hg h1))
       ·have q1:=Zrr g (Zo (ZaI m (Z0 (ZaV m ops) cart) b) ⟨it,g.at'⟩);have q2:=Zhb (ZaI m (Z0 (ZaV m ops) cart) b) ⟨it,g.at'⟩;have q3:=ZfB m (Z0 (ZaV m ops) cart) b;have q4:(Z0 (ZaV m ops) cart).length≤(ZaV m ops).length:=List.length_filter_le _ _;have q5:=ZdH m ops;omega
      have hFX:=fun it r=>ZiO ⟨H,I.map fun i=>⟨i,E i⟩⟩ it r fX ⟨okX.e,fun r hr=>(okX.s r hr).2⟩
      have hFB:=fun it r=>ZiO _ it r fB ⟨okB.e,fun r hr=>(okB.s r hr).2⟩
      clear ea eb ca cb hx2 hrd hrb okA okX okB fX fB;generalize Za6 (Zaz (Zf m) a).1 (ZaI m (Z0 (ZaV m ops) cart) a) 0 []=HA at *;generalize (I.map fun i=>(⟨i,Za6 (Zaz (Zf m) a).1 (ZaI m (Z0 (ZaV m ops) cart) a) 1 i⟩:Rw))=RA at *;generalize Za6 (Zaz (Zf m) b).1 (ZaI m (Z0 (ZaV m ops) cart) b) 0 []=HB at *;have hRB:(I.map fun i=>(⟨i,Za6 (Zaz (Zf m) b).1 (ZaI m (Z0 (ZaV m ops) cart) b) 1 i⟩:Rw)).length=I.length:=List.length_map _;have hRX:(I.map fun i=>(⟨i,E i⟩:Rw)).length=I.length:=List.length_map _;generalize (I.map fun i=>(⟨i,Za6 (Zaz (Zf m) b).1 (ZaI m (Z0 (ZaV m ops) cart) b) 1 i⟩:Rw))=RB at *;generalize (I.map fun i=>(⟨i,E i⟩:Rw))=RX at *;generalize Zaz (Zf m) b=sb at *;obtain⟨F,cF⟩:=sb;simp only at hb0 okF hrF findX;subst hb0;have hFl:=okF.n;have hFm:F.length≤maxLen:=by rw[Zd];omega
      have hne:((RX.length:Int) !=(RB.length:Int))=false:=by rw[hRX,hRB];simp
      refine pov Tryz.func7 (by decide) rfl Tryz.ntmps7 Tryz.results7 (by simp) rfl ?_;simp only[go_sem,egs,Zad,tg];refine Za (ZbU) ?_ ?_ ?_;iterate 2 simp only[go_sem]
      simp only[go_sem];refine Za (hH) ?_ ?_ ?_;iterate 2 simp only[go_sem,egs]
      simp only[go_sem];refine Za (hJ) ?_ ?_ ?_;iterate 2 simp only[go_sem,Zad]
      simp only[go_sem];refine Za (hA) ?_ ?_ ?_;iterate 2 simp only[go_sem,Zad]
      simp only[go_sem];refine Za (hG) ?_ ?_ ?_;iterate 2 simp only[go_sem,egs]
      simp only[go_sem,grv];refine Za (hV) ?_ ?_ ?_;iterate 2 simp only[go_sem,tr,Zad,tg]
      simp only[go_sem,ZoQ,doc];refine Za (hW) ?_ ?_ ?_;iterate 2 simp only[go_sem,tr,Zad,tg]
      simp only[go_sem,ZoQ,doc];refine Za (hTo) ?_ ?_ ?_;iterate 2 simp only[go_sem,tr,tg,doc]
      simp only[go_sem,Znp,doc,List.length_map,hne];refine Za (hS) ?_ ?_ ?_;iterate 2 simp only[go_sem,tr,tg]
      simp only[go_sem,ZaB,Zn];refine ZI (ι:= { x:Nat // x≤(F).length }) 189 (fun x=> [(1,Zad ops),(2,.str cart),(8,.ptr 8 0),(9,.ptr 9 0),(11,tr (Zf m)),(16,.ptr 16 0),(18,.ptr 18 0),(20,Zn F),(22,.int .i64 (x.1:Int))]) (fun x=> [(8,[.int .i64 a.r,.int .i64 a.n],false),(9,[.int .i64 b.r,.int .i64 b.n],false),(16,[.sl .no (HB.map ent),.sl .no (RB.map row)],false),(18,[.sl .no (H.map ent),.sl .no (RX.map row)],false)]) (fun x=> []) (fun x=>(F).length-x.1) ⟨0,Nat.zero_le _⟩ ⟨rfl,(Fc9 rfl rfl rfl rfl rfl rfl rfl rfl rfl),(Fc4 ⟨rfl,rfl⟩ ⟨rfl,rfl⟩ ⟨rfl,rfl⟩ ⟨rfl,rfl⟩),fnl⟩ (fun x=>⟨(Fc9 rfl rfl rfl rfl rfl rfl rfl rfl rfl),(Fc4 rfl rfl rfl rfl)⟩) (fun x=> ?_);obtain⟨k,hk⟩:=x;simp only at hk ⊢
      by_cases h:(k:Int)<(F.length:Int)
      ·(have hka:k<(F).length:=by omega);(have w1:=Zcd hka (hFm));(have i1:(0:Int)≤(k:Int):=by omega)
       have hSk:=hSu (F.getD k default).at';have hgF:F.getD k default∈F:=Zg hka;have hfk:=findX;cases hs:ZpZ m a b (F.getD k default).at'
       ·rw[hs]at hSk;simp only[go_sem,Zn,h,List.length_map];refine Ze (by kernel_rfl) (by kernel_rfl) ?_;simp only[go_sem,ZL hka,fld,i1,h];refine Za (hSk) ?_ ?_ ?_;iterate 2 simp only[go_sem,tr,tg,ref]
        simp only[go_sem,kpc,w1];exact⟨⟨k+1,by(try simp only);omega⟩,by show(F).length-(k+1)<(F).length-k;omega,⟨rfl,(Fc9 rfl rfl rfl rfl rfl rfl rfl rfl rfl),(Fc4 ⟨rfl,rfl⟩ ⟨rfl,rfl⟩ ⟨rfl,rfl⟩ ⟨rfl,rfl⟩),fnl⟩⟩
       ·rw[hs]at hSk;have hsc01:=Zwu (hrF _ hgF);generalize hgg:F.getD k default=g at *;have fin:∀it,(g.at'.sc=0∧it= []∨g.at'.sc=1∧it∈I)→ ∃e,PL.Pure Tryz.prog 26 [doc ⟨H,RX⟩,.str it,ref g.at'] (ZdE (e,0))∧PL.Pure Tryz.prog 26 [doc ⟨HB,RB⟩,.str it,ref g.at'] (ZdE (e,0))∧PL.Pure Tryz.prog 27 [Zaj [e],Zaj [e]] (.bool true):=fun it hc=>by
         obtain⟨e,e1,e2,e3⟩:=findX it g hgF hs hc;have q1:=hFX it g.at';have q2:=hFB it g.at';rw[e1]at q1;rw[e2]at q2;have q3:=ZcO [e] [e] (by rw[Zd];simp) (by rw[Zd];simp) (fun x hx=>by rw[List.mem_singleton]at hx;subst hx;rw[Zd];omega) (fun x hx=>by rw[List.mem_singleton]at hx;subst hx;rw[Zd];omega);rw[decide_eq_true rfl]at q3;exact⟨e,q1,q2,q3⟩
        by_cases hsc:g.at'.sc=1
        ·have eb:(g.at'.sc==1)=true:=by simpa using hsc
         simp only[go_sem,Zn,h,List.length_map];refine Ze (by kernel_rfl) (by kernel_rfl) ?_;simp only[go_sem,ZL hka,hgg,fld,i1,h];refine Za (hSk) ?_ ?_ ?_;iterate 2 simp only[go_sem,tr,tg,ref]
         simp only[go_sem,kpc,Zn,h,List.length_map,ZL hka,hgg,fld,i1,eb];refine Za (hIt) ?_ ?_ ?_;iterate 2 simp only[go_sem,tr,Zad]
         simp only[go_sem];refine ZI (ι:= { x:Nat // x≤(I).length }) 189 (fun x=> [(1,Zad ops),(2,.str cart),(8,.ptr 8 0),(9,.ptr 9 0),(11,tr (Zf m)),(16,.ptr 16 0),(18,.ptr 18 0),(20,Zn F),(22,.int .i64 (k:Int)),(25,.sl .no (I.map .str)),(26,.int .i64 (x.1:Int))]) (fun x=> [(8,[.int .i64 a.r,.int .i64 a.n],false),(9,[.int .i64 b.r,.int .i64 b.n],false),(16,[.sl .no (HB.map ent),.sl .no (RB.map row)],false),(18,[.sl .no (H.map ent),.sl .no (RX.map row)],false)]) (fun x=> []) (fun x=>(I).length-x.1) ⟨0,Nat.zero_le _⟩ ⟨rfl,(Fc11 rfl rfl rfl rfl rfl rfl rfl rfl rfl rfl rfl),(Fc4 ⟨rfl,rfl⟩ ⟨rfl,rfl⟩ ⟨rfl,rfl⟩ ⟨rfl,rfl⟩),fnl⟩ (fun x=>⟨(Fc11 rfl rfl rfl rfl rfl rfl rfl rfl rfl rfl rfl),(Fc4 rfl rfl rfl rfl)⟩) (fun x=> ?_);obtain⟨kb,hkb⟩:=x;simp only at hkb ⊢
         by_cases hb:(kb:Int)<(I.length:Int)
         ·(have hkab:kb<(I).length:=by omega);(have w1b:=Zcd hkab (hil));(have i1b:(0:Int)≤(kb:Int):=by omega)
          obtain⟨e,f1,f2,f3⟩:=fin (I.getD kb []) (.inr ⟨hsc,Zg hkab⟩);have gs:=ZR hkab;simp only[go_sem,hb,List.length_map,Zn];refine ZoG [] [] (by kernel_rfl) (by kernel_rfl) (by exact rfl) (by exact rfl) ?_;simp only[go_sem,ZL hka,hgg,fld,i1,h,gs,i1b,hb,List.length_map];refine Za (f1) ?_ ?_ ?_;iterate 2 simp only[go_sem,doc,ref]
          simp only[go_sem,ZdE,ent];refine ZoG [] [] (by kernel_rfl) (by kernel_rfl) (by exact rfl) (by exact rfl) ?_;simp only[go_sem,ZL hka,hgg,fld,i1,h,gs,i1b,hb,List.length_map];refine Za (f2) ?_ ?_ ?_;iterate 2 simp only[go_sem,doc,ref]
          simp only[go_sem,ZdE,ent];refine Za (f3) ?_ ?_ ?_;iterate 2 simp only[go_sem,Zaj,ent,List.map_cons,List.map_nil]
          simp only[go_sem,w1b];exact⟨⟨kb+1,by(try simp only);omega⟩,by show(I).length-(kb+1)<(I).length-kb;omega,⟨rfl,(Fc11 rfl rfl rfl rfl rfl rfl rfl rfl rfl rfl rfl),(Fc4 ⟨rfl,rfl⟩ ⟨rfl,rfl⟩ ⟨rfl,rfl⟩ ⟨rfl,rfl⟩),fnl⟩⟩
         ·simp only[go_sem,hb,List.length_map,Zn,w1];exact⟨⟨k+1,by omega⟩,by show F.length-(k+1)<F.length-k;omega,⟨rfl,(Fc9 rfl rfl rfl rfl rfl rfl rfl rfl rfl),Fc4 ⟨rfl,rfl⟩ ⟨rfl,rfl⟩ ⟨rfl,rfl⟩ ⟨rfl,rfl⟩,fnl⟩⟩
        ·have eb:(g.at'.sc==1)=false:=by simpa using hsc
         simp only[go_sem,Zn,h,List.length_map];refine Ze (by kernel_rfl) (by kernel_rfl) ?_;simp only[go_sem,ZL hka,hgg,fld,i1,h];refine Za (hSk) ?_ ?_ ?_;iterate 2 simp only[go_sem,tr,tg,ref]
         simp only[go_sem,kpc,Zn,h,List.length_map,ZL hka,hgg,fld,i1,eb];refine ZI (ι:= { x:Nat // x≤(one0).length }) 189 (fun x=> [(1,Zad ops),(2,.str cart),(8,.ptr 8 0),(9,.ptr 9 0),(11,tr (Zf m)),(16,.ptr 16 0),(18,.ptr 18 0),(20,Zn F),(22,.int .i64 (k:Int)),(25,.sl (.row 129) (one0.map .str)),(26,.int .i64 (x.1:Int))]) (fun x=> [(8,[.int .i64 a.r,.int .i64 a.n],false),(9,[.int .i64 b.r,.int .i64 b.n],false),(16,[.sl .no (HB.map ent),.sl .no (RB.map row)],false),(18,[.sl .no (H.map ent),.sl .no (RX.map row)],false)]) (fun x=> [(129,.live (1) (1) (9))]) (fun x=>(one0).length-x.1) ⟨0,Nat.zero_le _⟩ ⟨rfl,(Fc11 rfl rfl rfl rfl rfl rfl rfl rfl rfl rfl rfl),(Fc4 ⟨rfl,rfl⟩ ⟨rfl,rfl⟩ ⟨rfl,rfl⟩ ⟨rfl,rfl⟩),(fcs rfl fnl)⟩ (fun x=>⟨(Fc11 rfl rfl rfl rfl rfl rfl rfl rfl rfl (by simp[PV.ids,ZV]) rfl),(Fc4 rfl rfl rfl rfl)⟩) (fun x=> ?_);obtain⟨kb,hkb⟩:=x;simp only at hkb ⊢;have h1l:=ZqX
         by_cases hb:(kb:Int)<(one0.length:Int)
         ·(have hkab:kb<(one0).length:=by omega);(have w1b:=Zcd hkab (by rw[ZqX,Zd];decide));(have i1b:(0:Int)≤(kb:Int):=by omega)
          have hk0:kb=0:=by omega
          obtain⟨e,f1,f2,f3⟩:=fin (one0.getD kb []) (.inl ⟨by omega,by subst hk0;rfl⟩);have gs:=ZR hkab;simp only[go_sem,hb,List.length_map,Zn];refine ZoG [] [] (by kernel_rfl) (by kernel_rfl) (by exact rfl) (by exact rfl) ?_;simp only[go_sem,ZL hka,hgg,fld,i1,h,gs,i1b,hb,List.length_map];refine Za (f1) ?_ ?_ ?_;iterate 2 simp only[go_sem,doc,ref]
          simp only[go_sem,ZdE,ent];refine ZoG [] [] (by kernel_rfl) (by kernel_rfl) (by exact rfl) (by exact rfl) ?_;simp only[go_sem,ZL hka,hgg,fld,i1,h,gs,i1b,hb,List.length_map];refine Za (f2) ?_ ?_ ?_;iterate 2 simp only[go_sem,doc,ref]
          simp only[go_sem,ZdE,ent];refine Za (f3) ?_ ?_ ?_;iterate 2 simp only[go_sem,Zaj,ent,List.map_cons,List.map_nil]
          simp only[go_sem,w1b];exact⟨⟨kb+1,by(try simp only);omega⟩,by show(one0).length-(kb+1)<(one0).length-kb;omega,⟨rfl,(Fc11 rfl rfl rfl rfl rfl rfl rfl rfl rfl rfl rfl),(Fc4 ⟨rfl,rfl⟩ ⟨rfl,rfl⟩ ⟨rfl,rfl⟩ ⟨rfl,rfl⟩),(fcs rfl fnl)⟩⟩
         ·simp only[go_sem,hb,List.length_map,Zn,w1];exact⟨⟨k+1,by omega⟩,by show F.length-(k+1)<F.length-k;omega,⟨rfl,(Fc9 rfl rfl rfl rfl rfl rfl rfl rfl rfl),Fc4 ⟨rfl,rfl⟩ ⟨rfl,rfl⟩ ⟨rfl,rfl⟩ ⟨rfl,rfl⟩,fnl⟩⟩
      ·simp only[go_sem,h,List.length_map,Zn]
     ·have hbad:=Zrt cb;have fa:ZsW (ZdZ m ops cart a).1:=Zvc hm;have hS1:=Zgd _ _ fa fd;have hS2:=Zgd _ _ fd fd;rw[decide_eq_true rfl]at hS2;have hc1:((ZdZ m ops cart a).2 !=0)=false:=by simp[ca]
      have hc2:((ZdZ m ops cart b).2 !=0)=true:=by simpa using cb
      generalize ZdZ m ops cart a=ya at *;obtain⟨⟨hda,rwa'⟩,c1⟩:=ya;generalize ZdZ m ops cart b=yb at *;obtain⟨⟨hdb,rwb⟩,c2⟩:=yb;simp only at hbad ca hc1 hc2;obtain⟨rfl,rfl⟩:hdb= []∧rwb= []:=by cases hbad;exact⟨rfl,rfl⟩
      clear hbad;subst ca;rw[ZaZ]at hS1 hS2;cases hd:decide ((⟨hda,rwa'⟩:Dc)=default);all_goals rw[hd]at hS1
      all_goals
       refine pov Tryz.func7 (by decide) rfl Tryz.ntmps7 Tryz.results7 (by simp) rfl ?_;simp only[go_sem,egs,Zad,tg];refine Za (ZbU) ?_ ?_ ?_;iterate 2 simp only[go_sem]
       simp only[go_sem];refine Za (hH) ?_ ?_ ?_;iterate 2 simp only[go_sem,egs]
       simp only[go_sem];refine Za (hJ) ?_ ?_ ?_;iterate 2 simp only[go_sem,Zad]
       simp only[go_sem];refine Za (hA) ?_ ?_ ?_;iterate 2 simp only[go_sem,Zad]
       simp only[go_sem];refine Za (hG) ?_ ?_ ?_;iterate 2 simp only[go_sem,egs]
       simp only[go_sem,grv];refine Za (hV) ?_ ?_ ?_;iterate 2 simp only[go_sem,tr,Zad,tg]
       simp only[go_sem,ZoQ,doc];refine Za (hW) ?_ ?_ ?_;iterate 2 simp only[go_sem,tr,Zad,tg]
       simp only[go_sem,ZoQ,doc,hc2,List.map_nil];refine Za (hS1) ?_ ?_ ?_;iterate 2 simp only[go_sem,doc,List.map_nil]
       simp only[go_sem]
      refine Za (hS2) ?_ ?_ ?_;iterate 2 simp only[go_sem,List.map_nil]
      simp only[go_sem]
    ·have hbad:=Zrt ca;have hS2:=Zgd _ _ fd fd;rw[decide_eq_true rfl]at hS2;have hc1:((ZdZ m ops cart a).2 !=0)=true:=by simpa using ca
     generalize ZdZ m ops cart a=ya at *;obtain⟨⟨hda,rwa'⟩,c1⟩:=ya;generalize ZdZ m ops cart b=yb at *;obtain⟨⟨hdb,rwb⟩,c2⟩:=yb;simp only at hbad ca hc1;obtain⟨rfl,rfl⟩:hda= []∧rwa'= []:=by cases hbad;exact⟨rfl,rfl⟩
     clear hbad;rw[ZaZ]at hS2;refine pov Tryz.func7 (by decide) rfl Tryz.ntmps7 Tryz.results7 (by simp) rfl ?_;simp only[go_sem,egs,Zad,tg];refine Za (ZbU) ?_ ?_ ?_;iterate 2 simp only[go_sem]
     simp only[go_sem];refine Za (hH) ?_ ?_ ?_;iterate 2 simp only[go_sem,egs]
     simp only[go_sem];refine Za (hJ) ?_ ?_ ?_;iterate 2 simp only[go_sem,Zad]
     simp only[go_sem];refine Za (hA) ?_ ?_ ?_;iterate 2 simp only[go_sem,Zad]
     simp only[go_sem];refine Za (hG) ?_ ?_ ?_;iterate 2 simp only[go_sem,egs]
     simp only[go_sem,grv];refine Za (hV) ?_ ?_ ?_;iterate 2 simp only[go_sem,tr,Zad,tg]
     simp only[go_sem,ZoQ,doc];refine Za (hW) ?_ ?_ ?_;iterate 2 simp only[go_sem,tr,Zad,tg]
     simp only[go_sem,ZoQ,doc,hc1,List.map_nil];refine Za (hS2) ?_ ?_ ?_;iterate 2 simp only[go_sem,List.map_nil]
     simp only[go_sem]
  ·rw[hj]at hJ;refine pov Tryz.func7 (by decide) rfl Tryz.ntmps7 Tryz.results7 (by simp) rfl ?_;simp only[go_sem,egs,Zad,tg];refine Za (ZbU) ?_ ?_ ?_;iterate 2 simp only[go_sem]
   simp only[go_sem];refine Za (hH) ?_ ?_ ?_;iterate 2 simp only[go_sem,egs]
   simp only[go_sem];refine Za (hJ) ?_ ?_ ?_;iterate 2 simp only[go_sem,Zad]
   simp only[go_sem]
 ·rw[hh]at hH;refine pov Tryz.func7 (by decide) rfl Tryz.ntmps7 Tryz.results7 (by simp) rfl ?_;simp only[go_sem,egs,Zad,tg];refine Za (ZbU) ?_ ?_ ?_;iterate 2 simp only[go_sem]
  simp only[go_sem];refine Za (hH) ?_ ?_ ?_;iterate 2 simp only[go_sem,egs]
  simp only[go_sem]
end Go.Proofs.YthingdchjkhfbaaGreat
