/- Contracts of functions and laws of this seat, each for every input that it names: lemmas of the proof. -/
import Derived.Test.YthingdchjkhfbaaGreatXBn
import Derived.Test.YthingdchjkhfbaaGreatXBa
import Derived.Test.YthingdchjkhfbaaGreatXBf
namespace Go.Proofs.YthingdchjkhfbaaGreat
set_option maxHeartbeats 64000000
set_option maxRecDepth 20000
set_option linter.unusedVariables false
set_option linter.unusedSimpArgs false
open Go.PL
def dn (e:Eg):Lg:=⟨e.id,true⟩
def upg (i:Tg):Lg:=⟨i,false⟩
def Zkg (p q:List Eg):List Lg:=((p.drop (lcp p q)).reverse.map fun e=>upg e.id)++(q.drop (lcp p q)).map dn
theorem Zw3 (p:List Eg) (c:Nat) (hc:c≤p.length):(upL p).take (p.length-c)=(p.drop c).reverse.map (·.id):=by
 unfold upL;rw[List.take_append_of_le_length (by simp),←List.map_take,List.take_reverse];congr 3;omega
def Zpw (x:List Lg×Int):PV:= .tup [lgs x.1,.int .i64 x.2]
theorem ZvU (l:List Lg):PV.didsL (l.map lg)= []:=by
 induction l with
 |nil=>rfl
 |cons t l ih=>simp only[List.map_cons,PV.didsL,ih,lg,PV.dids,List.append_nil]
theorem Zwe (l:List Lg):(lgs l).dids= []:=by simp only[lgs,PV.dids,ZvU]
theorem Zlg (x:List Lg×Int):(Zpw x).dids= []:=by simp only[Zpw,PV.dids,PV.didsL,Zwe,List.append_nil]
theorem Zra (l:List Lg):Sized 3 (l.map lg):=fun e he=>by
 obtain⟨x,_,rfl⟩:=List.mem_map.1 he;rfl
def Zbz (m:List Eg) (a b:Tg):Int:=if upC m a≠0 then upC m a else upC m b
def Zsh (m:List Eg) (a b:Tg):List Lg×Int:=if Zbz m a b≠0 then([],Zbz m a b)else(Zkg (Zct m a) (Zct m b),0)
theorem Zbe {m:List Eg} {a b:Tg}:Zbz m a b=0↔upC m a=0∧upC m b=0:=by
 unfold Zbz;split
 ·rename_i h;exact⟨fun h'=>absurd h' h,fun h'=>absurd h'.1 h⟩
 ·rename_i h;exact⟨fun h'=>⟨by simpa using h,h'⟩,fun h'=>h'.2⟩
theorem Zvh {m:List Eg} {a b:Tg} (h:Zbz m a b≠0):ZsU m a b=⟨[],[],0,0,Zbz m a b⟩:=by
 unfold ZsU Zbz at *;split
 ·rfl
 ·rename_i h1;rw[if_neg h1]at h;rw[if_pos h]
theorem ZsV {m:List Eg} {a b:Tg} (h:Zbz m a b=0):ZsU m a b=⟨upL (Zct m a),upL (Zct m b),(Zct m a).length-lcp (Zct m a) (Zct m b),(Zct m b).length-lcp (Zct m a) (Zct m b),0⟩:=by
 obtain⟨h1,h2⟩:=Zbe.1 h;unfold ZsU;rw[if_neg (by simp[h1]),if_neg (by simp[h2])]
theorem Zke {q:List Eg} {c s:Nat} (h:c+s<q.length):(q.drop c).take (s+1)=(q.drop c).take s++ [q.getD (c+s) default]:=by
 rw[List.take_add_one];congr 1;rw[List.getElem?_drop,List.getElem?_eq_getElem h,getD_lt h];rfl
theorem Zs1 (m:List Eg) (a b:Tg) (hm:OkM m):PL.Pure Tryz.prog 81 [tr (Zf m),tg a,tg b] (Zpw (Zsh m a b)):=by
 have hW:=Zvi m a b hm;unfold Zsh
 by_cases hc:Zbz m a b=0
 ·rw[ZsV hc]at hW;obtain⟨ha,hb⟩:=Zbe.1 hc;obtain⟨wa,_,_⟩:=Zar ha;obtain⟨wb,_,_⟩:=Zar hb;simp only[hc,ne_eq,not_true_eq_false,if_false];generalize Zct m a=p at *;generalize Zct m b=q at *;have hlc:=Zle p q;have hpl:p.length≤40:=by have:=wa.len;have:=hm.n;omega
  have hql:q.length≤40:=by have:=wb.len;have:=hm.n;omega
  unfold Zkg;have hut:=Zw3 p (lcp p q) hlc.1;have hdl:(p.drop (lcp p q)).length=p.length-lcp p q:=by simp
  have hql':(q.drop (lcp p q)).length=q.length-lcp p q:=by simp
  generalize hids:(p.drop (lcp p q)).reverse.map (·.id)=ids at *;have hidl:ids.length=p.length-lcp p q:=by rw[←hids];simp
  have hfst:((p.drop (lcp p q)).reverse.map fun e=>upg e.id)=ids.map upg:=by rw[←hids,List.map_map];rfl
  rw[hfst];have hlen:ids.length≤maxLen:=by rw[Zd];omega
  have s0:IntKind.i64.wrap (((p.length-lcp p q:Nat):Int)+((q.length-lcp p q:Nat):Int))=((p.length-lcp p q+(q.length-lcp p q):Nat):Int):=by rw[w64 (by omega)];omega
  have hup:(upL p).length=p.length+1:=Zgt p;refine pov Tryz.func81 (by decide) rfl Tryz.ntmps81 Tryz.results81 (by simp) (Zlg _) ?_;simp only[go_sem,tr,tg];refine Zj5 (ι:= { s:Nat // s≤q.length-lcp p q }) 60 (fun x=> [(9,tgs (upL q)),(11,.int .i64 ((q.length-lcp p q-x.1:Nat):Int)),(13,.sl (.row 58) ((ids.map upg++((q.drop (lcp p q)).take x.1).map dn).map lg))]) (fun x=> []) (fun x=> [(58,.live (ids.length+x.1) 3 147)]) (fun x=>q.length-lcp p q-x.1) 0 _ (by exact rfl)
   (fun x=>⟨Fc3 rfl rfl (by simp[PV.ids,ZV]),fnl⟩) (fun x=> ?_) (fun cut=> ?_)
  ·obtain⟨s,hs⟩:=x;simp only
   by_cases hlt:s<q.length-lcp p q
   ·have c1:(0:Int)<((q.length-lcp p q-s:Nat):Int):=by omega
    have w1:IntKind.i64.wrap (((q.length-lcp p q-s:Nat):Int)-1)=((q.length-(lcp p q+s)-1:Nat):Int):=by rw[w64 (by omega)];omega
    have k1:q.length-(lcp p q+s)-1<(upL q).length:=by rw[Zgt];omega
    have b1:(0:Int)≤((q.length-(lcp p q+s)-1:Nat):Int):=by omega
    have b2:((q.length-(lcp p q+s)-1:Nat):Int)<((upL q).length:Int):=by omega
    have v1:=Zp8 q (lcp p q+s) (by omega);have hrm:=Za1 (show ids.length+s+1≤1000000 by omega) (show 24≤1000 by omega);have hsl:(ids.map upg++((q.drop (lcp p q)).take s).map dn).length=ids.length+s:=by simp;omega
    have hnx:=Zke (q:=q) (c:=lcp p q) (s:=s) (by omega);simp only[go_sem,tgs,c1,w1,ZaL k1,v1,tg,b1,b2,Zra,hsl,List.length_map,hrm];refine⟨⟨s+1,by omega⟩,by show q.length-lcp p q-(s+1)<q.length-lcp p q-s;omega,⟨rfl,fcs rfl (fcs ?_ (fcs ?_ fnl)),fnl,fcs ?_ fnl⟩⟩
    ·show PV.int .i64 _=PV.int .i64 _;congr 2;simp only;omega
    ·show PV.sl (.row 58) _=PV.sl (.row 58) _;simp[hnx,dn,lg]
    ·rfl
   ·obtain rfl:s=q.length-lcp p q:=by omega
    have c1:¬(0:Int)<((q.length-lcp p q-(q.length-lcp p q):Nat):Int):=by omega
    have htk:(q.drop (lcp p q)).take (q.length-lcp p q)=q.drop (lcp p q):=List.take_of_length_le (by omega);simp only[go_sem,tgs,c1,Zpw,lgs,htk]
  ·simp only[go_sem];refine Za (hW) ?_ ?_ ?_;iterate 2 simp only[go_sem,tr,tg]
   simp only[go_sem,Zvs,tgs,s0];repeat((with_reducible refine And.intro ?_ ?_);(focus((repeat' (with_reducible apply And.intro))<;>(first|omega|exact Zbf (by omega) (by omega)|exact Zbf (by simp;omega) (by omega)|exact ZaJ _|(simp;done)|(simp;omega)))))
   have htt:PL.cut (List.map tg (upL p)) 0 ((p.length-lcp p q:Nat):Int)=ids.map tg:=by simp[PL.cut,←List.map_take,hut]
   refine⟨⟨by omega,by omega,ZmB _⟩,?_⟩;simp only[go_sem,htt,List.length_map];refine Zas 13 32 45 0 3 147 [] rfl rfl rfl ?_;refine ZI (ι:= { x:Nat // x≤(ids).length }) 60 (fun x=> [(9,tgs (upL q)),(11,.int .i64 ((q.length-lcp p q:Nat):Int)),(13,.sl (.row 45) (((ids.take x.1).map upg).map lg)),(35,tgs ids),(36,.int .i64 (ids.length:Int)),(37,.int .i64 (x.1:Int))]) (fun x=> []) (fun x=> [(45,.live (x.1) (3) (147))]) (fun x=>(ids).length-x.1) ⟨0,Nat.zero_le _⟩ ⟨rfl,(Fc6 rfl rfl rfl rfl rfl rfl),fnl,(fcs rfl fnl)⟩ (fun x=>⟨(Fc6 rfl rfl (by simp[PV.ids,ZV]) rfl rfl rfl),fnl⟩) (fun x=> ?_);obtain⟨k,hk⟩:=x;simp only at hk ⊢
   by_cases h:(k:Int)<(ids.length:Int)
   ·(have hka:k<(ids).length:=by omega);(have w1:=Zcd hka (hlen));(have i1:(0:Int)≤(k:Int):=by omega)
    have hts:ids.take (k+1)=ids.take k++ [ids.getD k default]:=by rw[List.take_add_one,getD_lt hka];simp[hka]
    have hkl:(ids.take k).length=k:=by simp;omega
    have hrm:=Za1 (show k+1≤1000000 by omega) (show 24≤1000 by omega);simp only[go_sem,h,tgs,ZaL hka,tg,i1,w1,Zra,List.length_map,hkl,hrm];exact⟨⟨k+1,by(try simp only);omega⟩,by show(ids).length-(k+1)<(ids).length-k;omega,⟨rfl,(Fc6 rfl rfl (by(show PV.sl _ _=PV.sl _ _;simp[hts,upg,lg])) rfl rfl rfl),fnl,(fcs rfl fnl)⟩⟩
   ·obtain rfl:k=ids.length:=by omega
    have htk:ids.take ids.length=ids:=List.take_length;simp only[go_sem,h,htk];refine Zas 13 45 58 ids.length 3 147 ((ids.map upg).map lg) rfl rfl rfl ?_;exact Zax (cut ⟨0,Nat.zero_le _⟩ _ ⟨rfl,Fc3 rfl rfl (by simp[upd,St.with]),fnl,fcs (by simp[upd,Hp.setq,St.with]) fnl⟩)
 ·have hc':(Zbz m a b !=0)=true:=by simpa using hc
  rw[Zvh hc]at hW;simp only[ne_eq,hc,not_false_eq_true,if_true];refine pov Tryz.func81 (by decide) rfl Tryz.ntmps81 Tryz.results81 (by simp) (Zlg _) ?_;simp only[go_sem,tr,tg];refine ZdY ?_;simp only[go_sem];refine Za (hW) ?_ ?_ ?_;iterate 2 simp only[go_sem,tr,tg]
  simp only[go_sem,Zvs,tgs,hc',Zpw,lgs,List.map_nil]
open Go.PL
def awX:Ln:=⟨1,⟨1,[],[110,111,116,101]⟩,[109,101,109,111],[],0,default,[],[]⟩
def awA:Eg:=⟨⟨1,1⟩,default,awX⟩
def awB:Eg:=⟨⟨2,1⟩,default,awX⟩
theorem ZCQ:OkLn awX:=⟨by decide,by decide,by decide⟩
theorem ZDU:Zmx [] awA=([awA],0):=by decide+kernel
theorem ZDV:Zmx [awA] awB=([awA,awB],0):=by decide+kernel
theorem okA:OkM [awA]:=by have:=Zwl Zmt (e:=awA) ZCQ;rw[ZDU]at this;exact this
theorem okB:OkM [awA,awB]:=by have:=Zwl okA (e:=awB) ZCQ;rw[ZDV]at this;exact this
theorem ZqK (m:List Eg) (a b:Tg) (hm:OkM m):(Zsh m a b).1.length≤80:=by
 unfold Zsh;split
 ·simp
 ·rename_i h;have h:=Zbe.1 (by simpa using h);have w1:=(Zar h.1).1.len;have w2:=(Zar h.2).1.len;have:=hm.n;simp only[Zkg,List.length_append,List.length_map,List.length_reverse,List.length_drop];omega
theorem okL {l:List Eg} (h:Zjr l 50=false):l.length≤50∧ ∀e∈l,OkLn e.ln:=by
 simp only[Zjr,Bool.or_eq_false_iff,decide_eq_false_iff_not,List.any_eq_false]at h;exact⟨by omega,fun e he=>Zui (by simpa using h.2 e he)⟩
open Go.PL
theorem ZT {x:Ln} (h:Zu x=true):(x.kind=1∨x.kind=2∨x.kind=3∨x.kind=4∨x.kind=5∨x.kind=6∨x.kind=7∨x.kind=8∨x.kind=9∨x.kind=10)∧(x.kind≠8→x.fo= []∧x.ba= []):=by
 unfold Zu at h;split at h
 ·rename_i hk;simp only[Bool.and_eq_true,Bool.not_eq_true']at h;exact⟨by omega,fun _=>ZeU.1 h.2.2.2.2.1⟩
 ·simp only[Bool.and_eq_true]at h;obtain⟨_,h⟩:=h;split at h
  ·rename_i hk;exact⟨by omega,fun hn=>absurd hk hn⟩
  ·simp only[Bool.and_eq_true,Bool.not_eq_true']at h;refine⟨?_,fun _=>ZeU.1 h.1⟩;have h:=h.2;split at h
   ·omega
   ·simp only[Bool.and_eq_true]at h;have h:=h.2;split at h
    ·omega
    ·simp only[Bool.and_eq_true]at h;have h:=h.2;split at h
     ·omega
     ·split at h
      ·omega
      ·simp only[Bool.and_eq_true,decide_eq_true_eq]at h;omega
def Zmm (m:List Eg) (x:Lg):Ln×Int:=match Zbv m x.id with|none=>(default,6)|some e=>if x.down=true then(e.ln,0)else(ZbR e.ln,0)
structure RightM (m:List Eg):Prop where
 r:∀e∈m,Zge e=true
theorem ZkQ {e:Eg} (h:Zge e=true):Zu e.ln=true:=by
 simp only[Zge,Bool.and_eq_true]at h;exact h.2.2.2.2
theorem ZwD {m:List Eg} (h:RightM m) (e:Eg):RightM (Zmx m e).1:=by
 unfold Zmx;split
 ·exact h
 ·rename_i hb;split
  ·split<;>exact h
  ·split
   ·exact h
   ·refine⟨fun x hx=> ?_⟩;rcases List.mem_append.1 hx with hx|hx
    ·exact h.r x hx
    ·rw[List.mem_singleton.1 hx];simpa using hb
theorem Zls:∀(l:List Eg) {m:List Eg},RightM m→RightM (l.foldl (fun m e=>(Zmx m e).1) m)
 | [],m,h=>h
 |e::l,m,h=>Zls l (ZwD h e)
theorem Zog:RightM []:=⟨fun e h=>by cases h⟩
theorem ZrH (m:List Eg) (x:Lg) (hm:OkM m) (hr:RightM m):PL.Pure Tryz.prog 82 [tr (Zf m),lg x] (lnc (Zmm m x)):=by
 have hF:=ZkF m x.id hm;unfold Znw at hF;unfold Zmm;cases hf:Zbv m x.id with
 |none=>
  rw[hf]at hF;simp only at hF ⊢;refine pov Tryz.func82 (by decide) rfl Tryz.ntmps82 Tryz.results82 (by simp) (ZgV _) ?_;simp only[go_sem,tr,lg];refine Za (hF) ?_ ?_ ?_;iterate 2 simp only[go_sem,tr,tg]
  simp only[go_sem,edc,ZkR,lnc,Zjy]
 |some e=>
  rw[hf]at hF;simp only at hF ⊢;have hem:=(Zb7 hf).2;have hO:=ZiP e.ln (hm.l e hem);have hI:=Zm0 e.ln (hm.l e hem);have hi:ZBa e.ln=(ZbR e.ln,0):=by unfold ZBa;rw[ZkQ (hr.r e hem)];rfl
  rw[hi]at hI;obtain⟨id,down⟩:=x;cases down
  ·refine pov Tryz.func82 (by decide) rfl Tryz.ntmps82 Tryz.results82 (by simp) (ZgV _) ?_;simp only[go_sem,tr,lg];refine Za (hF) ?_ ?_ ?_;iterate 2 simp only[go_sem,tr,tg]
   simp only[go_sem,edc,eg];refine Za (hI) ?_ ?_ ?_;iterate 2 simp only[go_sem,lns]
   simp only[go_sem,lnc,lns,Bool.false_eq_true,if_false]
  ·refine pov Tryz.func82 (by decide) rfl Tryz.ntmps82 Tryz.results82 (by simp) (ZgV _) ?_;simp only[go_sem,tr,lg];refine Za (hF) ?_ ?_ ?_;iterate 2 simp only[go_sem,tr,tg]
   simp only[go_sem,edc,eg];refine Za (hO) ?_ ?_ ?_;iterate 2 simp only[go_sem,lns]
   simp only[go_sem,lnc,lns,if_true]
theorem ZBP {x:Ln} (h:OkLn x):OkLn (ZbR x):=by
 unfold ZbR;repeat' split
 all_goals first|exact⟨h.c,h.f,h.b⟩|exact⟨h.c,h.b,h.f⟩
theorem ZzR {m:List Eg} (hm:OkM m) (x:Lg):OkLn (Zmm m x).1:=by
 unfold Zmm;split
 ·exact⟨by decide,by decide,by decide⟩
 ·rename_i e he;have:=hm.l e (Zb7 he).2;split
  ·exact this
  ·exact ZBP this
open Go.PL
open Go.PL
theorem Zx6 {m:List Eg} {a b:Tg} (h:Zbz m a b=0) (ha:Apart m):∀x∈Zkg (Zct m a) (Zct m b),∃e,e∈m∧Zbv m x.id=some e∧x.id=e.id:=by
 obtain⟨h1,h2⟩:=Zbe.1 h;obtain⟨wa,_,_⟩:=Zar h1;obtain⟨wb,_,_⟩:=Zar h2;intro x hx;have key:∀e∈m,∃e',e'∈m∧Zbv m e.id=some e'∧e.id=e'.id:=fun e he=>⟨e,he,ha.find he,rfl⟩
 unfold Zkg at hx;rcases List.mem_append.1 hx with hx|hx
 ·obtain⟨e,he,rfl⟩:=List.mem_map.1 hx;exact key e (wa.mem e (List.mem_of_mem_drop (List.mem_reverse.1 he)))
 ·obtain⟨e,he,rfl⟩:=List.mem_map.1 hx;exact key e (wb.mem e (List.mem_of_mem_drop he))
def ZgR (m:List Eg) (l:List Lg):List Ln:=l.map fun x=>(Zmm m x).1
def Zen (m:List Eg) (a b:Tg):List Ln×Int:=if Zbz m a b≠0 then([],Zbz m a b)else(ZgR m (Zkg (Zct m a) (Zct m b)),0)
def ZgW (l:List Ln):PV:= .sl .no (l.map lns)
def Zr9 (x:List Ln×Int):PV:= .tup [ZgW x.1,.int .i64 x.2]
theorem Zt3 (l:List Ln):(ZgW l).dids= []:=by
 unfold ZgW;simp only[PV.dids]
 induction l with
 |nil=>rfl
 |cons e l ih=>simp only[List.map_cons,PV.didsL,ih,ZiB,List.append_nil]
theorem ZnP (x:List Ln×Int):(Zr9 x).dids= []:=by simp only[Zr9,PV.dids,PV.didsL,Zt3,List.append_nil]
theorem ZwL (l:List Ln):Sized 16 (l.map lns):=fun e he=>by
 obtain⟨x,_,rfl⟩:=List.mem_map.1 he;rfl
theorem Zgl {l:List Ln} {i:Nat} (h:i<l.length):(l.map lns).getD i .any=lns (l.getD i default):=Zb9 h
theorem ZlT (m:List Eg) (a b:Tg) (hm:OkM m) (hr:RightM m):PL.Pure Tryz.prog 44 [tr (Zf m),tg a,tg b] (Zr9 (Zen m a b)):=by
 have hP:=Zs1 m a b hm;have hll:=ZqK m a b hm;unfold Zen;unfold Zsh at hP hll
 by_cases hc:Zbz m a b=0
 ·have hin:=Zx6 hc hm.a;simp only[hc,ne_eq,not_true_eq_false,if_false]at hP hll ⊢;generalize Zkg (Zct m a) (Zct m b)=legs at *;have hlm:legs.length≤maxLen:=by rw[Zd];omega
  refine pov Tryz.func44 (by decide) rfl Tryz.ntmps44 Tryz.results44 (by simp) (ZnP _) ?_;simp only[go_sem,tr,tg];refine Za (hP) ?_ ?_ ?_;iterate 2 simp only[go_sem,tr,tg]
  simp only[go_sem,Zpw,lgs,List.length_map];repeat((with_reducible refine And.intro ?_ ?_);(focus((repeat' (with_reducible apply And.intro))<;>(first|omega|exact Zbf (by omega) (by omega)|exact Zbf (by simp;omega) (by omega)|exact ZaJ _|(simp;done)|(simp;omega)))))
  refine Zas 10 27 46 0 16 75 [] rfl rfl rfl ?_;refine ZI (ι:= { x:Nat // x≤(legs).length }) 49 (fun x=> [(0,tr (Zf m)),(10,.sl (.row 46) ((ZgR m (legs.take x.1)).map lns)),(28,lgs legs),(29,.int .i64 (legs.length:Int)),(30,.int .i64 (x.1:Int))]) (fun x=> []) (fun x=> [(46,.live (x.1) (16) (75))]) (fun x=>(legs).length-x.1) ⟨0,Nat.zero_le _⟩ ⟨rfl,(Fc5 rfl rfl rfl rfl rfl),fnl,(fcs rfl fnl)⟩ (fun x=>⟨(Fc5 rfl (by simp[PV.ids,ZV]) rfl rfl rfl),fnl⟩) (fun x=> ?_);obtain⟨k,hk⟩:=x;simp only at hk ⊢
  by_cases h:(k:Int)<(legs.length:Int)
  ·(have hka:k<(legs).length:=by omega);(have w1:=Zcd hka (hlm));(have i1:(0:Int)≤(k:Int):=by omega)
   obtain⟨e,he,hfe,_⟩:=hin _ (Zg (d:=default) hka);have hL:=ZrH m (legs.getD k default) hm hr;have hz:(Zmm m (legs.getD k default)).2=0:=by unfold Zmm;rw[hfe];simp only;split<;>rfl
   have hts:legs.take (k+1)=legs.take k++ [legs.getD k default]:=by rw[List.take_add_one,getD_lt hka];simp[hka]
   have hkl:(ZgR m (legs.take k)).length=k:=by simp[ZgR];omega
   have hrm:=Za1 (show k+1≤1000000 by omega) (show 232≤1000 by omega);simp only[go_sem,tr,h,lgs,Zx0 hka,lg,i1];refine Za (hL) ?_ ?_ ?_;iterate 2 simp only[go_sem,tr,lg]
   simp only[go_sem,lnc,hz,lns,ZwL,List.length_map,hkl,hrm,w1];exact⟨⟨k+1,by(try simp only);omega⟩,by show(legs).length-(k+1)<(legs).length-k;omega,⟨rfl,(Fc5 rfl (by(show PV.sl _ _=PV.sl _ _;simp[hts,ZgR,lns])) rfl rfl rfl),fnl,(fcs rfl fnl)⟩⟩
  ·obtain rfl:k=legs.length:=by omega
   have htk:legs.take legs.length=legs:=List.take_length;simp only[go_sem,h,htk,Zr9,ZgW]
 ·have hc':(Zbz m a b !=0)=true:=by simpa using hc
  simp only[ne_eq,hc,not_false_eq_true,if_true]at hP ⊢;refine pov Tryz.func44 (by decide) rfl Tryz.ntmps44 Tryz.results44 (by simp) (ZnP _) ?_;simp only[go_sem,tr,tg];refine Za (hP) ?_ ?_ ?_;iterate 2 simp only[go_sem,tr,tg]
  simp only[go_sem,Zpw,lgs,hc',Zr9,ZgW,List.map_nil]
open Go.PL
theorem ZjQ {x:Ln} (h:Zu x=true) (hk:x.kind=1∨x.kind=2∨x.kind=3∨x.kind=4∨x.kind=5∨x.kind=6∨x.kind=7∨x.kind=8∨x.kind=9∨x.kind=10):Zu (ZbR x)=true:=by
 obtain⟨kind,⟨sc,gr,n0⟩,nm,ot,fac,fd,fo,ba⟩:=x;simp only at hk;rcases hk with rfl|rfl|rfl|rfl|rfl|rfl|rfl|rfl|rfl|rfl
 all_goals
  simp[Zu,ZbR,Zci,Zgs]at h ⊢
  (try(simp_all;done))
  (try(obtain⟨h1,h2⟩:=h;simp_all;done))
 obtain⟨⟨⟨g1,g2,g3⟩,g4⟩,g5,g6,g7,g8,g9⟩:=h;exact⟨⟨⟨g1,g2,.inr g9⟩,g4⟩,g5,g6,g7,fun e=>by subst e;exact absurd g9 (by decide)⟩
theorem ZtD (f:Fd) (r:Rf) (h:f.at'=r):(⟨r,f.kind,f.df,f.cases',f.worth⟩:Fd)=f:=by subst h;rfl
theorem ZzZ {f:Fd} (h:ZO f=true) (hk:f.kind=1):f=⟨f.at',1,[],[],f.worth⟩:=by
 obtain⟨a,k,d,c,w⟩:=f;simp only at hk;subst hk;simp[ZO]at h;simp_all
theorem Zz0 {f:Fd} (h:ZO f=true) (hk:f.kind=2):f=⟨f.at',2,f.df,[],0⟩:=by
 obtain⟨a,k,d,c,w⟩:=f;simp only at hk;subst hk;simp[ZO,Zp0]at h;simp_all
theorem ZiX {l m:List Fd} {x:Ln} (hk:x.kind≤8) (h:Zq l x=(m,0)):Zq m (ZbR x)=(l,0):=by
 obtain⟨hl,hx,cs,l1,h1,h2,h3⟩:=Zaa h;have hkind:x.kind=1∨x.kind=2∨x.kind=3∨x.kind=4∨x.kind=5∨x.kind=6∨x.kind=7∨x.kind=8:=by
  have:=(ZT hx).1;omega
 have hy:=ZjQ hx (by omega);obtain⟨r1,r2,r3⟩:=ZP.1 hl;obtain⟨a1,a2,a3,a4,a5⟩:=ZdG hl h2;obtain⟨b1,b2,b3,b4,b5⟩:=Zbh a1 h3;have hm:=(ZP.1 b1).2.1;have find1:∀ {r:Rf},(Zy l r).2=0→(Zy l r).1∈l∧(Zy l r).1.at'=r:=fun h=>ZaA h
 obtain⟨kind,⟨sc,gr,n0⟩,nm,ot,fac,fd,fo,ba⟩:=x;simp only at hkind;rcases hkind with rfl|rfl|rfl|rfl|rfl|rfl|rfl|rfl
 -- rename
 ·simp only[Zbc,Zc,Zv,Int.reduceEq,if_false,if_true,List.getD_cons_zero]at h1;split at h1
  ·cases h1
  ·rename_i hz;simp only[Prod.mk.injEq,and_true]at h1;obtain⟨f1,f2⟩:=find1 (by simpa using hz);generalize (Zy l ⟨sc,gr,n0⟩).1=f at *;subst h1;refine Zfn hl h2 h3 hy (gs:= [f]) rfl ?_ (by simpa using f1) (by simp[Zl,f2]);have hc:=ZaD hm ((b2 ⟨⟨sc,gr,nm⟩,f.kind,f.df,f.cases',f.worth⟩).2 (.inr (by simp)));simp only[Zbc,ZbR,Zc,Zv,Int.reduceEq,if_false,if_true,List.getD_cons_zero,hc,ne_eq,not_true_eq_false];rw[ZtD f _ f2]
 -- add
 ·simp only[Zbc,Int.reduceEq,if_true,Prod.mk.injEq,and_true]at h1;subst h1;have hc:=ZaD hm ((b2 fd).2 (.inr (by simp)));refine Zfn hl h2 h3 hy (gs:= []) rfl ?_ (by simp) rfl;simp[Zbc,ZbR,hc]
 -- remove
 ·simp only[Zbc,Int.reduceEq,if_false,if_true,Prod.mk.injEq,Bool.and_eq_true,decide_eq_true_eq]at h1;obtain⟨rfl,h4,h5⟩:=h1;obtain⟨f1,f2⟩:=find1 h4;rw[h5]at f1;exact Zfn hl h2 h3 hy (gs:= [fd]) rfl (by simp[Zbc,ZbR]) (by simpa using f1) rfl
 -- hoist
 ·simp only[Zbc,Zc,Int.reduceEq,if_false,if_true,List.getD_cons_zero]at h1;split at h1
  ·cases h1
  ·rename_i hz;simp only[Prod.mk.injEq,and_true]at h1;obtain⟨f1,f2⟩:=find1 (by simpa using hz);generalize (Zy l ⟨sc,gr,n0⟩).1=f at *;subst h1;refine Zfn hl h2 h3 hy (gs:= [f]) rfl ?_ (by simpa using f1) (by simp[Zl,f2]);have hc:=ZaD hm ((b2 ⟨⟨sc,[],n0⟩,f.kind,f.df,f.cases',f.worth⟩).2 (.inr (by simp)));simp only[Zbc,ZbR,Zc,Zv,Int.reduceEq,if_false,if_true,List.getD_cons_zero,hc,ne_eq,not_true_eq_false];rw[ZtD f _ f2]
 -- plunge
 ·have hg:gr= []:=by simp[Zu]at hx;exact hx.2.2.2.2.1
  subst hg;simp only[Zbc,Zc,Int.reduceEq,if_false,if_true,List.getD_cons_zero]at h1;split at h1
  ·cases h1
  ·rename_i hz;simp only[Prod.mk.injEq,and_true]at h1;obtain⟨f1,f2⟩:=find1 (by simpa using hz);generalize (Zy l ⟨sc,[],n0⟩).1=f at *;subst h1;refine Zfn hl h2 h3 hy (gs:= [f]) rfl ?_ (by simpa using f1) (by simp[Zl,f2]);have hc:=ZaD hm ((b2 ⟨⟨sc,nm,n0⟩,f.kind,f.df,f.cases',f.worth⟩).2 (.inr (by simp)));simp only[Zbc,ZbR,Zc,Zv,Int.reduceEq,if_false,if_true,List.getD_cons_zero,hc,ne_eq,not_true_eq_false];rw[ZtD f _ f2]
 -- split
 ·simp only[Zbc,Zv,Int.reduceEq,if_false,if_true]at h1;split at h1
  ·cases h1
  ·rename_i hz;simp only[Prod.mk.injEq,decide_eq_true_eq]at h1;obtain⟨h1,h4⟩:=h1;obtain⟨f1,f2⟩:=find1 (by simpa using hz);generalize (Zy l ⟨sc,gr,n0⟩).1=f at *;subst h1;have hf:=ZzZ (r3 f f1) h4;rw[f2]at hf;refine Zfn hl h2 h3 hy (gs:= [f]) rfl ?_ (by simpa using f1) (by simp[Zl,f2]);have hc:=ZaD hm ((b2 ⟨⟨sc,gr,nm⟩,1,[],[],f.worth⟩).2 (.inr (by simp)));have hd:=ZaD hm ((b2 ⟨⟨sc,gr,ot⟩,1,[],[],IntKind.i64.wrap (f.worth*fac)⟩).2 (.inr (by simp)));simp only[Zbc,Zco,ZbR,Zv,Int.reduceEq,if_false,if_true,hc,hd,ne_eq,not_true_eq_false,or_self];rw[←hf]
 -- wrap
 ·simp only[Zbc,Int.reduceEq,if_false,if_true]at h1;split at h1
  ·cases h1
  ·rename_i hz;simp only[Prod.mk.injEq,Bool.and_eq_true,decide_eq_true_eq]at h1;obtain⟨h1,h4,h5⟩:=h1;obtain⟨f1,f2⟩:=find1 (by simpa using hz);generalize (Zy l ⟨sc,gr,n0⟩).1=f at *;subst h1;have hf:=Zz0 (r3 f f1) h4;rw[f2,h5]at hf;refine Zfn hl h2 h3 hy (gs:= [f]) rfl ?_ (by simpa using f1) (by simp[Zl,f2]);have hc:=ZaD hm ((b2 ⟨⟨sc,gr,n0⟩,4,[],[],0⟩).2 (.inr (by simp)));simp only[Zbc,ZbR,Int.reduceEq,if_false,if_true,hc,ne_eq,not_true_eq_false,decide_true];rw[←hf]
 -- convert
 ·simp only[Zbc,Int.reduceEq,if_false,if_true]at h1;split at h1
  ·cases h1
  ·rename_i hz;simp only[Prod.mk.injEq,decide_eq_true_eq]at h1;obtain⟨h1,h4⟩:=h1;obtain⟨f1,f2⟩:=find1 (by simpa using hz);generalize (Zy l ⟨sc,gr,n0⟩).1=f at *;subst h1;refine Zfn hl h2 h3 hy (gs:= [f]) rfl ?_ (by simpa using f1) (by simp[Zl,f2]);have hc:=ZaD hm ((b2 ⟨⟨sc,gr,n0⟩,3,ot,Zbi ba,0⟩).2 (.inr (by simp)));simp only[Zbc,ZbR,Int.reduceEq,if_false,if_true,hc,ne_eq,not_true_eq_false,decide_true];rw[h4]
end Go.Proofs.YthingdchjkhfbaaGreat
